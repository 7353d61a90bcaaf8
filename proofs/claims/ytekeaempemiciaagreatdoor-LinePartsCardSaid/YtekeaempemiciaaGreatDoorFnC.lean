/- What each function of the program comes to, and that it does, part 3. -/
import Derived.Test.YtekeaempemiciaaGreatDoorFnB
import Derived.KernelRfl
set_option linter.unusedVariables false
namespace Go.Proofs.YtekeaempemiciaaGreatDoor
open Go Go.Rf Go.Proofs Go.RowKit

noncomputable def stamp_unitOf.f (K : Nat) (n0 : Int) : Option ((Int × Int) × Bool) :=
  bif decide (n0 < 0) then some (((0 : Int), (0 : Int)), false)
  else
  bif decide (n0 ≥ 4) then some (((0 : Int), (0 : Int)), false)
  else
  bif idx n0 4 then
    bif decide (n0.toNat < 4) then
      some ((([(1000, 1), (1, 1), (1, 1000), (1, 1000000)] : List (Int × Int)).getD n0.toNat ((0 : Int), (0 : Int))), true)
    else none
  else none
def stamp_unitOf.sig : Sig := ⟨[(.c (.int .i64))], [(.agg (.pair (.int .i64) (.int .i64))), (.c .bool)]⟩
noncomputable def stamp_unitOf.con (K : Nat) : Con := (mkCon stamp_unitOf.sig (fun x => stamp_unitOf.f K x))
noncomputable def stamp_unitOf.ht : HT := .nil
noncomputable def stamp_unitOf.cx (K : Nat) : Cx := ⟨tt, [], [], K, inlOf tt [] [] K (getBody []) 0⟩
theorem stamp_unitOf.eq (K : Nat) (x : PL stamp_unitOf.sig.ps) : evalF (stamp_unitOf.cx K) stamp_unitOf.sig (bodyOf Tryz.f42) stamp_unitOf.ht x = stamp_unitOf.f K x := by kernel_rfl
theorem stamp_unitOf.fok (K : Nat) : FOK Tryz.prog stamp_unitOf.sig (fun x => stamp_unitOf.f K x) 42 := fok_of_eval (tt := tt) (cons := []) (exts := []) (bodies := (getBody [])) (K := K) (d := 0) ⟨ttok, (fun _ _ => getCon_nil), (fun _ _ => getExt_nil), (fun _ _ => getBody_nil)⟩ draw bok42 (stamp_unitOf.eq K)
theorem stamp_unitOf.ok (K : Nat) : ConOK Tryz.prog 42 (stamp_unitOf.con K) := con_ok bok42 (stamp_unitOf.fok K)

noncomputable def stamp_isTime.f (K : Nat) (ms0 : Int) : Option Bool :=
  bif decide (ms0 ≥ (-1125899906842624)) then
    some (decide (ms0 ≤ 1125899906842624))
  else some false
def stamp_isTime.sig : Sig := ⟨[(.c (.int .i64))], [(.c .bool)]⟩
noncomputable def stamp_isTime.con (K : Nat) : Con := (mkCon stamp_isTime.sig (fun x => stamp_isTime.f K x))
noncomputable def stamp_isTime.ht : HT := .nil
noncomputable def stamp_isTime.cx (K : Nat) : Cx := ⟨tt, [], [], K, inlOf tt [] [] K (getBody []) 0⟩
theorem stamp_isTime.eq (K : Nat) (x : PL stamp_isTime.sig.ps) : evalF (stamp_isTime.cx K) stamp_isTime.sig (bodyOf Tryz.f43) stamp_isTime.ht x = stamp_isTime.f K x := by kernel_rfl
theorem stamp_isTime.fok (K : Nat) : FOK Tryz.prog stamp_isTime.sig (fun x => stamp_isTime.f K x) 43 := fok_of_eval (tt := tt) (cons := []) (exts := []) (bodies := (getBody [])) (K := K) (d := 0) ⟨ttok, (fun _ _ => getCon_nil), (fun _ _ => getExt_nil), (fun _ _ => getBody_nil)⟩ draw bok43 (stamp_isTime.eq K)
theorem stamp_isTime.ok (K : Nat) : ConOK Tryz.prog 43 (stamp_isTime.con K) := con_ok bok43 (stamp_isTime.fok K)

noncomputable def stamp_Of.f (K : Nat) (ms0 : Int) (by1 : Int) : Option (Int × Bool) :=
  (stamp_unitOf.f K by1).bind fun (r249, r250) =>
  (((
      bif !r250 then some true
      else
      (stamp_isTime.f K ms0).bind fun r251 =>
      bif !r251 then some true
      else
      bif r249.1 != 0 then
        some ((Int.tmod ms0 r249.1) != 0)
      else none) : Option Bool)).bind fun t252 =>
  bif t252 then some (0, false)
  else
  bif r249.1 != 0 then
    bif r249.2 != 0 then
      bif decide ((IntKind.i64.wrap (Int.tdiv ms0 r249.1)) > (IntKind.i64.wrap (Int.tdiv 9223372036854775807 r249.2))) then some (0, false)
      else
      bif r249.2 != 0 then
        bif decide ((IntKind.i64.wrap (Int.tdiv ms0 r249.1)) < (IntKind.i64.wrap (Int.tdiv (-9223372036854775808) r249.2))) then
          some (0, false)
        else some (IntKind.i64.wrap ((IntKind.i64.wrap (Int.tdiv ms0 r249.1)) * r249.2), true)
      else none
    else none
  else none
def stamp_Of.sig : Sig := ⟨[(.c (.int .i64)), (.c (.int .i64))], [(.c (.int .i64)), (.c .bool)]⟩
noncomputable def stamp_Of.con (K : Nat) : Con := (mkCon stamp_Of.sig (fun x => stamp_Of.f K x.1 x.2))
noncomputable def stamp_Of.ht : HT := .seq .nil (.seq .nil (.seq (.join ⟨7, [], [], ⟨[], []⟩, [(.normal, ⟨[(27, .c (.v .bool))], []⟩)]⟩ (.seq .nil .nil)) .nil))
noncomputable def stamp_Of.cx (K : Nat) : Cx := ⟨tt, [(42, stamp_unitOf.con K), (43, stamp_isTime.con K)], [], K, inlOf tt [(42, stamp_unitOf.con K), (43, stamp_isTime.con K)] [] K (getBody []) 0⟩
theorem stamp_Of.eq (K : Nat) (x : PL stamp_Of.sig.ps) : evalF (stamp_Of.cx K) stamp_Of.sig (bodyOf Tryz.f27) stamp_Of.ht x = stamp_Of.f K x.1 x.2 := by kernel_rfl
theorem stamp_Of.fok (K : Nat) : FOK Tryz.prog stamp_Of.sig (fun x => stamp_Of.f K x.1 x.2) 27 := fok_of_eval (tt := tt) (cons := [(42, stamp_unitOf.con K), (43, stamp_isTime.con K)]) (exts := []) (bodies := (getBody [])) (K := K) (d := 0) ⟨ttok, (getCon_cons (stamp_unitOf.ok K) (getCon_cons (stamp_isTime.ok K) (fun _ _ => getCon_nil))), (fun _ _ => getExt_nil), (fun _ _ => getBody_nil)⟩ draw bok27 (stamp_Of.eq K)
theorem stamp_Of.ok (K : Nat) : ConOK Tryz.prog 27 (stamp_Of.con K) := con_ok bok27 (stamp_Of.fok K)

noncomputable def class_hasAny.f (K : Nat) (s0 : List UInt8) (any1 : List UInt8) : Option Bool :=
  ((loopN K (fun (s_ : List UInt8 × Int) =>
    match s_ with
    | (b0_320, b0_321) =>
      bif decide (b0_321 < (b0_320.length : Int)) then
        ((loopN K (fun (s_ : List UInt8 × Int) =>
          match s_ with
          | (b1_326, b1_327) =>
            bif decide (b1_327 < (b1_326.length : Int)) then
              bif ((Utf8.decode ⟨b0_320.toArray⟩ b0_321.toNat).1 : Int) == ((Utf8.decode ⟨b1_326.toArray⟩ b1_327.toNat).1 : Int) then
                some (.inr (.inr (true, b1_326, b1_327 + ((Utf8.decode ⟨b1_326.toArray⟩ b1_327.toNat).2 : Int))))
              else some (.inl (b1_326, b1_327 + ((Utf8.decode ⟨b1_326.toArray⟩ b1_327.toNat).2 : Int)))
            else some (.inr (.inl (b1_326, b1_327)))) (any1, 0) : Option ((List UInt8 × Int) ⊕ (Bool × List UInt8 × Int)))).bind fun e_ =>
        match e_ with
        | .inl (b1_328, b1_329) =>
          some (.inl (b0_320, b0_321 + ((Utf8.decode ⟨b0_320.toArray⟩ b0_321.toNat).2 : Int)))
        | .inr (t330, b1_331, b1_332) =>
          some (.inr (.inr (t330, b0_320, b0_321 + ((Utf8.decode ⟨b0_320.toArray⟩ b0_321.toNat).2 : Int))))
      else some (.inr (.inl (b0_320, b0_321)))) (s0, 0) : Option ((List UInt8 × Int) ⊕ (Bool × List UInt8 × Int)))).bind fun e_ =>
  match e_ with
  | .inl (b0_333, b0_334) =>
    some false
  | .inr (t335, b0_336, b0_337) =>
    some t335
def class_hasAny.sig : Sig := ⟨[(.c .str), (.c .str)], [(.c .bool)]⟩
noncomputable def class_hasAny.con (K : Nat) : Con := (mkCon class_hasAny.sig (fun x => class_hasAny.f K x.1 x.2))
noncomputable def class_hasAny.ht : HT := .seq .nil (.seq (.seq .nil (.block (.loop ⟨11, [4, 6, 8], [0], ⟨[], [(0, .iter)]⟩, [(.exit 0, ⟨[], [(0, .iter)]⟩), (.ret, ⟨[(4, .c (.v .bool))], [(0, .iter)]⟩)]⟩ (.seq .nil (.seq .nil (.block (.seq .nil (.seq .nil (.block (.loop ⟨16, [4, 8], [1], ⟨[], [(1, .iter)]⟩, [(.exit 2, ⟨[], [(1, .iter)]⟩), (.ret, ⟨[(4, .c (.v .bool))], [(1, .iter)]⟩)]⟩ .nil)))))))))) .nil)
noncomputable def class_hasAny.cx (K : Nat) : Cx := ⟨tt, [], [], K, inlOf tt [] [] K (getBody []) 0⟩
theorem class_hasAny.eq (K : Nat) (x : PL class_hasAny.sig.ps) : evalF (class_hasAny.cx K) class_hasAny.sig (bodyOf Tryz.f147) class_hasAny.ht x = class_hasAny.f K x.1 x.2 := by kernel_rfl
theorem class_hasAny.fok (K : Nat) : FOK Tryz.prog class_hasAny.sig (fun x => class_hasAny.f K x.1 x.2) 147 := fok_of_eval (tt := tt) (cons := []) (exts := []) (bodies := (getBody [])) (K := K) (d := 0) ⟨ttok, (fun _ _ => getCon_nil), (fun _ _ => getExt_nil), (fun _ _ => getBody_nil)⟩ draw bok147 (class_hasAny.eq K)
theorem class_hasAny.ok (K : Nat) : ConOK Tryz.prog 147 (class_hasAny.con K) := con_ok bok147 (class_hasAny.fok K)

noncomputable def class_inks.f (K : Nat) (v0 : List UInt8) (but1 : List UInt8) : Option Bool :=
  ((loopN K (fun (s_ : Int) =>
    match s_ with
    | t340 =>
      bif decide (t340 < (v0.length : Int)) then
        bif idx t340 v0.length then
          bif decide (((v0.getD t340.toNat 0).toNat : Int) ≤ 32) then some (.inr (.inr false))
          else
          bif idx t340 v0.length then
            bif decide (((v0.getD t340.toNat 0).toNat : Int) > 126) then
              some (.inr (.inr false))
            else some (.inl (IntKind.i64.wrap (t340 + 1)))
          else none
        else none
      else some (.inr (.inl ()))) 0 : Option (Unit ⊕ Bool))).bind fun e_ =>
  match e_ with
  | .inl _ =>
    bif !(v0 == ([] : List UInt8)) then
      (class_hasAny.f K v0 but1).bind fun r341 =>
      some (!r341)
    else some false
  | .inr t342 =>
    some t342
def class_inks.sig : Sig := ⟨[(.c .str), (.c .str)], [(.c .bool)]⟩
noncomputable def class_inks.con (K : Nat) : Con := (mkCon class_inks.sig (fun x => class_inks.f K x.1 x.2))
noncomputable def class_inks.ht : HT := .seq .nil (.seq (.seq .nil (.block (.loop ⟨8, [4, 5], [], ⟨[(8, .c (.v (.int .i64)))], []⟩, [(.exit 0, ⟨[], []⟩), (.ret, ⟨[(4, .c (.v .bool))], []⟩)]⟩ .nil))) .nil)
noncomputable def class_inks.cx (K : Nat) : Cx := ⟨tt, [(147, class_hasAny.con K)], [], K, inlOf tt [(147, class_hasAny.con K)] [] K (getBody []) 0⟩
theorem class_inks.eq (K : Nat) (x : PL class_inks.sig.ps) : evalF (class_inks.cx K) class_inks.sig (bodyOf Tryz.f124) class_inks.ht x = class_inks.f K x.1 x.2 := by kernel_rfl
theorem class_inks.fok (K : Nat) : FOK Tryz.prog class_inks.sig (fun x => class_inks.f K x.1 x.2) 124 := fok_of_eval (tt := tt) (cons := [(147, class_hasAny.con K)]) (exts := []) (bodies := (getBody [])) (K := K) (d := 0) ⟨ttok, (getCon_cons (class_hasAny.ok K) (fun _ _ => getCon_nil)), (fun _ _ => getExt_nil), (fun _ _ => getBody_nil)⟩ draw bok124 (class_inks.eq K)
theorem class_inks.ok (K : Nat) : ConOK Tryz.prog 124 (class_inks.con K) := con_ok bok124 (class_inks.fok K)

noncomputable def class_Value.f (K : Nat) (proto0 : Int) (v1 : List UInt8) : Option Bool :=
  (label_Value.f K v1).bind fun r343 =>
  bif !r343 then some false
  else
  bif proto0 == 1 then some true
  else
  bif proto0 == 2 then
    ((loopN K (fun (s_ : Int) =>
      match s_ with
      | t346 =>
        bif decide (t346 < (v1.length : Int)) then
          bif idx t346 v1.length then
            bif decide (((v1.getD t346.toNat 0).toNat : Int) < 32) then some (.inr (.inr false))
            else
            bif idx t346 v1.length then
              bif ((v1.getD t346.toNat 0).toNat : Int) == 127 then
                some (.inr (.inr false))
              else some (.inl (IntKind.i64.wrap (t346 + 1)))
            else none
          else none
        else some (.inr (.inl ()))) 0 : Option (Unit ⊕ Bool))).bind fun e_ =>
    match e_ with
    | .inl _ =>
      bif !(v1 == ([] : List UInt8)) then
        bif ([92] : List UInt8) == v1 then some false
        else
        (stringslite_IndexByte.f K v1 ((([92] : List UInt8).getD 0 0).toNat : Int)).bind fun r347 =>
        some (!(decide (r347 ≥ 0)))
      else some false
    | .inr t348 =>
      some t348
  else
  bif proto0 == 3 then
    (class_inks.f K v1 ([59] : List UInt8)).bind fun r349 =>
    some r349
  else
  bif proto0 == 4 then
    (class_inks.f K v1 ([44, 124] : List UInt8)).bind fun r350 =>
    some r350
  else some false
def class_Value.sig : Sig := ⟨[(.c (.int .i64)), (.c .str)], [(.c .bool)]⟩
noncomputable def class_Value.con (K : Nat) : Con := (mkCon class_Value.sig (fun x => class_Value.f K x.1 x.2))
noncomputable def class_Value.ht : HT := .seq .nil (.seq .nil (.seq (.seq .nil (.block (.seq .nil (.cond .nil (.seq .nil (.cond (.seq (.seq .nil (.block (.loop ⟨16, [4, 5], [], ⟨[(16, .c (.v (.int .i64)))], []⟩, [(.exit 1, ⟨[], []⟩), (.ret, ⟨[(4, .c (.v .bool))], []⟩)]⟩ .nil))) .nil) .nil)))))) .nil))
noncomputable def class_Value.cx (K : Nat) : Cx := ⟨tt, [(83, label_Value.con K), (94, stringslite_IndexByte.con K), (124, class_inks.con K)], [], K, inlOf tt [(83, label_Value.con K), (94, stringslite_IndexByte.con K), (124, class_inks.con K)] [] K (getBody [(123, bodyOf Tryz.f123), (146, bodyOf Tryz.f146), (161, bodyOf Tryz.f161)]) 3⟩
theorem class_Value.eq (K : Nat) (x : PL class_Value.sig.ps) : evalF (class_Value.cx K) class_Value.sig (bodyOf Tryz.f93) class_Value.ht x = class_Value.f K x.1 x.2 := by kernel_rfl
theorem class_Value.fok (K : Nat) : FOK Tryz.prog class_Value.sig (fun x => class_Value.f K x.1 x.2) 93 := fok_of_eval (tt := tt) (cons := [(83, label_Value.con K), (94, stringslite_IndexByte.con K), (124, class_inks.con K)]) (exts := []) (bodies := (getBody [(123, bodyOf Tryz.f123), (146, bodyOf Tryz.f146), (161, bodyOf Tryz.f161)])) (K := K) (d := 3) ⟨ttok, (getCon_cons (label_Value.ok K) (getCon_cons (stringslite_IndexByte.ok K) (getCon_cons (class_inks.ok K) (fun _ _ => getCon_nil)))), (fun _ _ => getExt_nil), (getBody_cons (gbody_mk bok123 rfl) (getBody_cons (gbody_mk bok146 rfl) (getBody_cons (gbody_mk bok161 rfl) (fun _ _ => getBody_nil))))⟩ draw bok93 (class_Value.eq K)
theorem class_Value.ok (K : Nat) : ConOK Tryz.prog 93 (class_Value.con K) := con_ok bok93 (class_Value.fok K)

noncomputable def class_isPoint.f (K : Nat) (proto0 : Int) (p1 : List (List UInt8 × List UInt8) × Int × Bool × Int × Int × Int × Int × Bool × Int) : Option Bool :=
  ((loopN K (fun (s_ : Int) =>
    match s_ with
    | t356 =>
      bif decide (t356 < (p1.1.length : Int)) then
        bif idx t356 p1.1.length then
          (charset_Is.f K proto0 1 ((p1.1.getD t356.toNat (([] : List UInt8), ([] : List UInt8))).1)).bind fun r357 =>
          bif !r357 then some (.inr (.inr false))
          else
          (class_Value.f K proto0 ((p1.1.getD t356.toNat (([] : List UInt8), ([] : List UInt8))).2)).bind fun r358 =>
          bif !r358 then
            some (.inr (.inr false))
          else some (.inl (IntKind.i64.wrap (t356 + 1)))
        else none
      else some (.inr (.inl ()))) 0 : Option (Unit ⊕ Bool))).bind fun e_ =>
  match e_ with
  | .inl _ =>
    bif proto0 == 3 then
      (stamp_Of.f K p1.2.2.2.2.2.2.2.2 0).bind fun (r359, r360) =>
      bif p1.2.2.2.2.2.2.2.1 then
        some r360
      else some false
    else
    bif proto0 == 4 then
      bif !p1.2.2.2.2.2.2.2.1 then
        some (decide (p1.2.2.2.2.2.1 ≥ 0))
      else some false
    else some true
  | .inr t361 =>
    some t361
def class_isPoint.sig : Sig := ⟨[(.c (.int .i64)), (.agg (.pair (.sl (.pair .str .str)) (.pair (.int .i64) (.pair .bool (.pair (.int .i64) (.pair (.int .i64) (.pair (.int .i64) (.pair (.int .i64) (.pair .bool (.int .i64))))))))))], [(.c .bool)]⟩
noncomputable def class_isPoint.con (K : Nat) : Con := (mkCon class_isPoint.sig (fun x => class_isPoint.f K x.1 x.2))
noncomputable def class_isPoint.ht : HT := .seq .nil (.seq (.seq .nil (.block (.loop ⟨12, [4, 6], [], ⟨[(12, .c (.v (.int .i64)))], []⟩, [(.exit 0, ⟨[], []⟩), (.ret, ⟨[(4, .c (.v .bool))], []⟩)]⟩ .nil))) .nil)
noncomputable def class_isPoint.cx (K : Nat) : Cx := ⟨tt, [(60, charset_Is.con K), (93, class_Value.con K), (27, stamp_Of.con K)], [], K, inlOf tt [(60, charset_Is.con K), (93, class_Value.con K), (27, stamp_Of.con K)] [] K (getBody []) 0⟩
theorem class_isPoint.eq (K : Nat) (x : PL class_isPoint.sig.ps) : evalF (class_isPoint.cx K) class_isPoint.sig (bodyOf Tryz.f64) class_isPoint.ht x = class_isPoint.f K x.1 x.2 := by kernel_rfl
theorem class_isPoint.fok (K : Nat) : FOK Tryz.prog class_isPoint.sig (fun x => class_isPoint.f K x.1 x.2) 64 := fok_of_eval (tt := tt) (cons := [(60, charset_Is.con K), (93, class_Value.con K), (27, stamp_Of.con K)]) (exts := []) (bodies := (getBody [])) (K := K) (d := 0) ⟨ttok, (getCon_cons (charset_Is.ok K) (getCon_cons (class_Value.ok K) (getCon_cons (stamp_Of.ok K) (fun _ _ => getCon_nil)))), (fun _ _ => getExt_nil), (fun _ _ => getBody_nil)⟩ draw bok64 (class_isPoint.eq K)
theorem class_isPoint.ok (K : Nat) : ConOK Tryz.prog 64 (class_isPoint.con K) := con_ok bok64 (class_isPoint.fok K)

noncomputable def class_isFamily.f (K : Nat) (proto0 : Int) (f1 : List UInt8 × Int × List UInt8 × List UInt8 × List (List (List UInt8 × List UInt8) × Int × Bool × Int × Int × Int × Int × Bool × Int)) : Option Bool :=
  (((
      (class_Kinds.f K proto0).bind fun r364 =>
      (slices_Contains_int_int.f K r364 f1.2.1).bind fun r365 =>
      bif !r365 then some true
      else
      (charset_Is.f K proto0 0 f1.1).bind fun r366 =>
      some (!r366)) : Option Bool)).bind fun t367 =>
  bif t367 then some false
  else
  (((
      (((
          bif proto0 == 1 then
            (class_isUnit.f K (f1.1, f1.2.1, f1.2.2.1, f1.2.2.2.1)).bind fun r375 =>
            bif !r375 then some true
            else
            bif proto0 != 1 then
              bif !(f1.2.2.1 == ([] : List UInt8)) then some true
              else
              bif !(f1.2.2.2.1 == ([] : List UInt8)) then
                some true
              else some ((f1.2.2.2.2.length : Int) == 0)
            else some false
          else
          bif proto0 != 1 then
            bif !(f1.2.2.1 == ([] : List UInt8)) then some true
            else
            bif !(f1.2.2.2.1 == ([] : List UInt8)) then
              some true
            else some ((f1.2.2.2.2.length : Int) == 0)
          else some false) : Option Bool)).bind fun t376 =>
      bif t376 then
        some (.inr false)
      else some (.inl ())) : Option (Unit ⊕ Bool))).bind fun e_ =>
  match e_ with
  | .inl _ =>
    ((loopN K (fun (s_ : Int) =>
      match s_ with
      | t381 =>
        bif decide (t381 < (f1.2.2.2.2.length : Int)) then
          bif idx t381 f1.2.2.2.2.length then
            (class_isPoint.f K proto0 ((f1.2.2.2.2.getD t381.toNat (([] : List (List UInt8 × List UInt8)), ((0 : Int), (false, ((0 : Int), ((0 : Int), ((0 : Int), ((0 : Int), (false, (0 : Int)))))))))).1, ((f1.2.2.2.2.getD t381.toNat (([] : List (List UInt8 × List UInt8)), ((0 : Int), (false, ((0 : Int), ((0 : Int), ((0 : Int), ((0 : Int), (false, (0 : Int)))))))))).2).1, (((f1.2.2.2.2.getD t381.toNat (([] : List (List UInt8 × List UInt8)), ((0 : Int), (false, ((0 : Int), ((0 : Int), ((0 : Int), ((0 : Int), (false, (0 : Int)))))))))).2).2).1, ((((f1.2.2.2.2.getD t381.toNat (([] : List (List UInt8 × List UInt8)), ((0 : Int), (false, ((0 : Int), ((0 : Int), ((0 : Int), ((0 : Int), (false, (0 : Int)))))))))).2).2).2).1, (((((f1.2.2.2.2.getD t381.toNat (([] : List (List UInt8 × List UInt8)), ((0 : Int), (false, ((0 : Int), ((0 : Int), ((0 : Int), ((0 : Int), (false, (0 : Int)))))))))).2).2).2).2).1, ((((((f1.2.2.2.2.getD t381.toNat (([] : List (List UInt8 × List UInt8)), ((0 : Int), (false, ((0 : Int), ((0 : Int), ((0 : Int), ((0 : Int), (false, (0 : Int)))))))))).2).2).2).2).2).1, (((((((f1.2.2.2.2.getD t381.toNat (([] : List (List UInt8 × List UInt8)), ((0 : Int), (false, ((0 : Int), ((0 : Int), ((0 : Int), ((0 : Int), (false, (0 : Int)))))))))).2).2).2).2).2).2).1, ((((((((f1.2.2.2.2.getD t381.toNat (([] : List (List UInt8 × List UInt8)), ((0 : Int), (false, ((0 : Int), ((0 : Int), ((0 : Int), ((0 : Int), (false, (0 : Int)))))))))).2).2).2).2).2).2).2).1, ((((((((f1.2.2.2.2.getD t381.toNat (([] : List (List UInt8 × List UInt8)), ((0 : Int), (false, ((0 : Int), ((0 : Int), ((0 : Int), ((0 : Int), (false, (0 : Int)))))))))).2).2).2).2).2).2).2).2)).bind fun r382 =>
            bif !r382 then
              some (.inr (.inr t381))
            else some (.inl (IntKind.i64.wrap (t381 + 1)))
          else none
        else some (.inr (.inl ()))) 0 : Option (Unit ⊕ Int))).bind fun e_ =>
    match e_ with
    | .inl _ =>
      some true
    | .inr t383 =>
      some (!(decide (t383 ≥ 0)))
  | .inr t384 =>
    some t384
def class_isFamily.sig : Sig := ⟨[(.c (.int .i64)), (.agg (.pair .str (.pair (.int .i64) (.pair .str (.pair .str (.sl (.pair (.sl (.pair .str .str)) (.pair (.int .i64) (.pair .bool (.pair (.int .i64) (.pair (.int .i64) (.pair (.int .i64) (.pair (.int .i64) (.pair .bool (.int .i64)))))))))))))))], [(.c .bool)]⟩
noncomputable def class_isFamily.con (K : Nat) : Con := (mkCon class_isFamily.sig (fun x => class_isFamily.f K x.1 x.2))
noncomputable def class_isFamily.ht : HT := .seq .nil (.seq (.join ⟨5, [], [], ⟨[], []⟩, [(.normal, ⟨[(19, .c (.v .bool))], []⟩)]⟩ (.seq .nil .nil)) (.join ⟨4, [], [], ⟨[], []⟩, [(.normal, ⟨[], []⟩), (.ret, ⟨[(4, .c (.v .bool))], []⟩)]⟩ (.seq (.join ⟨5, [], [], ⟨[], []⟩, [(.normal, ⟨[(49, .c (.v .bool))], []⟩)]⟩ (.seq .nil .nil)) (.seq (.calls [(3, .seq .nil (.seq (.calls [(2, .seq .nil (.seq (.seq .nil (.block (.loop ⟨8, [4, 5], [], ⟨[(8, .c (.v (.int .i64)))], []⟩, [(.exit 0, ⟨[], []⟩), (.ret, ⟨[(4, .c (.v (.int .i64)))], []⟩)]⟩ .nil))) .nil))]) .nil))]) .nil))))
noncomputable def class_isFamily.cx (K : Nat) : Cx := ⟨tt, [(59, class_Kinds.con K), (58, slices_Contains_int_int.con K), (60, charset_Is.con K), (61, class_isUnit.con K), (64, class_isPoint.con K)], [], K, inlOf tt [(59, class_Kinds.con K), (58, slices_Contains_int_int.con K), (60, charset_Is.con K), (61, class_isUnit.con K), (64, class_isPoint.con K)] [] K (getBody [(62, bodyOf Tryz.f62), (63, bodyOf Tryz.f63), (92, bodyOf Tryz.f92)]) 3⟩
theorem class_isFamily.eq (K : Nat) (x : PL class_isFamily.sig.ps) : evalF (class_isFamily.cx K) class_isFamily.sig (bodyOf Tryz.f39) class_isFamily.ht x = class_isFamily.f K x.1 x.2 := by kernel_rfl
theorem class_isFamily.fok (K : Nat) : FOK Tryz.prog class_isFamily.sig (fun x => class_isFamily.f K x.1 x.2) 39 := fok_of_eval (tt := tt) (cons := [(59, class_Kinds.con K), (58, slices_Contains_int_int.con K), (60, charset_Is.con K), (61, class_isUnit.con K), (64, class_isPoint.con K)]) (exts := []) (bodies := (getBody [(62, bodyOf Tryz.f62), (63, bodyOf Tryz.f63), (92, bodyOf Tryz.f92)])) (K := K) (d := 3) ⟨ttok, (getCon_cons (class_Kinds.ok K) (getCon_cons (slices_Contains_int_int.ok K) (getCon_cons (charset_Is.ok K) (getCon_cons (class_isUnit.ok K) (getCon_cons (class_isPoint.ok K) (fun _ _ => getCon_nil)))))), (fun _ _ => getExt_nil), (getBody_cons (gbody_mk bok62 rfl) (getBody_cons (gbody_mk bok63 rfl) (getBody_cons (gbody_mk bok92 rfl) (fun _ _ => getBody_nil))))⟩ draw bok39 (class_isFamily.eq K)
theorem class_isFamily.ok (K : Nat) : ConOK Tryz.prog 39 (class_isFamily.con K) := con_ok bok39 (class_isFamily.fok K)

noncomputable def class_Why.f (K : Nat) (proto0 : Int) (b1 : List UInt8 × List (List UInt8 × Int × List UInt8 × List UInt8 × List (List (List UInt8 × List UInt8) × Int × Bool × Int × Int × Int × Int × Bool × Int))) : Option (List UInt8 × Bool) :=
  (((
      bif decide (proto0 < 1) then some true
      else
      bif decide (proto0 > 4) then some true
      else
      (batch_Check.f K b1).bind fun r385 =>
      some (r385 != 0)) : Option Bool)).bind fun t386 =>
  bif t386 then some (([] : List UInt8), false)
  else
  ((loopN K (fun (s_ : Int) =>
    match s_ with
    | t391 =>
      bif decide (t391 < (b1.2.length : Int)) then
        bif idx t391 b1.2.length then
          (class_isFamily.f K proto0 ((b1.2.getD t391.toNat (([] : List UInt8), ((0 : Int), (([] : List UInt8), (([] : List UInt8), ([] : List (List (List UInt8 × List UInt8) × Int × Bool × Int × Int × Int × Int × Bool × Int))))))).1, ((b1.2.getD t391.toNat (([] : List UInt8), ((0 : Int), (([] : List UInt8), (([] : List UInt8), ([] : List (List (List UInt8 × List UInt8) × Int × Bool × Int × Int × Int × Int × Bool × Int))))))).2).1, (((b1.2.getD t391.toNat (([] : List UInt8), ((0 : Int), (([] : List UInt8), (([] : List UInt8), ([] : List (List (List UInt8 × List UInt8) × Int × Bool × Int × Int × Int × Int × Bool × Int))))))).2).2).1, ((((b1.2.getD t391.toNat (([] : List UInt8), ((0 : Int), (([] : List UInt8), (([] : List UInt8), ([] : List (List (List UInt8 × List UInt8) × Int × Bool × Int × Int × Int × Int × Bool × Int))))))).2).2).2).1, ((((b1.2.getD t391.toNat (([] : List UInt8), ((0 : Int), (([] : List UInt8), (([] : List UInt8), ([] : List (List (List UInt8 × List UInt8) × Int × Bool × Int × Int × Int × Int × Bool × Int))))))).2).2).2).2)).bind fun r392 =>
          bif !r392 then
            some (.inr (.inr ((b1.2.getD t391.toNat (([] : List UInt8), ((0 : Int), (([] : List UInt8), (([] : List UInt8), ([] : List (List (List UInt8 × List UInt8) × Int × Bool × Int × Int × Int × Int × Bool × Int))))))).1, false)))
          else some (.inl (IntKind.i64.wrap (t391 + 1)))
        else none
      else some (.inr (.inl ()))) 0 : Option (Unit ⊕ (List UInt8 × Bool)))).bind fun e_ =>
  match e_ with
  | .inl _ =>
    some (([] : List UInt8), true)
  | .inr (name393, ok394) =>
    some (name393, ok394)
def class_Why.sig : Sig := ⟨[(.c (.int .i64)), (.agg (.pair .str (.sl (.pair .str (.pair (.int .i64) (.pair .str (.pair .str (.sl (.pair (.sl (.pair .str .str)) (.pair (.int .i64) (.pair .bool (.pair (.int .i64) (.pair (.int .i64) (.pair (.int .i64) (.pair (.int .i64) (.pair .bool (.int .i64)))))))))))))))))], [(.c .str), (.c .bool)]⟩
noncomputable def class_Why.con (K : Nat) : Con := (mkCon class_Why.sig (fun x => class_Why.f K x.1 x.2))
noncomputable def class_Why.ht : HT := .seq .nil (.seq (.join ⟨6, [], [], ⟨[], []⟩, [(.normal, ⟨[(18, .c (.v .bool))], []⟩)]⟩ (.seq .nil .nil)) (.seq (.seq .nil (.block (.loop ⟨22, [4, 5, 7], [], ⟨[(22, .c (.v (.int .i64)))], []⟩, [(.exit 0, ⟨[], []⟩), (.ret, ⟨[(4, .c (.v .str)), (5, .c (.v .bool))], []⟩)]⟩ .nil))) .nil))
noncomputable def class_Why.cx (K : Nat) : Cx := ⟨tt, [(38, batch_Check.con K), (39, class_isFamily.con K)], [], K, inlOf tt [(38, batch_Check.con K), (39, class_isFamily.con K)] [] K (getBody []) 0⟩
theorem class_Why.eq (K : Nat) (x : PL class_Why.sig.ps) : evalF (class_Why.cx K) class_Why.sig (bodyOf Tryz.f23) class_Why.ht x = class_Why.f K x.1 x.2 := by kernel_rfl
theorem class_Why.fok (K : Nat) : FOK Tryz.prog class_Why.sig (fun x => class_Why.f K x.1 x.2) 23 := fok_of_eval (tt := tt) (cons := [(38, batch_Check.con K), (39, class_isFamily.con K)]) (exts := []) (bodies := (getBody [])) (K := K) (d := 0) ⟨ttok, (getCon_cons (batch_Check.ok K) (getCon_cons (class_isFamily.ok K) (fun _ _ => getCon_nil))), (fun _ _ => getExt_nil), (fun _ _ => getBody_nil)⟩ draw bok23 (class_Why.eq K)
theorem class_Why.ok (K : Nat) : ConOK Tryz.prog 23 (class_Why.con K) := con_ok bok23 (class_Why.fok K)

noncomputable def class_Is.f (K : Nat) (proto0 : Int) (b1 : List UInt8 × List (List UInt8 × Int × List UInt8 × List UInt8 × List (List (List UInt8 × List UInt8) × Int × Bool × Int × Int × Int × Int × Bool × Int))) : Option Bool :=
  (class_Why.f K proto0 b1).bind fun (r395, r396) =>
  some r396
def class_Is.sig : Sig := ⟨[(.c (.int .i64)), (.agg (.pair .str (.sl (.pair .str (.pair (.int .i64) (.pair .str (.pair .str (.sl (.pair (.sl (.pair .str .str)) (.pair (.int .i64) (.pair .bool (.pair (.int .i64) (.pair (.int .i64) (.pair (.int .i64) (.pair (.int .i64) (.pair .bool (.int .i64)))))))))))))))))], [(.c .bool)]⟩
noncomputable def class_Is.con (K : Nat) : Con := (mkCon class_Is.sig (fun x => class_Is.f K x.1 x.2))
noncomputable def class_Is.ht : HT := .nil
noncomputable def class_Is.cx (K : Nat) : Cx := ⟨tt, [(23, class_Why.con K)], [], K, inlOf tt [(23, class_Why.con K)] [] K (getBody []) 0⟩
theorem class_Is.eq (K : Nat) (x : PL class_Is.sig.ps) : evalF (class_Is.cx K) class_Is.sig (bodyOf Tryz.f12) class_Is.ht x = class_Is.f K x.1 x.2 := by kernel_rfl
theorem class_Is.fok (K : Nat) : FOK Tryz.prog class_Is.sig (fun x => class_Is.f K x.1 x.2) 12 := fok_of_eval (tt := tt) (cons := [(23, class_Why.con K)]) (exts := []) (bodies := (getBody [])) (K := K) (d := 0) ⟨ttok, (getCon_cons (class_Why.ok K) (fun _ _ => getCon_nil)), (fun _ _ => getExt_nil), (fun _ _ => getBody_nil)⟩ draw bok12 (class_Is.eq K)
theorem class_Is.ok (K : Nat) : ConOK Tryz.prog 12 (class_Is.con K) := con_ok bok12 (class_Is.fok K)

noncomputable def lineprint_Field.f (K : Nat) (kind0 : Int) : Option (List UInt8) :=
  bif kind0 == 0 then some ([118, 97, 108, 117, 101] : List UInt8)
  else
  bif kind0 == 1 then some ([103, 97, 117, 103, 101] : List UInt8)
  else
  bif kind0 == 2 then
    some ([99, 111, 117, 110, 116, 101, 114] : List UInt8)
  else some ([] : List UInt8)
def lineprint_Field.sig : Sig := ⟨[(.c (.int .i64))], [(.c .str)]⟩
noncomputable def lineprint_Field.con (K : Nat) : Con := (mkCon lineprint_Field.sig (fun x => lineprint_Field.f K x))
noncomputable def lineprint_Field.ht : HT := .nil
noncomputable def lineprint_Field.cx (K : Nat) : Cx := ⟨tt, [], [], K, inlOf tt [] [] K (getBody []) 0⟩
theorem lineprint_Field.eq (K : Nat) (x : PL lineprint_Field.sig.ps) : evalF (lineprint_Field.cx K) lineprint_Field.sig (bodyOf Tryz.f9) lineprint_Field.ht x = lineprint_Field.f K x := by kernel_rfl
theorem lineprint_Field.fok (K : Nat) : FOK Tryz.prog lineprint_Field.sig (fun x => lineprint_Field.f K x) 9 := fok_of_eval (tt := tt) (cons := []) (exts := []) (bodies := (getBody [])) (K := K) (d := 0) ⟨ttok, (fun _ _ => getCon_nil), (fun _ _ => getExt_nil), (fun _ _ => getBody_nil)⟩ draw bok9 (lineprint_Field.eq K)
theorem lineprint_Field.ok (K : Nat) : ConOK Tryz.prog 9 (lineprint_Field.con K) := con_ok bok9 (lineprint_Field.fok K)

noncomputable def lineword_marked.f (K : Nat) (v0 : List UInt8) (signs1 : List UInt8) : Option (List UInt8) :=
  ((loopN K (fun (s_ : Int × List Int) =>
    match s_ with
    | (t405, b0_406) =>
      bif decide (t405 < (v0.length : Int)) then
        bif idx t405 v0.length then
          (strings_IndexByte.f K signs1 ((v0.getD t405.toNat 0).toNat : Int)).bind fun r407 =>
          bif decide (r407 ≥ 0) then
            bif decide ((b0_406.length + 1) * 1 ≤ LIM) then
              bif idx t405 v0.length then
                bif decide (((b0_406 ++ ([92] : List Int)).length + ([((v0.getD t405.toNat 0).toNat : Int)] : List Int).length) * 1 ≤ LIM) then
                  some (.inl (IntKind.i64.wrap (t405 + 1), ((b0_406 ++ ([92] : List Int)) ++ ([((v0.getD t405.toNat 0).toNat : Int)] : List Int))))
                else none
              else none
            else none
          else
          bif idx t405 v0.length then
            bif decide ((b0_406.length + ([((v0.getD t405.toNat 0).toNat : Int)] : List Int).length) * 1 ≤ LIM) then
              some (.inl (IntKind.i64.wrap (t405 + 1), (b0_406 ++ ([((v0.getD t405.toNat 0).toNat : Int)] : List Int))))
            else none
          else none
        else none
      else some (.inr b0_406)) (0, ([] : List Int)) : Option (List Int))).bind fun b0_408 =>
  some (bytesOf b0_408)
def lineword_marked.sig : Sig := ⟨[(.c .str), (.c .str)], [(.c .str)]⟩
noncomputable def lineword_marked.con (K : Nat) : Con := (mkCon lineword_marked.sig (fun x => lineword_marked.f K x.1 x.2))
noncomputable def lineword_marked.ht : HT := .seq .nil (.seq .nil (.seq (.seq .nil (.block (.loop ⟨9, [6], [0], ⟨[(9, .c (.v (.int .i64)))], [(0, .cells 65 [.self 0 0, .row 5 (.int .u8)])]⟩, [(.exit 0, ⟨[], [(0, .cells 65 [.self 0 0, .row 5 (.int .u8)])]⟩)]⟩ .nil))) .nil))
noncomputable def lineword_marked.cx (K : Nat) : Cx := ⟨tt, [(65, strings_IndexByte.con K)], [], K, inlOf tt [(65, strings_IndexByte.con K)] [] K (getBody [(31, (spBody (.text 5))), (46, (spBody (.copyCheck ccTs))), (66, bodyOf Tryz.f66)]) 2⟩
theorem lineword_marked.eq (K : Nat) (x : PL lineword_marked.sig.ps) : evalF (lineword_marked.cx K) lineword_marked.sig (bodyOf Tryz.f40) lineword_marked.ht x = lineword_marked.f K x.1 x.2 := by kernel_rfl
theorem lineword_marked.fok (K : Nat) : FOK Tryz.prog lineword_marked.sig (fun x => lineword_marked.f K x.1 x.2) 40 := fok_of_eval (tt := tt) (cons := [(65, strings_IndexByte.con K)]) (exts := []) (bodies := (getBody [(31, (spBody (.text 5))), (46, (spBody (.copyCheck ccTs))), (66, bodyOf Tryz.f66)])) (K := K) (d := 2) ⟨ttok, (getCon_cons (strings_IndexByte.ok K) (fun _ _ => getCon_nil)), (fun _ _ => getExt_nil), (getBody_cons (gsp_mk sp31) (getBody_cons (gsp_mk sp46) (getBody_cons (gbody_mk bok66 rfl) (fun _ _ => getBody_nil))))⟩ draw bok40 (lineword_marked.eq K)
theorem lineword_marked.ok (K : Nat) : ConOK Tryz.prog 40 (lineword_marked.con K) := con_ok bok40 (lineword_marked.fok K)

noncomputable def lineword_Measure.f (K : Nat) (v0 : List UInt8) : Option (List UInt8) :=
  (lineword_marked.f K v0 ([44, 32] : List UInt8)).bind fun r409 =>
  some r409
def lineword_Measure.sig : Sig := ⟨[(.c .str)], [(.c .str)]⟩
noncomputable def lineword_Measure.con (K : Nat) : Con := (mkCon lineword_Measure.sig (fun x => lineword_Measure.f K x))
noncomputable def lineword_Measure.ht : HT := .nil
noncomputable def lineword_Measure.cx (K : Nat) : Cx := ⟨tt, [(40, lineword_marked.con K)], [], K, inlOf tt [(40, lineword_marked.con K)] [] K (getBody []) 0⟩
theorem lineword_Measure.eq (K : Nat) (x : PL lineword_Measure.sig.ps) : evalF (lineword_Measure.cx K) lineword_Measure.sig (bodyOf Tryz.f24) lineword_Measure.ht x = lineword_Measure.f K x := by kernel_rfl
theorem lineword_Measure.fok (K : Nat) : FOK Tryz.prog lineword_Measure.sig (fun x => lineword_Measure.f K x) 24 := fok_of_eval (tt := tt) (cons := [(40, lineword_marked.con K)]) (exts := []) (bodies := (getBody [])) (K := K) (d := 0) ⟨ttok, (getCon_cons (lineword_marked.ok K) (fun _ _ => getCon_nil)), (fun _ _ => getExt_nil), (fun _ _ => getBody_nil)⟩ draw bok24 (lineword_Measure.eq K)
theorem lineword_Measure.ok (K : Nat) : ConOK Tryz.prog 24 (lineword_Measure.con K) := con_ok bok24 (lineword_Measure.fok K)

noncomputable def lineword_Key.f (K : Nat) (v0 : List UInt8) : Option (List UInt8) :=
  (lineword_marked.f K v0 ([44, 32, 61] : List UInt8)).bind fun r410 =>
  some r410
def lineword_Key.sig : Sig := ⟨[(.c .str)], [(.c .str)]⟩
noncomputable def lineword_Key.con (K : Nat) : Con := (mkCon lineword_Key.sig (fun x => lineword_Key.f K x))
noncomputable def lineword_Key.ht : HT := .nil
noncomputable def lineword_Key.cx (K : Nat) : Cx := ⟨tt, [(40, lineword_marked.con K)], [], K, inlOf tt [(40, lineword_marked.con K)] [] K (getBody []) 0⟩
theorem lineword_Key.eq (K : Nat) (x : PL lineword_Key.sig.ps) : evalF (lineword_Key.cx K) lineword_Key.sig (bodyOf Tryz.f25) lineword_Key.ht x = lineword_Key.f K x := by kernel_rfl
theorem lineword_Key.fok (K : Nat) : FOK Tryz.prog lineword_Key.sig (fun x => lineword_Key.f K x) 25 := fok_of_eval (tt := tt) (cons := [(40, lineword_marked.con K)]) (exts := []) (bodies := (getBody [])) (K := K) (d := 0) ⟨ttok, (getCon_cons (lineword_marked.ok K) (fun _ _ => getCon_nil)), (fun _ _ => getExt_nil), (fun _ _ => getBody_nil)⟩ draw bok25 (lineword_Key.eq K)
theorem lineword_Key.ok (K : Nat) : ConOK Tryz.prog 25 (lineword_Key.con K) := con_ok bok25 (lineword_Key.fok K)

noncomputable def dec_Print.f (K : Nat) (d0 : Int × Int) : Option (List UInt8) :=
  (dec_Good.f K d0).bind fun r411 =>
  bif !r411 then some ([] : List UInt8)
  else
  (((
      bif decide (d0.1 < 0) then
        some (IntKind.i64.wrap (0 - d0.1))
      else some d0.1) : Option Int)).bind fun m412 =>
  ((loopN K (fun (s_ : Int × Int × Int × List Int) =>
    match s_ with
    | (at425, m426, k427, b1_428) =>
      (((
          bif decide (m426 > 0) then some (.inr ())
          else
          bif decide (k427 ≤ d0.2) then
            some (.inr ())
          else some (.inl ())) : Option (Unit ⊕ Unit))).bind fun e_ =>
      match e_ with
      | .inl _ =>
        some (.inr (at425, b1_428))
      | .inr _ =>
        (((
            bif decide (k427 > 0) then
              bif k427 == d0.2 then
                bif idx (IntKind.i64.wrap (at425 - 1)) 24 then
                  bif decide ((IntKind.i64.wrap (at425 - 1)).toNat < b1_428.length) then
                    some (IntKind.i64.wrap (at425 - 1), (b1_428.set ((IntKind.i64.wrap (at425 - 1)).toNat) 46))
                  else none
                else none
              else some (at425, b1_428)
            else some (at425, b1_428)) : Option (Int × List Int))).bind fun (at429, b1_430) =>
        bif idx (IntKind.i64.wrap (at429 - 1)) 24 then
          bif decide ((IntKind.i64.wrap (at429 - 1)).toNat < b1_430.length) then
            some (.inl (IntKind.i64.wrap (at429 - 1), IntKind.i64.wrap (Int.tdiv m426 10), IntKind.i64.wrap (k427 + 1), (b1_430.set ((IntKind.i64.wrap (at429 - 1)).toNat) (IntKind.u8.wrap (IntKind.i64.wrap (48 + (Int.tmod m426 10)))))))
          else none
        else none) (24, m412, 0, ([(0 : Int), (0 : Int), (0 : Int), (0 : Int), (0 : Int), (0 : Int), (0 : Int), (0 : Int), (0 : Int), (0 : Int), (0 : Int), (0 : Int), (0 : Int), (0 : Int), (0 : Int), (0 : Int), (0 : Int), (0 : Int), (0 : Int), (0 : Int), (0 : Int), (0 : Int), (0 : Int), (0 : Int)] : List Int)) : Option (Int × List Int))).bind fun (at431, b1_432) =>
  bif decide (d0.1 < 0) then
    bif idx (IntKind.i64.wrap (at431 - 1)) 24 then
      bif decide ((IntKind.i64.wrap (at431 - 1)).toNat < b1_432.length) then
        bif (decide (0 ≤ (IntKind.i64.wrap (at431 - 1)))) && (decide ((IntKind.i64.wrap (at431 - 1)) ≤ (24 : Int))) then
          some (bytesOf (((b1_432.set ((IntKind.i64.wrap (at431 - 1)).toNat) 45).take 24).drop ((IntKind.i64.wrap (at431 - 1)).toNat)))
        else none
      else none
    else none
  else
  bif (decide (0 ≤ at431)) && (decide (at431 ≤ (24 : Int))) then
    some (bytesOf ((b1_432.take 24).drop at431.toNat))
  else none
def dec_Print.sig : Sig := ⟨[(.agg (.pair (.int .i64) (.int .i64)))], [(.c .str)]⟩
noncomputable def dec_Print.con (K : Nat) : Con := (mkCon dec_Print.sig (fun x => dec_Print.f K x))
noncomputable def dec_Print.ht : HT := .seq .nil (.seq .nil (.seq .nil (.seq .nil (.seq .nil (.join ⟨5, [], [], ⟨[], []⟩, [(.normal, ⟨[(5, .c (.v (.int .i64)))], []⟩)]⟩ (.seq .nil (.seq (.seq .nil (.block (.loop ⟨4, [], [1], ⟨[(4, .c (.v (.int .i64))), (5, .c (.v (.int .i64))), (6, .c (.v (.int .i64)))], [(1, .arr 84 (.int .u8))]⟩, [(.exit 0, ⟨[(4, .c (.v (.int .i64)))], [(1, .arr 84 (.int .u8))]⟩)]⟩ (.join ⟨7, [], [], ⟨[], []⟩, [(.exit 0, ⟨[], []⟩), (.normal, ⟨[], []⟩)]⟩ (.seq .nil (.seq (.block (.join ⟨7, [4], [1], ⟨[], []⟩, [(.normal, ⟨[(4, .c (.v (.int .i64)))], [(1, .arr 84 (.int .u8))]⟩)]⟩ (.seq .nil .nil))) .nil)))))) .nil)))))))
noncomputable def dec_Print.cx (K : Nat) : Cx := ⟨tt, [(41, dec_Good.con K)], [], K, inlOf tt [(41, dec_Good.con K)] [] K (getBody []) 0⟩
theorem dec_Print.eq (K : Nat) (x : PL dec_Print.sig.ps) : evalF (dec_Print.cx K) dec_Print.sig (bodyOf Tryz.f26) dec_Print.ht x = dec_Print.f K x := by kernel_rfl
theorem dec_Print.fok (K : Nat) : FOK Tryz.prog dec_Print.sig (fun x => dec_Print.f K x) 26 := fok_of_eval (tt := tt) (cons := [(41, dec_Good.con K)]) (exts := []) (bodies := (getBody [])) (K := K) (d := 0) ⟨ttok, (getCon_cons (dec_Good.ok K) (fun _ _ => getCon_nil)), (fun _ _ => getExt_nil), (fun _ _ => getBody_nil)⟩ draw bok26 (dec_Print.eq K)
theorem dec_Print.ok (K : Nat) : ConOK Tryz.prog 26 (dec_Print.con K) := con_ok bok26 (dec_Print.fok K)

noncomputable def strconv_FormatInt.f (K : Nat) (n b : Int) : Option (List UInt8) := fmtInt n b
def strconv_FormatInt.sig : Sig := ⟨[(.c (.int .i64)), (.c (.int .i64))], [(.c .str)]⟩
noncomputable def strconv_FormatInt.con (K : Nat) : Con := (mkCon strconv_FormatInt.sig (fun x => strconv_FormatInt.f K x.1 x.2))
theorem strconv_FormatInt.fok (K : Nat) : FOK Tryz.prog strconv_FormatInt.sig (fun x => strconv_FormatInt.f K x.1 x.2) 28 := fmt_fok (T := fun w => Lib.TabIs Tryz.prog w "internal/strconv.uint64pow10" .u64 Lib.pow10Tab) (fun _ _ h => tabLow_is h) (fun m h0 h1 w hw => Any.strconv_FormatInt_10 Tryz.lays173 m h0 h1 w hw)
theorem strconv_FormatInt.ok (K : Nat) : ConOK Tryz.prog 28 (strconv_FormatInt.con K) := con_ok bok28 (strconv_FormatInt.fok K)

noncomputable def lineprint_line.f (K : Nat) (h0 : List UInt8 × Int × List UInt8 × List UInt8) (p1 : List (List UInt8 × List UInt8) × Int × Bool × Int × Int × Int × Int × Bool × Int) (unit2 : Int) : Option (List UInt8 × Bool) :=
  (lineword_Measure.f K h0.1).bind fun r433 =>
  ((loopN K (fun (s_ : List UInt8 × Int) =>
    match s_ with
    | (s438, t439) =>
      bif decide (t439 < (p1.1.length : Int)) then
        bif idx t439 p1.1.length then
          (lineword_Key.f K ((p1.1.getD t439.toNat (([] : List UInt8), ([] : List UInt8))).1)).bind fun r440 =>
          bif decide (([44] : List UInt8).length + r440.length ≤ LIM) then
            bif decide ((([44] : List UInt8) ++ r440).length + ([61] : List UInt8).length ≤ LIM) then
              (lineword_Key.f K ((p1.1.getD t439.toNat (([] : List UInt8), ([] : List UInt8))).2)).bind fun r441 =>
              bif decide (((([44] : List UInt8) ++ r440) ++ ([61] : List UInt8)).length + r441.length ≤ LIM) then
                bif decide (s438.length + (((([44] : List UInt8) ++ r440) ++ ([61] : List UInt8)) ++ r441).length ≤ LIM) then
                  some (.inl (s438 ++ (((([44] : List UInt8) ++ r440) ++ ([61] : List UInt8)) ++ r441), IntKind.i64.wrap (t439 + 1)))
                else none
              else none
            else none
          else none
        else none
      else some (.inr s438)) (r433, 0) : Option (List UInt8))).bind fun s442 =>
  (lineprint_Field.f K h0.2.1).bind fun r443 =>
  bif decide (([32] : List UInt8).length + r443.length ≤ LIM) then
    bif decide ((([32] : List UInt8) ++ r443).length + ([61] : List UInt8).length ≤ LIM) then
      (dec_Print.f K (p1.2.2.2.2.2.1, p1.2.2.2.2.2.2.1)).bind fun r444 =>
      bif decide (((([32] : List UInt8) ++ r443) ++ ([61] : List UInt8)).length + r444.length ≤ LIM) then
        bif decide (s442.length + (((([32] : List UInt8) ++ r443) ++ ([61] : List UInt8)) ++ r444).length ≤ LIM) then
          bif !p1.2.2.2.2.2.2.2.1 then some (s442 ++ (((([32] : List UInt8) ++ r443) ++ ([61] : List UInt8)) ++ r444), true)
          else
          (stamp_Of.f K p1.2.2.2.2.2.2.2.2 unit2).bind fun (r445, r446) =>
          bif decide ((s442 ++ (((([32] : List UInt8) ++ r443) ++ ([61] : List UInt8)) ++ r444)).length + ([32] : List UInt8).length ≤ LIM) then
            (strconv_FormatInt.f K r445 10).bind fun r447 =>
            bif decide (((s442 ++ (((([32] : List UInt8) ++ r443) ++ ([61] : List UInt8)) ++ r444)) ++ ([32] : List UInt8)).length + r447.length ≤ LIM) then
              some (((s442 ++ (((([32] : List UInt8) ++ r443) ++ ([61] : List UInt8)) ++ r444)) ++ ([32] : List UInt8)) ++ r447, r446)
            else none
          else none
        else none
      else none
    else none
  else none
def lineprint_line.sig : Sig := ⟨[(.agg (.pair .str (.pair (.int .i64) (.pair .str .str)))), (.agg (.pair (.sl (.pair .str .str)) (.pair (.int .i64) (.pair .bool (.pair (.int .i64) (.pair (.int .i64) (.pair (.int .i64) (.pair (.int .i64) (.pair .bool (.int .i64)))))))))), (.c (.int .i64))], [(.c .str), (.c .bool)]⟩
noncomputable def lineprint_line.con (K : Nat) : Con := (mkCon lineprint_line.sig (fun x => lineprint_line.f K x.1 x.2.1 x.2.2))
noncomputable def lineprint_line.ht : HT := .seq .nil (.seq .nil (.seq (.seq .nil (.block (.loop ⟨19, [8, 10], [], ⟨[(8, .c (.v .str)), (19, .c (.v (.int .i64)))], []⟩, [(.exit 0, ⟨[(8, .c (.v .str))], []⟩)]⟩ .nil))) .nil))
noncomputable def lineprint_line.cx (K : Nat) : Cx := ⟨tt, [(24, lineword_Measure.con K), (25, lineword_Key.con K), (9, lineprint_Field.con K), (26, dec_Print.con K), (27, stamp_Of.con K), (28, strconv_FormatInt.con K)], [], K, inlOf tt [(24, lineword_Measure.con K), (25, lineword_Key.con K), (9, lineprint_Field.con K), (26, dec_Print.con K), (27, stamp_Of.con K), (28, strconv_FormatInt.con K)] [] K (getBody []) 0⟩
theorem lineprint_line.eq (K : Nat) (x : PL lineprint_line.sig.ps) : evalF (lineprint_line.cx K) lineprint_line.sig (bodyOf Tryz.f14) lineprint_line.ht x = lineprint_line.f K x.1 x.2.1 x.2.2 := by kernel_rfl
theorem lineprint_line.fok (K : Nat) : FOK Tryz.prog lineprint_line.sig (fun x => lineprint_line.f K x.1 x.2.1 x.2.2) 14 := fok_of_eval (tt := tt) (cons := [(24, lineword_Measure.con K), (25, lineword_Key.con K), (9, lineprint_Field.con K), (26, dec_Print.con K), (27, stamp_Of.con K), (28, strconv_FormatInt.con K)]) (exts := []) (bodies := (getBody [])) (K := K) (d := 0) ⟨ttok, (getCon_cons (lineword_Measure.ok K) (getCon_cons (lineword_Key.ok K) (getCon_cons (lineprint_Field.ok K) (getCon_cons (dec_Print.ok K) (getCon_cons (stamp_Of.ok K) (getCon_cons (strconv_FormatInt.ok K) (fun _ _ => getCon_nil))))))), (fun _ _ => getExt_nil), (fun _ _ => getBody_nil)⟩ draw bok14 (lineprint_line.eq K)
theorem lineprint_line.ok (K : Nat) : ConOK Tryz.prog 14 (lineprint_line.con K) := con_ok bok14 (lineprint_line.fok K)

noncomputable def out_Out_Put.g (K : Nat) (xs2 : List (List UInt8)) (b_buf_0 : List Int) (most_1 : Int) (full_2 : Bool) : Option (Bool × List Int × Int × Bool) :=
  (((
      bif full_2 then
        some 0
      else some (IntKind.i64.wrap (most_1 - (b_buf_0.length : Int)))) : Option Int)).bind fun left1 =>
  ((loopN K (fun (s_ : Int × Int × List Int × Int × Bool) =>
    match s_ with
    | (left23, t24, b0_25, b0_26, b0_27) =>
      bif decide (t24 < (xs2.length : Int)) then
        bif idx t24 xs2.length then
          bif decide (t24.toNat < xs2.length) then
            (((
                bif b0_27 then
                  some (b0_25, b0_26, true)
                else some (b0_25, b0_26, decide (((xs2.getD t24.toNat ([] : List UInt8)).length : Int) > left23))) : Option (List Int × Int × Bool))).bind fun (b0_28, b0_29, b0_30) =>
            bif b0_30 then
              some (.inr (.inr (false, b0_28, b0_29, b0_30)))
            else some (.inl (IntKind.i64.wrap (left23 - ((xs2.getD t24.toNat ([] : List UInt8)).length : Int)), IntKind.i64.wrap (t24 + 1), b0_28, b0_29, b0_30))
          else none
        else none
      else some (.inr (.inl (b0_25, b0_26, b0_27)))) (left1, 0, b_buf_0, most_1, full_2) : Option ((List Int × Int × Bool) ⊕ (Bool × List Int × Int × Bool)))).bind fun e_ =>
  match e_ with
  | .inl (b0_31, b0_32, b0_33) =>
    bif b0_33 then some (false, b0_31, b0_32, b0_33)
    else
    ((loopN K (fun (s_ : Int × List Int × Int × Bool) =>
      match s_ with
      | (t39, b0_40, b0_41, b0_42) =>
        bif decide (t39 < (xs2.length : Int)) then
          bif idx t39 xs2.length then
            bif decide (t39.toNat < xs2.length) then
              bif decide ((b0_40.length + ((xs2.getD t39.toNat ([] : List UInt8)).map fun b => (b.toNat : Int)).length) * 1 ≤ LIM) then
                some (.inl (IntKind.i64.wrap (t39 + 1), (b0_40 ++ ((xs2.getD t39.toNat ([] : List UInt8)).map fun b => (b.toNat : Int))), b0_41, b0_42))
              else none
            else none
          else none
        else some (.inr (b0_40, b0_41, b0_42))) (0, b0_31, b0_32, b0_33) : Option (List Int × Int × Bool))).bind fun (b0_43, b0_44, b0_45) =>
    some (true, b0_43, b0_44, b0_45)
  | .inr (t46, b0_47, b0_48, b0_49) =>
    some (t46, b0_47, b0_48, b0_49)
noncomputable def out_Out_Put.g.ht (b0 : Nat) (b1 : Nat) (n : Nat) (w : List Nat) : HT := .join ⟨0, [], [b0] ++ w, ⟨[], [(b0, .cells 67 [.self b0 0, .row 5 (.int .u8), .v (.int .i64), .v .bool])]⟩, [(.ret, ⟨[(0, .c (.v .bool))], [(b0, .cells 67 [.self b0 0, .row 5 (.int .u8), .v (.int .i64), .v .bool])]⟩)]⟩ (.seq .nil (.join ⟨5, [], [], ⟨[], []⟩, [(.normal, ⟨[(5, .c (.v (.int .i64)))], []⟩)]⟩ (.seq .nil (.seq (.seq .nil (.block (.loop ⟨14, [4, 5, 7], [b0, n], ⟨[(5, .c (.v (.int .i64))), (14, .c (.v (.int .i64)))], [(b0, .cells 67 [.self b0 0, .row 5 (.int .u8), .v (.int .i64), .v .bool])]⟩, [(.exit 0, ⟨[], [(b0, .cells 67 [.self b0 0, .row 5 (.int .u8), .v (.int .i64), .v .bool])]⟩), (.ret, ⟨[(4, .c (.v .bool))], [(b0, .cells 67 [.self b0 0, .row 5 (.int .u8), .v (.int .i64), .v .bool])]⟩)]⟩ (.seq .nil (.seq .nil (.seq (.block (.seq .nil (.join ⟨15, [], [b0, (n + 1)], ⟨[], []⟩, [(.normal, ⟨[], [(b0, .cells 67 [.self b0 0, .row 5 (.int .u8), .v (.int .i64), .v .bool])]⟩)]⟩ (.seq .nil .nil)))) .nil)))))) (.seq .nil (.seq (.seq .nil (.block (.loop ⟨46, [9], [b0, (n + 1)], ⟨[(46, .c (.v (.int .i64)))], [(b0, .cells 67 [.self b0 0, .row 5 (.int .u8), .v (.int .i64), .v .bool])]⟩, [(.exit 2, ⟨[], [(b0, .cells 67 [.self b0 0, .row 5 (.int .u8), .v (.int .i64), .v .bool])]⟩)]⟩ .nil))) .nil))))))
noncomputable def lineprint_Print.f (K : Nat) (b0 : List UInt8 × List (List UInt8 × Int × List UInt8 × List UInt8 × List (List (List UInt8 × List UInt8) × Int × Bool × Int × Int × Int × Int × Bool × Int))) (unit1 : Int) : Option (List UInt8 × Int) :=
  (class_Is.f K 2 b0).bind fun r448 =>
  bif !r448 then some (([] : List UInt8), 15)
  else
  ((loopN K (fun (s_ : Int × List Int × Int × Bool) =>
    match s_ with
    | (t638, b1_639, b1_640, b1_641) =>
      bif decide (t638 < (b0.2.length : Int)) then
        bif idx t638 b0.2.length then
          ((loopN K (fun (s_ : Int × List Int × Int × Bool) =>
            match s_ with
            | (t668, b1_669, b1_670, b1_671) =>
              bif decide (t668 < ((((((b0.2.getD t638.toNat (([] : List UInt8), ((0 : Int), (([] : List UInt8), (([] : List UInt8), ([] : List (List (List UInt8 × List UInt8) × Int × Bool × Int × Int × Int × Int × Bool × Int))))))).2).2).2).2).length : Int)) then
                bif idx t668 ((((((b0.2.getD t638.toNat (([] : List UInt8), ((0 : Int), (([] : List UInt8), (([] : List UInt8), ([] : List (List (List UInt8 × List UInt8) × Int × Bool × Int × Int × Int × Int × Bool × Int))))))).2).2).2).2).length) then
                  (lineprint_line.f K ((b0.2.getD t638.toNat (([] : List UInt8), ((0 : Int), (([] : List UInt8), (([] : List UInt8), ([] : List (List (List UInt8 × List UInt8) × Int × Bool × Int × Int × Int × Int × Bool × Int))))))).1, ((b0.2.getD t638.toNat (([] : List UInt8), ((0 : Int), (([] : List UInt8), (([] : List UInt8), ([] : List (List (List UInt8 × List UInt8) × Int × Bool × Int × Int × Int × Int × Bool × Int))))))).2).1, (((b0.2.getD t638.toNat (([] : List UInt8), ((0 : Int), (([] : List UInt8), (([] : List UInt8), ([] : List (List (List UInt8 × List UInt8) × Int × Bool × Int × Int × Int × Int × Bool × Int))))))).2).2).1, ((((b0.2.getD t638.toNat (([] : List UInt8), ((0 : Int), (([] : List UInt8), (([] : List UInt8), ([] : List (List (List UInt8 × List UInt8) × Int × Bool × Int × Int × Int × Int × Bool × Int))))))).2).2).2).1) (((((((b0.2.getD t638.toNat (([] : List UInt8), ((0 : Int), (([] : List UInt8), (([] : List UInt8), ([] : List (List (List UInt8 × List UInt8) × Int × Bool × Int × Int × Int × Int × Bool × Int))))))).2).2).2).2).getD t668.toNat (([] : List (List UInt8 × List UInt8)), ((0 : Int), (false, ((0 : Int), ((0 : Int), ((0 : Int), ((0 : Int), (false, (0 : Int)))))))))).1, (((((((b0.2.getD t638.toNat (([] : List UInt8), ((0 : Int), (([] : List UInt8), (([] : List UInt8), ([] : List (List (List UInt8 × List UInt8) × Int × Bool × Int × Int × Int × Int × Bool × Int))))))).2).2).2).2).getD t668.toNat (([] : List (List UInt8 × List UInt8)), ((0 : Int), (false, ((0 : Int), ((0 : Int), ((0 : Int), ((0 : Int), (false, (0 : Int)))))))))).2).1, ((((((((b0.2.getD t638.toNat (([] : List UInt8), ((0 : Int), (([] : List UInt8), (([] : List UInt8), ([] : List (List (List UInt8 × List UInt8) × Int × Bool × Int × Int × Int × Int × Bool × Int))))))).2).2).2).2).getD t668.toNat (([] : List (List UInt8 × List UInt8)), ((0 : Int), (false, ((0 : Int), ((0 : Int), ((0 : Int), ((0 : Int), (false, (0 : Int)))))))))).2).2).1, (((((((((b0.2.getD t638.toNat (([] : List UInt8), ((0 : Int), (([] : List UInt8), (([] : List UInt8), ([] : List (List (List UInt8 × List UInt8) × Int × Bool × Int × Int × Int × Int × Bool × Int))))))).2).2).2).2).getD t668.toNat (([] : List (List UInt8 × List UInt8)), ((0 : Int), (false, ((0 : Int), ((0 : Int), ((0 : Int), ((0 : Int), (false, (0 : Int)))))))))).2).2).2).1, ((((((((((b0.2.getD t638.toNat (([] : List UInt8), ((0 : Int), (([] : List UInt8), (([] : List UInt8), ([] : List (List (List UInt8 × List UInt8) × Int × Bool × Int × Int × Int × Int × Bool × Int))))))).2).2).2).2).getD t668.toNat (([] : List (List UInt8 × List UInt8)), ((0 : Int), (false, ((0 : Int), ((0 : Int), ((0 : Int), ((0 : Int), (false, (0 : Int)))))))))).2).2).2).2).1, (((((((((((b0.2.getD t638.toNat (([] : List UInt8), ((0 : Int), (([] : List UInt8), (([] : List UInt8), ([] : List (List (List UInt8 × List UInt8) × Int × Bool × Int × Int × Int × Int × Bool × Int))))))).2).2).2).2).getD t668.toNat (([] : List (List UInt8 × List UInt8)), ((0 : Int), (false, ((0 : Int), ((0 : Int), ((0 : Int), ((0 : Int), (false, (0 : Int)))))))))).2).2).2).2).2).1, ((((((((((((b0.2.getD t638.toNat (([] : List UInt8), ((0 : Int), (([] : List UInt8), (([] : List UInt8), ([] : List (List (List UInt8 × List UInt8) × Int × Bool × Int × Int × Int × Int × Bool × Int))))))).2).2).2).2).getD t668.toNat (([] : List (List UInt8 × List UInt8)), ((0 : Int), (false, ((0 : Int), ((0 : Int), ((0 : Int), ((0 : Int), (false, (0 : Int)))))))))).2).2).2).2).2).2).1, (((((((((((((b0.2.getD t638.toNat (([] : List UInt8), ((0 : Int), (([] : List UInt8), (([] : List UInt8), ([] : List (List (List UInt8 × List UInt8) × Int × Bool × Int × Int × Int × Int × Bool × Int))))))).2).2).2).2).getD t668.toNat (([] : List (List UInt8 × List UInt8)), ((0 : Int), (false, ((0 : Int), ((0 : Int), ((0 : Int), ((0 : Int), (false, (0 : Int)))))))))).2).2).2).2).2).2).2).1, (((((((((((((b0.2.getD t638.toNat (([] : List UInt8), ((0 : Int), (([] : List UInt8), (([] : List UInt8), ([] : List (List (List UInt8 × List UInt8) × Int × Bool × Int × Int × Int × Int × Bool × Int))))))).2).2).2).2).getD t668.toNat (([] : List (List UInt8 × List UInt8)), ((0 : Int), (false, ((0 : Int), ((0 : Int), ((0 : Int), ((0 : Int), (false, (0 : Int)))))))))).2).2).2).2).2).2).2).2) unit1).bind fun (r672, r673) =>
                  bif !r673 then some (.inr (.inr (([] : List UInt8), 15, b1_669, b1_670, b1_671)))
                  else
                  (out_Out_Put.g K ([r672, ([10] : List UInt8)] : List (List UInt8)) b1_669 b1_670 b1_671).bind fun (r674, b_buf675, most676, full677) =>
                  some (.inl (IntKind.i64.wrap (t668 + 1), b_buf675, most676, full677))
                else none
              else some (.inr (.inl (b1_669, b1_670, b1_671)))) (0, b1_639, b1_640, b1_641) : Option ((List Int × Int × Bool) ⊕ (List UInt8 × Int × List Int × Int × Bool)))).bind fun e_ =>
          match e_ with
          | .inl (b1_678, b1_679, b1_680) =>
            some (.inl (IntKind.i64.wrap (t638 + 1), b1_678, b1_679, b1_680))
          | .inr (t681, t682, b1_683, b1_684, b1_685) =>
            some (.inr (.inr (t681, t682, b1_683, b1_684, b1_685)))
        else none
      else some (.inr (.inl (b1_639, b1_640, b1_641)))) (0, ([] : List Int), (if (bif false then decide (20000 > (if (bif true then decide (0 > 4000) else decide (0 < 4000)) = true then 0 else 4000)) else decide (20000 < (if (bif true then decide (0 > 4000) else decide (0 < 4000)) = true then 0 else 4000))) = true then 20000 else (if (bif true then decide (0 > 4000) else decide (0 < 4000)) = true then 0 else 4000)), false) : Option ((List Int × Int × Bool) ⊕ (List UInt8 × Int × List Int × Int × Bool)))).bind fun e_ =>
  match e_ with
  | .inl (b1_686, b1_687, b1_688) =>
    bif b1_688 then
      some (([] : List UInt8), 14)
    else some (bytesOf b1_686, 0)
  | .inr (t689, t690, b1_691, b1_692, b1_693) =>
    some (t689, t690)
def lineprint_Print.sig : Sig := ⟨[(.agg (.pair .str (.sl (.pair .str (.pair (.int .i64) (.pair .str (.pair .str (.sl (.pair (.sl (.pair .str .str)) (.pair (.int .i64) (.pair .bool (.pair (.int .i64) (.pair (.int .i64) (.pair (.int .i64) (.pair (.int .i64) (.pair .bool (.int .i64))))))))))))))))), (.c (.int .i64))], [(.c .str), (.c (.int .i64))]⟩
noncomputable def lineprint_Print.con (K : Nat) : Con := (mkCon lineprint_Print.sig (fun x => lineprint_Print.f K x.1 x.2))
noncomputable def lineprint_Print.ht : HT := .seq .nil (.seq .nil (.seq .nil (.seq (.seq .nil (.block (.loop ⟨20, [4, 5, 8, 10, 11, 12], [1], ⟨[(20, .c (.v (.int .i64)))], [(1, .cells 67 [.self 1 0, .row 5 (.int .u8), .v (.int .i64), .v .bool])]⟩, [(.exit 0, ⟨[], [(1, .cells 67 [.self 1 0, .row 5 (.int .u8), .v (.int .i64), .v .bool])]⟩), (.ret, ⟨[(4, .c (.v .str)), (5, .c (.v (.int .i64)))], [(1, .cells 67 [.self 1 0, .row 5 (.int .u8), .v (.int .i64), .v .bool])]⟩)]⟩ (.seq .nil (.seq .nil (.seq (.block (.seq .nil (.seq .nil (.block (.loop ⟨27, [4, 5, 10, 11, 12], [1, 2], ⟨[(27, .c (.v (.int .i64)))], [(1, .cells 67 [.self 1 0, .row 5 (.int .u8), .v (.int .i64), .v .bool])]⟩, [(.exit 2, ⟨[], [(1, .cells 67 [.self 1 0, .row 5 (.int .u8), .v (.int .i64), .v .bool])]⟩), (.ret, ⟨[(4, .c (.v .str)), (5, .c (.v (.int .i64)))], [(1, .cells 67 [.self 1 0, .row 5 (.int .u8), .v (.int .i64), .v .bool])]⟩)]⟩ (.seq .nil (.seq .nil (.seq (.block (.seq .nil (.seq .nil (.seq .nil (.calls [(3, out_Out_Put.g.ht 1 6 7 [4])]))))) .nil)))))))) .nil)))))) .nil)))
noncomputable def lineprint_Print.cx (K : Nat) : Cx := ⟨tt, [(12, class_Is.con K), (14, lineprint_line.con K)], [], K, inlOf tt [(12, class_Is.con K), (14, lineprint_line.con K)] [] K (getBody [(13, bodyOf Tryz.f13), (15, bodyOf Tryz.f15), (16, bodyOf Tryz.f16), (17, bodyOf Tryz.f17), (29, bodyOf Tryz.f29), (30, bodyOf Tryz.f30), (31, (spBody (.text 5))), (45, bodyOf Tryz.f45), (46, (spBody (.copyCheck ccTs)))]) 3⟩
theorem lineprint_Print.eq (K : Nat) (x : PL lineprint_Print.sig.ps) : evalF (lineprint_Print.cx K) lineprint_Print.sig (bodyOf Tryz.f7) lineprint_Print.ht x = lineprint_Print.f K x.1 x.2 := by kernel_rfl
theorem lineprint_Print.fok (K : Nat) : FOK Tryz.prog lineprint_Print.sig (fun x => lineprint_Print.f K x.1 x.2) 7 := fok_of_eval (tt := tt) (cons := [(12, class_Is.con K), (14, lineprint_line.con K)]) (exts := []) (bodies := (getBody [(13, bodyOf Tryz.f13), (15, bodyOf Tryz.f15), (16, bodyOf Tryz.f16), (17, bodyOf Tryz.f17), (29, bodyOf Tryz.f29), (30, bodyOf Tryz.f30), (31, (spBody (.text 5))), (45, bodyOf Tryz.f45), (46, (spBody (.copyCheck ccTs)))])) (K := K) (d := 3) ⟨ttok, (getCon_cons (class_Is.ok K) (getCon_cons (lineprint_line.ok K) (fun _ _ => getCon_nil))), (fun _ _ => getExt_nil), (getBody_cons (gbody_mk bok13 rfl) (getBody_cons (gbody_mk bok15 rfl) (getBody_cons (gbody_mk bok16 rfl) (getBody_cons (gbody_mk bok17 rfl) (getBody_cons (gbody_mk bok29 rfl) (getBody_cons (gbody_mk bok30 rfl) (getBody_cons (gsp_mk sp31) (getBody_cons (gbody_mk bok45 rfl) (getBody_cons (gsp_mk sp46) (fun _ _ => getBody_nil))))))))))⟩ draw bok7 (lineprint_Print.eq K)
theorem lineprint_Print.ok (K : Nat) : ConOK Tryz.prog 7 (lineprint_Print.con K) := con_ok bok7 (lineprint_Print.fok K)

end Go.Proofs.YtekeaempemiciaaGreatDoor
