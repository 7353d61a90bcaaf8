/- What each function of the program comes to, and that it does, part 3. -/
import Derived.Test.YtoobdenlgapcmaaGreatFnB
import Derived.KernelRfl
set_option linter.unusedVariables false
namespace Go.Proofs.YtoobdenlgapcmaaGreat
open Go Go.Rf Go.Proofs Go.RowKit

noncomputable def class_hasAny.f (K : Nat) (s0 : List UInt8) (any1 : List UInt8) : Option Bool :=
  ((loopN K (fun (s_ : List UInt8 × Int) =>
    match s_ with
    | (b0_316, b0_317) =>
      bif decide (b0_317 < (b0_316.length : Int)) then
        ((loopN K (fun (s_ : List UInt8 × Int) =>
          match s_ with
          | (b1_322, b1_323) =>
            bif decide (b1_323 < (b1_322.length : Int)) then
              bif ((Utf8.decode ⟨b0_316.toArray⟩ b0_317.toNat).1 : Int) == ((Utf8.decode ⟨b1_322.toArray⟩ b1_323.toNat).1 : Int) then
                some (.inr (.inr (true, b1_322, b1_323 + ((Utf8.decode ⟨b1_322.toArray⟩ b1_323.toNat).2 : Int))))
              else some (.inl (b1_322, b1_323 + ((Utf8.decode ⟨b1_322.toArray⟩ b1_323.toNat).2 : Int)))
            else some (.inr (.inl (b1_322, b1_323)))) (any1, 0) : Option ((List UInt8 × Int) ⊕ (Bool × List UInt8 × Int)))).bind fun e_ =>
        match e_ with
        | .inl (b1_324, b1_325) =>
          some (.inl (b0_316, b0_317 + ((Utf8.decode ⟨b0_316.toArray⟩ b0_317.toNat).2 : Int)))
        | .inr (t326, b1_327, b1_328) =>
          some (.inr (.inr (t326, b0_316, b0_317 + ((Utf8.decode ⟨b0_316.toArray⟩ b0_317.toNat).2 : Int))))
      else some (.inr (.inl (b0_316, b0_317)))) (s0, 0) : Option ((List UInt8 × Int) ⊕ (Bool × List UInt8 × Int)))).bind fun e_ =>
  match e_ with
  | .inl (b0_329, b0_330) =>
    some false
  | .inr (t331, b0_332, b0_333) =>
    some t331
def class_hasAny.sig : Sig := ⟨[(.c .str), (.c .str)], [(.c .bool)]⟩
noncomputable def class_hasAny.con (K : Nat) : Con := (mkCon class_hasAny.sig (fun x => class_hasAny.f K x.1 x.2))
noncomputable def class_hasAny.ht : HT := .seq .nil (.seq (.seq .nil (.block (.loop ⟨11, [4, 6, 8], [0], ⟨[], [(0, .iter)]⟩, [(.exit 0, ⟨[], [(0, .iter)]⟩), (.ret, ⟨[(4, .c (.v .bool))], [(0, .iter)]⟩)]⟩ (.seq .nil (.seq .nil (.block (.seq .nil (.seq .nil (.block (.loop ⟨16, [4, 8], [1], ⟨[], [(1, .iter)]⟩, [(.exit 2, ⟨[], [(1, .iter)]⟩), (.ret, ⟨[(4, .c (.v .bool))], [(1, .iter)]⟩)]⟩ .nil)))))))))) .nil)
noncomputable def class_hasAny.cx (K : Nat) : Cx := ⟨tt, [], [], K, inlOf tt [] [] K (getBody []) 0⟩
theorem class_hasAny.eq (K : Nat) (x : PL class_hasAny.sig.ps) : evalF (class_hasAny.cx K) class_hasAny.sig (bodyOf Tryz.f87) class_hasAny.ht x = class_hasAny.f K x.1 x.2 := by kernel_rfl
theorem class_hasAny.fok (K : Nat) : FOK Tryz.prog class_hasAny.sig (fun x => class_hasAny.f K x.1 x.2) 87 := fok_of_eval (tt := tt) (cons := []) (exts := []) (bodies := (getBody [])) (K := K) (d := 0) ⟨ttok, (fun _ _ => getCon_nil), (fun _ _ => getExt_nil), (fun _ _ => getBody_nil)⟩ draw bok87 (class_hasAny.eq K)
theorem class_hasAny.ok (K : Nat) : ConOK Tryz.prog 87 (class_hasAny.con K) := con_ok bok87 (class_hasAny.fok K)

noncomputable def class_inks.f (K : Nat) (v0 : List UInt8) (but1 : List UInt8) : Option Bool :=
  ((loopN K (fun (s_ : Int) =>
    match s_ with
    | t336 =>
      bif decide (t336 < (v0.length : Int)) then
        bif idx t336 v0.length then
          bif decide (((v0.getD t336.toNat 0).toNat : Int) ≤ 32) then some (.inr (.inr false))
          else
          bif idx t336 v0.length then
            bif decide (((v0.getD t336.toNat 0).toNat : Int) > 126) then
              some (.inr (.inr false))
            else some (.inl (IntKind.i64.wrap (t336 + 1)))
          else none
        else none
      else some (.inr (.inl ()))) 0 : Option (Unit ⊕ Bool))).bind fun e_ =>
  match e_ with
  | .inl _ =>
    bif !(v0 == ([] : List UInt8)) then
      (class_hasAny.f K v0 but1).bind fun r337 =>
      some (!r337)
    else some false
  | .inr t338 =>
    some t338
def class_inks.sig : Sig := ⟨[(.c .str), (.c .str)], [(.c .bool)]⟩
noncomputable def class_inks.con (K : Nat) : Con := (mkCon class_inks.sig (fun x => class_inks.f K x.1 x.2))
noncomputable def class_inks.ht : HT := .seq .nil (.seq (.seq .nil (.block (.loop ⟨8, [4, 5], [], ⟨[(8, .c (.v (.int .i64)))], []⟩, [(.exit 0, ⟨[], []⟩), (.ret, ⟨[(4, .c (.v .bool))], []⟩)]⟩ .nil))) .nil)
noncomputable def class_inks.cx (K : Nat) : Cx := ⟨tt, [(87, class_hasAny.con K)], [], K, inlOf tt [(87, class_hasAny.con K)] [] K (getBody []) 0⟩
theorem class_inks.eq (K : Nat) (x : PL class_inks.sig.ps) : evalF (class_inks.cx K) class_inks.sig (bodyOf Tryz.f58) class_inks.ht x = class_inks.f K x.1 x.2 := by kernel_rfl
theorem class_inks.fok (K : Nat) : FOK Tryz.prog class_inks.sig (fun x => class_inks.f K x.1 x.2) 58 := fok_of_eval (tt := tt) (cons := [(87, class_hasAny.con K)]) (exts := []) (bodies := (getBody [])) (K := K) (d := 0) ⟨ttok, (getCon_cons (class_hasAny.ok K) (fun _ _ => getCon_nil)), (fun _ _ => getExt_nil), (fun _ _ => getBody_nil)⟩ draw bok58 (class_inks.eq K)
theorem class_inks.ok (K : Nat) : ConOK Tryz.prog 58 (class_inks.con K) := con_ok bok58 (class_inks.fok K)

noncomputable def class_Value.f (K : Nat) (proto0 : Int) (v1 : List UInt8) : Option Bool :=
  (label_Value.f K v1).bind fun r339 =>
  bif !r339 then some false
  else
  bif proto0 == 1 then some true
  else
  bif proto0 == 2 then
    ((loopN K (fun (s_ : Int) =>
      match s_ with
      | t342 =>
        bif decide (t342 < (v1.length : Int)) then
          bif idx t342 v1.length then
            bif decide (((v1.getD t342.toNat 0).toNat : Int) < 32) then some (.inr (.inr false))
            else
            bif idx t342 v1.length then
              bif ((v1.getD t342.toNat 0).toNat : Int) == 127 then
                some (.inr (.inr false))
              else some (.inl (IntKind.i64.wrap (t342 + 1)))
            else none
          else none
        else some (.inr (.inl ()))) 0 : Option (Unit ⊕ Bool))).bind fun e_ =>
    match e_ with
    | .inl _ =>
      bif !(v1 == ([] : List UInt8)) then
        bif ([92] : List UInt8) == v1 then some false
        else
        (stringslite_IndexByte.f K v1 ((([92] : List UInt8).getD 0 0).toNat : Int)).bind fun r343 =>
        some (!(decide (r343 ≥ 0)))
      else some false
    | .inr t344 =>
      some t344
  else
  bif proto0 == 3 then
    (class_inks.f K v1 ([59] : List UInt8)).bind fun r345 =>
    some r345
  else
  bif proto0 == 4 then
    (class_inks.f K v1 ([44, 124] : List UInt8)).bind fun r346 =>
    some r346
  else some false
def class_Value.sig : Sig := ⟨[(.c (.int .i64)), (.c .str)], [(.c .bool)]⟩
noncomputable def class_Value.con (K : Nat) : Con := (mkCon class_Value.sig (fun x => class_Value.f K x.1 x.2))
noncomputable def class_Value.ht : HT := .seq .nil (.seq .nil (.seq (.seq .nil (.block (.seq .nil (.cond .nil (.seq .nil (.cond (.seq (.seq .nil (.block (.loop ⟨16, [4, 5], [], ⟨[(16, .c (.v (.int .i64)))], []⟩, [(.exit 1, ⟨[], []⟩), (.ret, ⟨[(4, .c (.v .bool))], []⟩)]⟩ .nil))) .nil) .nil)))))) .nil))
noncomputable def class_Value.cx (K : Nat) : Cx := ⟨tt, [(56, label_Value.con K), (104, stringslite_IndexByte.con K), (58, class_inks.con K)], [], K, inlOf tt [(56, label_Value.con K), (104, stringslite_IndexByte.con K), (58, class_inks.con K)] [] K (getBody [(57, bodyOf Tryz.f57), (86, bodyOf Tryz.f86), (106, bodyOf Tryz.f106)]) 3⟩
theorem class_Value.eq (K : Nat) (x : PL class_Value.sig.ps) : evalF (class_Value.cx K) class_Value.sig (bodyOf Tryz.f32) class_Value.ht x = class_Value.f K x.1 x.2 := by kernel_rfl
theorem class_Value.fok (K : Nat) : FOK Tryz.prog class_Value.sig (fun x => class_Value.f K x.1 x.2) 32 := fok_of_eval (tt := tt) (cons := [(56, label_Value.con K), (104, stringslite_IndexByte.con K), (58, class_inks.con K)]) (exts := []) (bodies := (getBody [(57, bodyOf Tryz.f57), (86, bodyOf Tryz.f86), (106, bodyOf Tryz.f106)])) (K := K) (d := 3) ⟨ttok, (getCon_cons (label_Value.ok K) (getCon_cons (stringslite_IndexByte.ok K) (getCon_cons (class_inks.ok K) (fun _ _ => getCon_nil)))), (fun _ _ => getExt_nil), (getBody_cons (gbody_mk bok57 rfl) (getBody_cons (gbody_mk bok86 rfl) (getBody_cons (gbody_mk bok106 rfl) (fun _ _ => getBody_nil))))⟩ draw bok32 (class_Value.eq K)
theorem class_Value.ok (K : Nat) : ConOK Tryz.prog 32 (class_Value.con K) := con_ok bok32 (class_Value.fok K)

noncomputable def stamp_unitOf.f (K : Nat) (n0 : Int) : Option ((Int × Int) × Bool) :=
  bif decide (n0 < 0) then some (((0 : Int), (0 : Int)), false)
  else
  bif decide (n0 ≥ 4) then some (((0 : Int), (0 : Int)), false)
  else
  bif idx n0 4 then
    bif decide (n0.toNat < 4) then
      some ((([(1000, 1), (1, 1), (1, 1000), (1, 1000000)] : List (Int × Int)).getD n0.toNat ((0 : Int), (0 : Int))), true)
    else none
  else none
def stamp_unitOf.sig : Sig := ⟨[(.c (.int .i64))], [(.agg (.pair (.int .i64) (.int .i64))), (.c .bool)]⟩
noncomputable def stamp_unitOf.con (K : Nat) : Con := (mkCon stamp_unitOf.sig (fun x => stamp_unitOf.f K x))
noncomputable def stamp_unitOf.ht : HT := .nil
noncomputable def stamp_unitOf.cx (K : Nat) : Cx := ⟨tt, [], [], K, inlOf tt [] [] K (getBody []) 0⟩
theorem stamp_unitOf.eq (K : Nat) (x : PL stamp_unitOf.sig.ps) : evalF (stamp_unitOf.cx K) stamp_unitOf.sig (bodyOf Tryz.f101) stamp_unitOf.ht x = stamp_unitOf.f K x := by kernel_rfl
theorem stamp_unitOf.fok (K : Nat) : FOK Tryz.prog stamp_unitOf.sig (fun x => stamp_unitOf.f K x) 101 := fok_of_eval (tt := tt) (cons := []) (exts := []) (bodies := (getBody [])) (K := K) (d := 0) ⟨ttok, (fun _ _ => getCon_nil), (fun _ _ => getExt_nil), (fun _ _ => getBody_nil)⟩ draw bok101 (stamp_unitOf.eq K)
theorem stamp_unitOf.ok (K : Nat) : ConOK Tryz.prog 101 (stamp_unitOf.con K) := con_ok bok101 (stamp_unitOf.fok K)

noncomputable def stamp_isTime.f (K : Nat) (ms0 : Int) : Option Bool :=
  bif decide (ms0 ≥ (-1125899906842624)) then
    some (decide (ms0 ≤ 1125899906842624))
  else some false
def stamp_isTime.sig : Sig := ⟨[(.c (.int .i64))], [(.c .bool)]⟩
noncomputable def stamp_isTime.con (K : Nat) : Con := (mkCon stamp_isTime.sig (fun x => stamp_isTime.f K x))
noncomputable def stamp_isTime.ht : HT := .nil
noncomputable def stamp_isTime.cx (K : Nat) : Cx := ⟨tt, [], [], K, inlOf tt [] [] K (getBody []) 0⟩
theorem stamp_isTime.eq (K : Nat) (x : PL stamp_isTime.sig.ps) : evalF (stamp_isTime.cx K) stamp_isTime.sig (bodyOf Tryz.f102) stamp_isTime.ht x = stamp_isTime.f K x := by kernel_rfl
theorem stamp_isTime.fok (K : Nat) : FOK Tryz.prog stamp_isTime.sig (fun x => stamp_isTime.f K x) 102 := fok_of_eval (tt := tt) (cons := []) (exts := []) (bodies := (getBody [])) (K := K) (d := 0) ⟨ttok, (fun _ _ => getCon_nil), (fun _ _ => getExt_nil), (fun _ _ => getBody_nil)⟩ draw bok102 (stamp_isTime.eq K)
theorem stamp_isTime.ok (K : Nat) : ConOK Tryz.prog 102 (stamp_isTime.con K) := con_ok bok102 (stamp_isTime.fok K)

noncomputable def stamp_Of.f (K : Nat) (ms0 : Int) (by1 : Int) : Option (Int × Bool) :=
  (stamp_unitOf.f K by1).bind fun (r347, r348) =>
  (((
      bif !r348 then some true
      else
      (stamp_isTime.f K ms0).bind fun r349 =>
      bif !r349 then some true
      else
      bif r347.1 != 0 then
        some ((Int.tmod ms0 r347.1) != 0)
      else none) : Option Bool)).bind fun t350 =>
  bif t350 then some (0, false)
  else
  bif r347.1 != 0 then
    bif r347.2 != 0 then
      bif decide ((IntKind.i64.wrap (Int.tdiv ms0 r347.1)) > (IntKind.i64.wrap (Int.tdiv 9223372036854775807 r347.2))) then some (0, false)
      else
      bif r347.2 != 0 then
        bif decide ((IntKind.i64.wrap (Int.tdiv ms0 r347.1)) < (IntKind.i64.wrap (Int.tdiv (-9223372036854775808) r347.2))) then
          some (0, false)
        else some (IntKind.i64.wrap ((IntKind.i64.wrap (Int.tdiv ms0 r347.1)) * r347.2), true)
      else none
    else none
  else none
def stamp_Of.sig : Sig := ⟨[(.c (.int .i64)), (.c (.int .i64))], [(.c (.int .i64)), (.c .bool)]⟩
noncomputable def stamp_Of.con (K : Nat) : Con := (mkCon stamp_Of.sig (fun x => stamp_Of.f K x.1 x.2))
noncomputable def stamp_Of.ht : HT := .seq .nil (.seq .nil (.seq (.join ⟨7, [], [], ⟨[], []⟩, [(.normal, ⟨[(27, .c (.v .bool))], []⟩)]⟩ (.seq .nil .nil)) .nil))
noncomputable def stamp_Of.cx (K : Nat) : Cx := ⟨tt, [(101, stamp_unitOf.con K), (102, stamp_isTime.con K)], [], K, inlOf tt [(101, stamp_unitOf.con K), (102, stamp_isTime.con K)] [] K (getBody []) 0⟩
theorem stamp_Of.eq (K : Nat) (x : PL stamp_Of.sig.ps) : evalF (stamp_Of.cx K) stamp_Of.sig (bodyOf Tryz.f80) stamp_Of.ht x = stamp_Of.f K x.1 x.2 := by kernel_rfl
theorem stamp_Of.fok (K : Nat) : FOK Tryz.prog stamp_Of.sig (fun x => stamp_Of.f K x.1 x.2) 80 := fok_of_eval (tt := tt) (cons := [(101, stamp_unitOf.con K), (102, stamp_isTime.con K)]) (exts := []) (bodies := (getBody [])) (K := K) (d := 0) ⟨ttok, (getCon_cons (stamp_unitOf.ok K) (getCon_cons (stamp_isTime.ok K) (fun _ _ => getCon_nil))), (fun _ _ => getExt_nil), (fun _ _ => getBody_nil)⟩ draw bok80 (stamp_Of.eq K)
theorem stamp_Of.ok (K : Nat) : ConOK Tryz.prog 80 (stamp_Of.con K) := con_ok bok80 (stamp_Of.fok K)

noncomputable def class_isPoint.f (K : Nat) (proto0 : Int) (p1 : List (List UInt8 × List UInt8) × Int × Bool × Int × Int × Int × Int × Bool × Int) : Option Bool :=
  ((loopN K (fun (s_ : Int) =>
    match s_ with
    | t356 =>
      bif decide (t356 < (p1.1.length : Int)) then
        bif idx t356 p1.1.length then
          (charset_Is.f K proto0 1 ((p1.1.getD t356.toNat (([] : List UInt8), ([] : List UInt8))).1)).bind fun r357 =>
          bif !r357 then some (.inr (.inr false))
          else
          (class_Value.f K proto0 ((p1.1.getD t356.toNat (([] : List UInt8), ([] : List UInt8))).2)).bind fun r358 =>
          bif !r358 then
            some (.inr (.inr false))
          else some (.inl (IntKind.i64.wrap (t356 + 1)))
        else none
      else some (.inr (.inl ()))) 0 : Option (Unit ⊕ Bool))).bind fun e_ =>
  match e_ with
  | .inl _ =>
    bif proto0 == 3 then
      (stamp_Of.f K p1.2.2.2.2.2.2.2.2 0).bind fun (r359, r360) =>
      bif p1.2.2.2.2.2.2.2.1 then
        some r360
      else some false
    else
    bif proto0 == 4 then
      bif !p1.2.2.2.2.2.2.2.1 then
        some (decide (p1.2.2.2.2.2.1 ≥ 0))
      else some false
    else some true
  | .inr t361 =>
    some t361
def class_isPoint.sig : Sig := ⟨[(.c (.int .i64)), (.agg (.pair (.sl (.pair .str .str)) (.pair (.int .i64) (.pair .bool (.pair (.int .i64) (.pair (.int .i64) (.pair (.int .i64) (.pair (.int .i64) (.pair .bool (.int .i64))))))))))], [(.c .bool)]⟩
noncomputable def class_isPoint.con (K : Nat) : Con := (mkCon class_isPoint.sig (fun x => class_isPoint.f K x.1 x.2))
noncomputable def class_isPoint.ht : HT := .seq .nil (.seq (.seq .nil (.block (.loop ⟨12, [4, 6], [], ⟨[(12, .c (.v (.int .i64)))], []⟩, [(.exit 0, ⟨[], []⟩), (.ret, ⟨[(4, .c (.v .bool))], []⟩)]⟩ .nil))) .nil)
noncomputable def class_isPoint.cx (K : Nat) : Cx := ⟨tt, [(14, charset_Is.con K), (32, class_Value.con K), (80, stamp_Of.con K)], [], K, inlOf tt [(14, charset_Is.con K), (32, class_Value.con K), (80, stamp_Of.con K)] [] K (getBody []) 0⟩
theorem class_isPoint.eq (K : Nat) (x : PL class_isPoint.sig.ps) : evalF (class_isPoint.cx K) class_isPoint.sig (bodyOf Tryz.f54) class_isPoint.ht x = class_isPoint.f K x.1 x.2 := by kernel_rfl
theorem class_isPoint.fok (K : Nat) : FOK Tryz.prog class_isPoint.sig (fun x => class_isPoint.f K x.1 x.2) 54 := fok_of_eval (tt := tt) (cons := [(14, charset_Is.con K), (32, class_Value.con K), (80, stamp_Of.con K)]) (exts := []) (bodies := (getBody [])) (K := K) (d := 0) ⟨ttok, (getCon_cons (charset_Is.ok K) (getCon_cons (class_Value.ok K) (getCon_cons (stamp_Of.ok K) (fun _ _ => getCon_nil)))), (fun _ _ => getExt_nil), (fun _ _ => getBody_nil)⟩ draw bok54 (class_isPoint.eq K)
theorem class_isPoint.ok (K : Nat) : ConOK Tryz.prog 54 (class_isPoint.con K) := con_ok bok54 (class_isPoint.fok K)

noncomputable def class_isFamily.f (K : Nat) (proto0 : Int) (f1 : List UInt8 × Int × List UInt8 × List UInt8 × List (List (List UInt8 × List UInt8) × Int × Bool × Int × Int × Int × Int × Bool × Int)) : Option Bool :=
  (((
      (class_Kinds.f K proto0).bind fun r364 =>
      (slices_Contains_int_int.f K r364 f1.2.1).bind fun r365 =>
      bif !r365 then some true
      else
      (charset_Is.f K proto0 0 f1.1).bind fun r366 =>
      some (!r366)) : Option Bool)).bind fun t367 =>
  bif t367 then some false
  else
  (((
      (((
          bif proto0 == 1 then
            (class_isUnit.f K (f1.1, f1.2.1, f1.2.2.1, f1.2.2.2.1)).bind fun r375 =>
            bif !r375 then some true
            else
            bif proto0 != 1 then
              bif !(f1.2.2.1 == ([] : List UInt8)) then some true
              else
              bif !(f1.2.2.2.1 == ([] : List UInt8)) then
                some true
              else some ((f1.2.2.2.2.length : Int) == 0)
            else some false
          else
          bif proto0 != 1 then
            bif !(f1.2.2.1 == ([] : List UInt8)) then some true
            else
            bif !(f1.2.2.2.1 == ([] : List UInt8)) then
              some true
            else some ((f1.2.2.2.2.length : Int) == 0)
          else some false) : Option Bool)).bind fun t376 =>
      bif t376 then
        some (.inr false)
      else some (.inl ())) : Option (Unit ⊕ Bool))).bind fun e_ =>
  match e_ with
  | .inl _ =>
    ((loopN K (fun (s_ : Int) =>
      match s_ with
      | t381 =>
        bif decide (t381 < (f1.2.2.2.2.length : Int)) then
          bif idx t381 f1.2.2.2.2.length then
            (class_isPoint.f K proto0 ((f1.2.2.2.2.getD t381.toNat (([] : List (List UInt8 × List UInt8)), ((0 : Int), (false, ((0 : Int), ((0 : Int), ((0 : Int), ((0 : Int), (false, (0 : Int)))))))))).1, ((f1.2.2.2.2.getD t381.toNat (([] : List (List UInt8 × List UInt8)), ((0 : Int), (false, ((0 : Int), ((0 : Int), ((0 : Int), ((0 : Int), (false, (0 : Int)))))))))).2).1, (((f1.2.2.2.2.getD t381.toNat (([] : List (List UInt8 × List UInt8)), ((0 : Int), (false, ((0 : Int), ((0 : Int), ((0 : Int), ((0 : Int), (false, (0 : Int)))))))))).2).2).1, ((((f1.2.2.2.2.getD t381.toNat (([] : List (List UInt8 × List UInt8)), ((0 : Int), (false, ((0 : Int), ((0 : Int), ((0 : Int), ((0 : Int), (false, (0 : Int)))))))))).2).2).2).1, (((((f1.2.2.2.2.getD t381.toNat (([] : List (List UInt8 × List UInt8)), ((0 : Int), (false, ((0 : Int), ((0 : Int), ((0 : Int), ((0 : Int), (false, (0 : Int)))))))))).2).2).2).2).1, ((((((f1.2.2.2.2.getD t381.toNat (([] : List (List UInt8 × List UInt8)), ((0 : Int), (false, ((0 : Int), ((0 : Int), ((0 : Int), ((0 : Int), (false, (0 : Int)))))))))).2).2).2).2).2).1, (((((((f1.2.2.2.2.getD t381.toNat (([] : List (List UInt8 × List UInt8)), ((0 : Int), (false, ((0 : Int), ((0 : Int), ((0 : Int), ((0 : Int), (false, (0 : Int)))))))))).2).2).2).2).2).2).1, ((((((((f1.2.2.2.2.getD t381.toNat (([] : List (List UInt8 × List UInt8)), ((0 : Int), (false, ((0 : Int), ((0 : Int), ((0 : Int), ((0 : Int), (false, (0 : Int)))))))))).2).2).2).2).2).2).2).1, ((((((((f1.2.2.2.2.getD t381.toNat (([] : List (List UInt8 × List UInt8)), ((0 : Int), (false, ((0 : Int), ((0 : Int), ((0 : Int), ((0 : Int), (false, (0 : Int)))))))))).2).2).2).2).2).2).2).2)).bind fun r382 =>
            bif !r382 then
              some (.inr (.inr t381))
            else some (.inl (IntKind.i64.wrap (t381 + 1)))
          else none
        else some (.inr (.inl ()))) 0 : Option (Unit ⊕ Int))).bind fun e_ =>
    match e_ with
    | .inl _ =>
      some true
    | .inr t383 =>
      some (!(decide (t383 ≥ 0)))
  | .inr t384 =>
    some t384
def class_isFamily.sig : Sig := ⟨[(.c (.int .i64)), (.agg (.pair .str (.pair (.int .i64) (.pair .str (.pair .str (.sl (.pair (.sl (.pair .str .str)) (.pair (.int .i64) (.pair .bool (.pair (.int .i64) (.pair (.int .i64) (.pair (.int .i64) (.pair (.int .i64) (.pair .bool (.int .i64)))))))))))))))], [(.c .bool)]⟩
noncomputable def class_isFamily.con (K : Nat) : Con := (mkCon class_isFamily.sig (fun x => class_isFamily.f K x.1 x.2))
noncomputable def class_isFamily.ht : HT := .seq .nil (.seq (.join ⟨5, [], [], ⟨[], []⟩, [(.normal, ⟨[(19, .c (.v .bool))], []⟩)]⟩ (.seq .nil .nil)) (.join ⟨4, [], [], ⟨[], []⟩, [(.normal, ⟨[], []⟩), (.ret, ⟨[(4, .c (.v .bool))], []⟩)]⟩ (.seq (.join ⟨5, [], [], ⟨[], []⟩, [(.normal, ⟨[(49, .c (.v .bool))], []⟩)]⟩ (.seq .nil .nil)) (.seq (.calls [(3, .seq .nil (.seq (.calls [(2, .seq .nil (.seq (.seq .nil (.block (.loop ⟨8, [4, 5], [], ⟨[(8, .c (.v (.int .i64)))], []⟩, [(.exit 0, ⟨[], []⟩), (.ret, ⟨[(4, .c (.v (.int .i64)))], []⟩)]⟩ .nil))) .nil))]) .nil))]) .nil))))
noncomputable def class_isFamily.cx (K : Nat) : Cx := ⟨tt, [(50, class_Kinds.con K), (49, slices_Contains_int_int.con K), (14, charset_Is.con K), (51, class_isUnit.con K), (54, class_isPoint.con K)], [], K, inlOf tt [(50, class_Kinds.con K), (49, slices_Contains_int_int.con K), (14, charset_Is.con K), (51, class_isUnit.con K), (54, class_isPoint.con K)] [] K (getBody [(52, bodyOf Tryz.f52), (53, bodyOf Tryz.f53), (79, bodyOf Tryz.f79)]) 3⟩
theorem class_isFamily.eq (K : Nat) (x : PL class_isFamily.sig.ps) : evalF (class_isFamily.cx K) class_isFamily.sig (bodyOf Tryz.f28) class_isFamily.ht x = class_isFamily.f K x.1 x.2 := by kernel_rfl
theorem class_isFamily.fok (K : Nat) : FOK Tryz.prog class_isFamily.sig (fun x => class_isFamily.f K x.1 x.2) 28 := fok_of_eval (tt := tt) (cons := [(50, class_Kinds.con K), (49, slices_Contains_int_int.con K), (14, charset_Is.con K), (51, class_isUnit.con K), (54, class_isPoint.con K)]) (exts := []) (bodies := (getBody [(52, bodyOf Tryz.f52), (53, bodyOf Tryz.f53), (79, bodyOf Tryz.f79)])) (K := K) (d := 3) ⟨ttok, (getCon_cons (class_Kinds.ok K) (getCon_cons (slices_Contains_int_int.ok K) (getCon_cons (charset_Is.ok K) (getCon_cons (class_isUnit.ok K) (getCon_cons (class_isPoint.ok K) (fun _ _ => getCon_nil)))))), (fun _ _ => getExt_nil), (getBody_cons (gbody_mk bok52 rfl) (getBody_cons (gbody_mk bok53 rfl) (getBody_cons (gbody_mk bok79 rfl) (fun _ _ => getBody_nil))))⟩ draw bok28 (class_isFamily.eq K)
theorem class_isFamily.ok (K : Nat) : ConOK Tryz.prog 28 (class_isFamily.con K) := con_ok bok28 (class_isFamily.fok K)

noncomputable def class_Why.f (K : Nat) (proto0 : Int) (b1 : List UInt8 × List (List UInt8 × Int × List UInt8 × List UInt8 × List (List (List UInt8 × List UInt8) × Int × Bool × Int × Int × Int × Int × Bool × Int))) : Option (List UInt8 × Bool) :=
  (((
      bif decide (proto0 < 1) then some true
      else
      bif decide (proto0 > 4) then some true
      else
      (batch_Check.f K b1).bind fun r385 =>
      some (r385 != 0)) : Option Bool)).bind fun t386 =>
  bif t386 then some (([] : List UInt8), false)
  else
  ((loopN K (fun (s_ : Int) =>
    match s_ with
    | t391 =>
      bif decide (t391 < (b1.2.length : Int)) then
        bif idx t391 b1.2.length then
          (class_isFamily.f K proto0 ((b1.2.getD t391.toNat (([] : List UInt8), ((0 : Int), (([] : List UInt8), (([] : List UInt8), ([] : List (List (List UInt8 × List UInt8) × Int × Bool × Int × Int × Int × Int × Bool × Int))))))).1, ((b1.2.getD t391.toNat (([] : List UInt8), ((0 : Int), (([] : List UInt8), (([] : List UInt8), ([] : List (List (List UInt8 × List UInt8) × Int × Bool × Int × Int × Int × Int × Bool × Int))))))).2).1, (((b1.2.getD t391.toNat (([] : List UInt8), ((0 : Int), (([] : List UInt8), (([] : List UInt8), ([] : List (List (List UInt8 × List UInt8) × Int × Bool × Int × Int × Int × Int × Bool × Int))))))).2).2).1, ((((b1.2.getD t391.toNat (([] : List UInt8), ((0 : Int), (([] : List UInt8), (([] : List UInt8), ([] : List (List (List UInt8 × List UInt8) × Int × Bool × Int × Int × Int × Int × Bool × Int))))))).2).2).2).1, ((((b1.2.getD t391.toNat (([] : List UInt8), ((0 : Int), (([] : List UInt8), (([] : List UInt8), ([] : List (List (List UInt8 × List UInt8) × Int × Bool × Int × Int × Int × Int × Bool × Int))))))).2).2).2).2)).bind fun r392 =>
          bif !r392 then
            some (.inr (.inr ((b1.2.getD t391.toNat (([] : List UInt8), ((0 : Int), (([] : List UInt8), (([] : List UInt8), ([] : List (List (List UInt8 × List UInt8) × Int × Bool × Int × Int × Int × Int × Bool × Int))))))).1, false)))
          else some (.inl (IntKind.i64.wrap (t391 + 1)))
        else none
      else some (.inr (.inl ()))) 0 : Option (Unit ⊕ (List UInt8 × Bool)))).bind fun e_ =>
  match e_ with
  | .inl _ =>
    some (([] : List UInt8), true)
  | .inr (name393, ok394) =>
    some (name393, ok394)
def class_Why.sig : Sig := ⟨[(.c (.int .i64)), (.agg (.pair .str (.sl (.pair .str (.pair (.int .i64) (.pair .str (.pair .str (.sl (.pair (.sl (.pair .str .str)) (.pair (.int .i64) (.pair .bool (.pair (.int .i64) (.pair (.int .i64) (.pair (.int .i64) (.pair (.int .i64) (.pair .bool (.int .i64)))))))))))))))))], [(.c .str), (.c .bool)]⟩
noncomputable def class_Why.con (K : Nat) : Con := (mkCon class_Why.sig (fun x => class_Why.f K x.1 x.2))
noncomputable def class_Why.ht : HT := .seq .nil (.seq (.join ⟨6, [], [], ⟨[], []⟩, [(.normal, ⟨[(18, .c (.v .bool))], []⟩)]⟩ (.seq .nil .nil)) (.seq (.seq .nil (.block (.loop ⟨22, [4, 5, 7], [], ⟨[(22, .c (.v (.int .i64)))], []⟩, [(.exit 0, ⟨[], []⟩), (.ret, ⟨[(4, .c (.v .str)), (5, .c (.v .bool))], []⟩)]⟩ .nil))) .nil))
noncomputable def class_Why.cx (K : Nat) : Cx := ⟨tt, [(27, batch_Check.con K), (28, class_isFamily.con K)], [], K, inlOf tt [(27, batch_Check.con K), (28, class_isFamily.con K)] [] K (getBody []) 0⟩
theorem class_Why.eq (K : Nat) (x : PL class_Why.sig.ps) : evalF (class_Why.cx K) class_Why.sig (bodyOf Tryz.f12) class_Why.ht x = class_Why.f K x.1 x.2 := by kernel_rfl
theorem class_Why.fok (K : Nat) : FOK Tryz.prog class_Why.sig (fun x => class_Why.f K x.1 x.2) 12 := fok_of_eval (tt := tt) (cons := [(27, batch_Check.con K), (28, class_isFamily.con K)]) (exts := []) (bodies := (getBody [])) (K := K) (d := 0) ⟨ttok, (getCon_cons (batch_Check.ok K) (getCon_cons (class_isFamily.ok K) (fun _ _ => getCon_nil))), (fun _ _ => getExt_nil), (fun _ _ => getBody_nil)⟩ draw bok12 (class_Why.eq K)
theorem class_Why.ok (K : Nat) : ConOK Tryz.prog 12 (class_Why.con K) := con_ok bok12 (class_Why.fok K)

noncomputable def class_Is.f (K : Nat) (proto0 : Int) (b1 : List UInt8 × List (List UInt8 × Int × List UInt8 × List UInt8 × List (List (List UInt8 × List UInt8) × Int × Bool × Int × Int × Int × Int × Bool × Int))) : Option Bool :=
  (class_Why.f K proto0 b1).bind fun (r395, r396) =>
  some r396
def class_Is.sig : Sig := ⟨[(.c (.int .i64)), (.agg (.pair .str (.sl (.pair .str (.pair (.int .i64) (.pair .str (.pair .str (.sl (.pair (.sl (.pair .str .str)) (.pair (.int .i64) (.pair .bool (.pair (.int .i64) (.pair (.int .i64) (.pair (.int .i64) (.pair (.int .i64) (.pair .bool (.int .i64)))))))))))))))))], [(.c .bool)]⟩
noncomputable def class_Is.con (K : Nat) : Con := (mkCon class_Is.sig (fun x => class_Is.f K x.1 x.2))
noncomputable def class_Is.ht : HT := .nil
noncomputable def class_Is.cx (K : Nat) : Cx := ⟨tt, [(12, class_Why.con K)], [], K, inlOf tt [(12, class_Why.con K)] [] K (getBody []) 0⟩
theorem class_Is.eq (K : Nat) (x : PL class_Is.sig.ps) : evalF (class_Is.cx K) class_Is.sig (bodyOf Tryz.f7) class_Is.ht x = class_Is.f K x.1 x.2 := by kernel_rfl
theorem class_Is.fok (K : Nat) : FOK Tryz.prog class_Is.sig (fun x => class_Is.f K x.1 x.2) 7 := fok_of_eval (tt := tt) (cons := [(12, class_Why.con K)]) (exts := []) (bodies := (getBody [])) (K := K) (d := 0) ⟨ttok, (getCon_cons (class_Why.ok K) (fun _ _ => getCon_nil)), (fun _ _ => getExt_nil), (fun _ _ => getBody_nil)⟩ draw bok7 (class_Is.eq K)
theorem class_Is.ok (K : Nat) : ConOK Tryz.prog 7 (class_Is.con K) := con_ok bok7 (class_Is.fok K)

noncomputable def own_Point.f (K : Nat) (p0 : List (List UInt8 × List UInt8) × Int × Bool × Int × Int × Int × Int × Bool × Int) : Option (List (List UInt8 × List UInt8) × Int × Bool × Int × Int × Int × Int × Bool × Int) :=
  bif decide (p0.1.length * 32 ≤ LIM) && decide (p0.1.length ≤ 9223372036854775807) then
    some p0
  else none
def own_Point.sig : Sig := ⟨[(.agg (.pair (.sl (.pair .str .str)) (.pair (.int .i64) (.pair .bool (.pair (.int .i64) (.pair (.int .i64) (.pair (.int .i64) (.pair (.int .i64) (.pair .bool (.int .i64))))))))))], [(.agg (.pair (.sl (.pair .str .str)) (.pair (.int .i64) (.pair .bool (.pair (.int .i64) (.pair (.int .i64) (.pair (.int .i64) (.pair (.int .i64) (.pair .bool (.int .i64))))))))))]⟩
noncomputable def own_Point.con (K : Nat) : Con := (mkCon own_Point.sig (fun x => own_Point.f K x))
noncomputable def own_Point.ht : HT := .nil
noncomputable def own_Point.cx (K : Nat) : Cx := ⟨tt, [], [], K, inlOf tt [] [] K (getBody [(26, (spBody (.clone 49 (.pair .str .str) 32)))]) 1⟩
theorem own_Point.eq (K : Nat) (x : PL own_Point.sig.ps) : evalF (own_Point.cx K) own_Point.sig (bodyOf Tryz.f11) own_Point.ht x = own_Point.f K x := by kernel_rfl
theorem own_Point.fok (K : Nat) : FOK Tryz.prog own_Point.sig (fun x => own_Point.f K x) 11 := fok_of_eval (tt := tt) (cons := []) (exts := []) (bodies := (getBody [(26, (spBody (.clone 49 (.pair .str .str) 32)))])) (K := K) (d := 1) ⟨ttok, (fun _ _ => getCon_nil), (fun _ _ => getExt_nil), (getBody_cons (gsp_mk sp26) (fun _ _ => getBody_nil))⟩ draw bok11 (own_Point.eq K)
theorem own_Point.ok (K : Nat) : ConOK Tryz.prog 11 (own_Point.con K) := con_ok bok11 (own_Point.fok K)

noncomputable def statprint_Events.f (K : Nat) (b0 : List UInt8 × List (List UInt8 × Int × List UInt8 × List UInt8 × List (List (List UInt8 × List UInt8) × Int × Bool × Int × Int × Int × Int × Bool × Int))) : Option (List (List UInt8 × List (List UInt8 × List UInt8) × Int × Int × Int × Int × Int × List UInt8) × Bool) :=
  (class_Is.f K 4 b0).bind fun r397 =>
  bif !r397 then some (([] : List (List UInt8 × List (List UInt8 × List UInt8) × Int × Int × Int × Int × Int × List UInt8)), false)
  else
  ((loopN K (fun (s_ : List (List UInt8 × List (List UInt8 × List UInt8) × Int × Int × Int × Int × Int × List UInt8) × Int) =>
    match s_ with
    | (all420, t421) =>
      bif decide (t421 < (b0.2.length : Int)) then
        bif idx t421 b0.2.length then
          ((loopN K (fun (s_ : List (List UInt8 × List (List UInt8 × List UInt8) × Int × Int × Int × Int × Int × List UInt8) × Int) =>
            match s_ with
            | (all427, t428) =>
              bif decide (t428 < ((((((b0.2.getD t421.toNat (([] : List UInt8), ((0 : Int), (([] : List UInt8), (([] : List UInt8), ([] : List (List (List UInt8 × List UInt8) × Int × Bool × Int × Int × Int × Int × Bool × Int))))))).2).2).2).2).length : Int)) then
                bif idx t428 ((((((b0.2.getD t421.toNat (([] : List UInt8), ((0 : Int), (([] : List UInt8), (([] : List UInt8), ([] : List (List (List UInt8 × List UInt8) × Int × Bool × Int × Int × Int × Int × Bool × Int))))))).2).2).2).2).length) then
                  (own_Point.f K (((((((b0.2.getD t421.toNat (([] : List UInt8), ((0 : Int), (([] : List UInt8), (([] : List UInt8), ([] : List (List (List UInt8 × List UInt8) × Int × Bool × Int × Int × Int × Int × Bool × Int))))))).2).2).2).2).getD t428.toNat (([] : List (List UInt8 × List UInt8)), ((0 : Int), (false, ((0 : Int), ((0 : Int), ((0 : Int), ((0 : Int), (false, (0 : Int)))))))))).1, (((((((b0.2.getD t421.toNat (([] : List UInt8), ((0 : Int), (([] : List UInt8), (([] : List UInt8), ([] : List (List (List UInt8 × List UInt8) × Int × Bool × Int × Int × Int × Int × Bool × Int))))))).2).2).2).2).getD t428.toNat (([] : List (List UInt8 × List UInt8)), ((0 : Int), (false, ((0 : Int), ((0 : Int), ((0 : Int), ((0 : Int), (false, (0 : Int)))))))))).2).1, ((((((((b0.2.getD t421.toNat (([] : List UInt8), ((0 : Int), (([] : List UInt8), (([] : List UInt8), ([] : List (List (List UInt8 × List UInt8) × Int × Bool × Int × Int × Int × Int × Bool × Int))))))).2).2).2).2).getD t428.toNat (([] : List (List UInt8 × List UInt8)), ((0 : Int), (false, ((0 : Int), ((0 : Int), ((0 : Int), ((0 : Int), (false, (0 : Int)))))))))).2).2).1, (((((((((b0.2.getD t421.toNat (([] : List UInt8), ((0 : Int), (([] : List UInt8), (([] : List UInt8), ([] : List (List (List UInt8 × List UInt8) × Int × Bool × Int × Int × Int × Int × Bool × Int))))))).2).2).2).2).getD t428.toNat (([] : List (List UInt8 × List UInt8)), ((0 : Int), (false, ((0 : Int), ((0 : Int), ((0 : Int), ((0 : Int), (false, (0 : Int)))))))))).2).2).2).1, ((((((((((b0.2.getD t421.toNat (([] : List UInt8), ((0 : Int), (([] : List UInt8), (([] : List UInt8), ([] : List (List (List UInt8 × List UInt8) × Int × Bool × Int × Int × Int × Int × Bool × Int))))))).2).2).2).2).getD t428.toNat (([] : List (List UInt8 × List UInt8)), ((0 : Int), (false, ((0 : Int), ((0 : Int), ((0 : Int), ((0 : Int), (false, (0 : Int)))))))))).2).2).2).2).1, (((((((((((b0.2.getD t421.toNat (([] : List UInt8), ((0 : Int), (([] : List UInt8), (([] : List UInt8), ([] : List (List (List UInt8 × List UInt8) × Int × Bool × Int × Int × Int × Int × Bool × Int))))))).2).2).2).2).getD t428.toNat (([] : List (List UInt8 × List UInt8)), ((0 : Int), (false, ((0 : Int), ((0 : Int), ((0 : Int), ((0 : Int), (false, (0 : Int)))))))))).2).2).2).2).2).1, ((((((((((((b0.2.getD t421.toNat (([] : List UInt8), ((0 : Int), (([] : List UInt8), (([] : List UInt8), ([] : List (List (List UInt8 × List UInt8) × Int × Bool × Int × Int × Int × Int × Bool × Int))))))).2).2).2).2).getD t428.toNat (([] : List (List UInt8 × List UInt8)), ((0 : Int), (false, ((0 : Int), ((0 : Int), ((0 : Int), ((0 : Int), (false, (0 : Int)))))))))).2).2).2).2).2).2).1, (((((((((((((b0.2.getD t421.toNat (([] : List UInt8), ((0 : Int), (([] : List UInt8), (([] : List UInt8), ([] : List (List (List UInt8 × List UInt8) × Int × Bool × Int × Int × Int × Int × Bool × Int))))))).2).2).2).2).getD t428.toNat (([] : List (List UInt8 × List UInt8)), ((0 : Int), (false, ((0 : Int), ((0 : Int), ((0 : Int), ((0 : Int), (false, (0 : Int)))))))))).2).2).2).2).2).2).2).1, (((((((((((((b0.2.getD t421.toNat (([] : List UInt8), ((0 : Int), (([] : List UInt8), (([] : List UInt8), ([] : List (List (List UInt8 × List UInt8) × Int × Bool × Int × Int × Int × Int × Bool × Int))))))).2).2).2).2).getD t428.toNat (([] : List (List UInt8 × List UInt8)), ((0 : Int), (false, ((0 : Int), ((0 : Int), ((0 : Int), ((0 : Int), (false, (0 : Int)))))))))).2).2).2).2).2).2).2).2)).bind fun r429 =>
                  bif (((b0.2.getD t421.toNat (([] : List UInt8), ((0 : Int), (([] : List UInt8), (([] : List UInt8), ([] : List (List (List UInt8 × List UInt8) × Int × Bool × Int × Int × Int × Int × Bool × Int))))))).2).1) == 2 then
                    bif decide ((all427.length + ([((b0.2.getD t421.toNat (([] : List UInt8), ((0 : Int), (([] : List UInt8), (([] : List UInt8), ([] : List (List (List UInt8 × List UInt8) × Int × Bool × Int × Int × Int × Int × Bool × Int))))))).1, r429.1, 1, (((((((((((b0.2.getD t421.toNat (([] : List UInt8), ((0 : Int), (([] : List UInt8), (([] : List UInt8), ([] : List (List (List UInt8 × List UInt8) × Int × Bool × Int × Int × Int × Int × Bool × Int))))))).2).2).2).2).getD t428.toNat (([] : List (List UInt8 × List UInt8)), ((0 : Int), (false, ((0 : Int), ((0 : Int), ((0 : Int), ((0 : Int), (false, (0 : Int)))))))))).2).2).2).2).2).1, ((((((((((((b0.2.getD t421.toNat (([] : List UInt8), ((0 : Int), (([] : List UInt8), (([] : List UInt8), ([] : List (List (List UInt8 × List UInt8) × Int × Bool × Int × Int × Int × Int × Bool × Int))))))).2).2).2).2).getD t428.toNat (([] : List (List UInt8 × List UInt8)), ((0 : Int), (false, ((0 : Int), ((0 : Int), ((0 : Int), ((0 : Int), (false, (0 : Int)))))))))).2).2).2).2).2).2).1, 1, (0 : Int), ([] : List UInt8))] : List (List UInt8 × List (List UInt8 × List UInt8) × Int × Int × Int × Int × Int × List UInt8)).length) * 96 ≤ LIM) then
                      some (.inl ((all427 ++ ([((b0.2.getD t421.toNat (([] : List UInt8), ((0 : Int), (([] : List UInt8), (([] : List UInt8), ([] : List (List (List UInt8 × List UInt8) × Int × Bool × Int × Int × Int × Int × Bool × Int))))))).1, r429.1, 1, (((((((((((b0.2.getD t421.toNat (([] : List UInt8), ((0 : Int), (([] : List UInt8), (([] : List UInt8), ([] : List (List (List UInt8 × List UInt8) × Int × Bool × Int × Int × Int × Int × Bool × Int))))))).2).2).2).2).getD t428.toNat (([] : List (List UInt8 × List UInt8)), ((0 : Int), (false, ((0 : Int), ((0 : Int), ((0 : Int), ((0 : Int), (false, (0 : Int)))))))))).2).2).2).2).2).1, ((((((((((((b0.2.getD t421.toNat (([] : List UInt8), ((0 : Int), (([] : List UInt8), (([] : List UInt8), ([] : List (List (List UInt8 × List UInt8) × Int × Bool × Int × Int × Int × Int × Bool × Int))))))).2).2).2).2).getD t428.toNat (([] : List (List UInt8 × List UInt8)), ((0 : Int), (false, ((0 : Int), ((0 : Int), ((0 : Int), ((0 : Int), (false, (0 : Int)))))))))).2).2).2).2).2).2).1, 1, (0 : Int), ([] : List UInt8))] : List (List UInt8 × List (List UInt8 × List UInt8) × Int × Int × Int × Int × Int × List UInt8))), IntKind.i64.wrap (t428 + 1)))
                    else none
                  else
                  bif decide ((all427.length + ([((b0.2.getD t421.toNat (([] : List UInt8), ((0 : Int), (([] : List UInt8), (([] : List UInt8), ([] : List (List (List UInt8 × List UInt8) × Int × Bool × Int × Int × Int × Int × Bool × Int))))))).1, r429.1, 2, (((((((((((b0.2.getD t421.toNat (([] : List UInt8), ((0 : Int), (([] : List UInt8), (([] : List UInt8), ([] : List (List (List UInt8 × List UInt8) × Int × Bool × Int × Int × Int × Int × Bool × Int))))))).2).2).2).2).getD t428.toNat (([] : List (List UInt8 × List UInt8)), ((0 : Int), (false, ((0 : Int), ((0 : Int), ((0 : Int), ((0 : Int), (false, (0 : Int)))))))))).2).2).2).2).2).1, ((((((((((((b0.2.getD t421.toNat (([] : List UInt8), ((0 : Int), (([] : List UInt8), (([] : List UInt8), ([] : List (List (List UInt8 × List UInt8) × Int × Bool × Int × Int × Int × Int × Bool × Int))))))).2).2).2).2).getD t428.toNat (([] : List (List UInt8 × List UInt8)), ((0 : Int), (false, ((0 : Int), ((0 : Int), ((0 : Int), ((0 : Int), (false, (0 : Int)))))))))).2).2).2).2).2).2).1, (0 : Int), (0 : Int), ([] : List UInt8))] : List (List UInt8 × List (List UInt8 × List UInt8) × Int × Int × Int × Int × Int × List UInt8)).length) * 96 ≤ LIM) then
                    some (.inl ((all427 ++ ([((b0.2.getD t421.toNat (([] : List UInt8), ((0 : Int), (([] : List UInt8), (([] : List UInt8), ([] : List (List (List UInt8 × List UInt8) × Int × Bool × Int × Int × Int × Int × Bool × Int))))))).1, r429.1, 2, (((((((((((b0.2.getD t421.toNat (([] : List UInt8), ((0 : Int), (([] : List UInt8), (([] : List UInt8), ([] : List (List (List UInt8 × List UInt8) × Int × Bool × Int × Int × Int × Int × Bool × Int))))))).2).2).2).2).getD t428.toNat (([] : List (List UInt8 × List UInt8)), ((0 : Int), (false, ((0 : Int), ((0 : Int), ((0 : Int), ((0 : Int), (false, (0 : Int)))))))))).2).2).2).2).2).1, ((((((((((((b0.2.getD t421.toNat (([] : List UInt8), ((0 : Int), (([] : List UInt8), (([] : List UInt8), ([] : List (List (List UInt8 × List UInt8) × Int × Bool × Int × Int × Int × Int × Bool × Int))))))).2).2).2).2).getD t428.toNat (([] : List (List UInt8 × List UInt8)), ((0 : Int), (false, ((0 : Int), ((0 : Int), ((0 : Int), ((0 : Int), (false, (0 : Int)))))))))).2).2).2).2).2).2).1, (0 : Int), (0 : Int), ([] : List UInt8))] : List (List UInt8 × List (List UInt8 × List UInt8) × Int × Int × Int × Int × Int × List UInt8))), IntKind.i64.wrap (t428 + 1)))
                  else none
                else none
              else some (.inr all427)) (all420, 0) : Option (List (List UInt8 × List (List UInt8 × List UInt8) × Int × Int × Int × Int × Int × List UInt8)))).bind fun all430 =>
          some (.inl (all430, IntKind.i64.wrap (t421 + 1)))
        else none
      else some (.inr all420)) (([] : List (List UInt8 × List (List UInt8 × List UInt8) × Int × Int × Int × Int × Int × List UInt8)), 0) : Option (List (List UInt8 × List (List UInt8 × List UInt8) × Int × Int × Int × Int × Int × List UInt8)))).bind fun all431 =>
  some (all431, true)
def statprint_Events.sig : Sig := ⟨[(.agg (.pair .str (.sl (.pair .str (.pair (.int .i64) (.pair .str (.pair .str (.sl (.pair (.sl (.pair .str .str)) (.pair (.int .i64) (.pair .bool (.pair (.int .i64) (.pair (.int .i64) (.pair (.int .i64) (.pair (.int .i64) (.pair .bool (.int .i64)))))))))))))))))], [(.c (.sl (.pair .str (.pair (.sl (.pair .str .str)) (.pair (.int .i64) (.pair (.int .i64) (.pair (.int .i64) (.pair (.int .i64) (.pair (.int .i64) .str))))))))), (.c .bool)]⟩
noncomputable def statprint_Events.con (K : Nat) : Con := (mkCon statprint_Events.sig (fun x => statprint_Events.f K x))
noncomputable def statprint_Events.ht : HT := .seq .nil (.seq .nil (.seq .nil (.seq (.seq .nil (.block (.loop ⟨16, [4, 6, 8, 9], [], ⟨[(4, .c (.row 40 (.pair .str (.pair (.sl (.pair .str .str)) (.pair (.int .i64) (.pair (.int .i64) (.pair (.int .i64) (.pair (.int .i64) (.pair (.int .i64) .str))))))))), (16, .c (.v (.int .i64)))], []⟩, [(.exit 0, ⟨[(4, .c (.row 40 (.pair .str (.pair (.sl (.pair .str .str)) (.pair (.int .i64) (.pair (.int .i64) (.pair (.int .i64) (.pair (.int .i64) (.pair (.int .i64) .str)))))))))], []⟩)]⟩ (.seq .nil (.seq .nil (.seq (.block (.seq .nil (.seq .nil (.block (.loop ⟨23, [4, 8, 9], [1], ⟨[(4, .c (.row 40 (.pair .str (.pair (.sl (.pair .str .str)) (.pair (.int .i64) (.pair (.int .i64) (.pair (.int .i64) (.pair (.int .i64) (.pair (.int .i64) .str))))))))), (23, .c (.v (.int .i64)))], []⟩, [(.exit 2, ⟨[(4, .c (.row 40 (.pair .str (.pair (.sl (.pair .str .str)) (.pair (.int .i64) (.pair (.int .i64) (.pair (.int .i64) (.pair (.int .i64) (.pair (.int .i64) .str)))))))))], []⟩)]⟩ .nil))))) .nil)))))) .nil)))
noncomputable def statprint_Events.cx (K : Nat) : Cx := ⟨tt, [(7, class_Is.con K), (11, own_Point.con K)], [], K, inlOf tt [(7, class_Is.con K), (11, own_Point.con K)] [] K (getBody []) 0⟩
theorem statprint_Events.eq (K : Nat) (x : PL statprint_Events.sig.ps) : evalF (statprint_Events.cx K) statprint_Events.sig (bodyOf Tryz.f6) statprint_Events.ht x = statprint_Events.f K x := by kernel_rfl
theorem statprint_Events.fok (K : Nat) : FOK Tryz.prog statprint_Events.sig (fun x => statprint_Events.f K x) 6 := fok_of_eval (tt := tt) (cons := [(7, class_Is.con K), (11, own_Point.con K)]) (exts := []) (bodies := (getBody [])) (K := K) (d := 0) ⟨ttok, (getCon_cons (class_Is.ok K) (getCon_cons (own_Point.ok K) (fun _ _ => getCon_nil))), (fun _ _ => getExt_nil), (fun _ _ => getBody_nil)⟩ draw bok6 (statprint_Events.eq K)
theorem statprint_Events.ok (K : Nat) : ConOK Tryz.prog 6 (statprint_Events.con K) := con_ok bok6 (statprint_Events.fok K)

noncomputable def statprint_isLabels.f (K : Nat) (l0 : List (List UInt8 × List UInt8)) : Option Bool :=
  ((loopN K (fun (s_ : Int) =>
    match s_ with
    | t437 =>
      bif decide (t437 < (l0.length : Int)) then
        bif idx t437 l0.length then
          (charset_Is.f K 4 1 ((l0.getD t437.toNat (([] : List UInt8), ([] : List UInt8))).1)).bind fun r438 =>
          bif !r438 then some (.inr (.inr false))
          else
          (class_Value.f K 4 ((l0.getD t437.toNat (([] : List UInt8), ([] : List UInt8))).2)).bind fun r439 =>
          bif !r439 then
            some (.inr (.inr false))
          else some (.inl (IntKind.i64.wrap (t437 + 1)))
        else none
      else some (.inr (.inl ()))) 0 : Option (Unit ⊕ Bool))).bind fun e_ =>
  match e_ with
  | .inl _ =>
    (label_Good.f K l0).bind fun r440 =>
    some r440
  | .inr t441 =>
    some t441
def statprint_isLabels.sig : Sig := ⟨[(.c (.sl (.pair .str .str)))], [(.c .bool)]⟩
noncomputable def statprint_isLabels.con (K : Nat) : Con := (mkCon statprint_isLabels.sig (fun x => statprint_isLabels.f K x))
noncomputable def statprint_isLabels.ht : HT := .seq .nil (.seq (.seq .nil (.block (.loop ⟨7, [2, 4], [], ⟨[(7, .c (.v (.int .i64)))], []⟩, [(.exit 0, ⟨[], []⟩), (.ret, ⟨[(2, .c (.v .bool))], []⟩)]⟩ .nil))) .nil)
noncomputable def statprint_isLabels.cx (K : Nat) : Cx := ⟨tt, [(14, charset_Is.con K), (32, class_Value.con K), (33, label_Good.con K)], [], K, inlOf tt [(14, charset_Is.con K), (32, class_Value.con K), (33, label_Good.con K)] [] K (getBody []) 0⟩
theorem statprint_isLabels.eq (K : Nat) (x : PL statprint_isLabels.sig.ps) : evalF (statprint_isLabels.cx K) statprint_isLabels.sig (bodyOf Tryz.f15) statprint_isLabels.ht x = statprint_isLabels.f K x := by kernel_rfl
theorem statprint_isLabels.fok (K : Nat) : FOK Tryz.prog statprint_isLabels.sig (fun x => statprint_isLabels.f K x) 15 := fok_of_eval (tt := tt) (cons := [(14, charset_Is.con K), (32, class_Value.con K), (33, label_Good.con K)]) (exts := []) (bodies := (getBody [])) (K := K) (d := 0) ⟨ttok, (getCon_cons (charset_Is.ok K) (getCon_cons (class_Value.ok K) (getCon_cons (label_Good.ok K) (fun _ _ => getCon_nil)))), (fun _ _ => getExt_nil), (fun _ _ => getBody_nil)⟩ draw bok15 (statprint_isLabels.eq K)
theorem statprint_isLabels.ok (K : Nat) : ConOK Tryz.prog 15 (statprint_isLabels.con K) := con_ok bok15 (statprint_isLabels.fok K)

noncomputable def sum_shared.f (K : Nat) (a0 : Int) (b1 : Int) : Option Int :=
  ((loopN K (fun (s_ : Int × Int) =>
    match s_ with
    | (a444, b445) =>
      bif decide (b445 > 0) then
        bif b445 != 0 then
          some (.inl (b445, Int.tmod a444 b445))
        else none
      else some (.inr a444)) (a0, b1) : Option Int)).bind fun a446 =>
  some a446
def sum_shared.sig : Sig := ⟨[(.c (.int .u64)), (.c (.int .u64))], [(.c (.int .u64))]⟩
noncomputable def sum_shared.con (K : Nat) : Con := (mkCon sum_shared.sig (fun x => sum_shared.f K x.1 x.2))
noncomputable def sum_shared.ht : HT := .seq .nil (.seq (.block (.loop ⟨5, [0, 1], [], ⟨[(0, .c (.v (.int .u64))), (1, .c (.v (.int .u64)))], []⟩, [(.exit 0, ⟨[(0, .c (.v (.int .u64)))], []⟩)]⟩ .nil)) .nil)
noncomputable def sum_shared.cx (K : Nat) : Cx := ⟨tt, [], [], K, inlOf tt [] [] K (getBody []) 0⟩
theorem sum_shared.eq (K : Nat) (x : PL sum_shared.sig.ps) : evalF (sum_shared.cx K) sum_shared.sig (bodyOf Tryz.f61) sum_shared.ht x = sum_shared.f K x.1 x.2 := by kernel_rfl
theorem sum_shared.fok (K : Nat) : FOK Tryz.prog sum_shared.sig (fun x => sum_shared.f K x.1 x.2) 61 := fok_of_eval (tt := tt) (cons := []) (exts := []) (bodies := (getBody [])) (K := K) (d := 0) ⟨ttok, (fun _ _ => getCon_nil), (fun _ _ => getExt_nil), (fun _ _ => getBody_nil)⟩ draw bok61 (sum_shared.eq K)
theorem sum_shared.ok (K : Nat) : ConOK Tryz.prog 61 (sum_shared.con K) := con_ok bok61 (sum_shared.fok K)

noncomputable def sum_without.f (K : Nat) (n0 : Int) (by1 : Int) : Option (Int × Int) :=
  ((loopN K (fun (s_ : Int × Int) =>
    match s_ with
    | (n449, k450) =>
      bif by1 != 0 then
        bif (Int.tmod n449 by1) == 0 then
          bif by1 != 0 then
            some (.inl (IntKind.u64.wrap (Int.tdiv n449 by1), IntKind.i64.wrap (k450 + 1)))
          else none
        else some (.inr (n449, k450))
      else none) (n0, 0) : Option (Int × Int))).bind fun (n451, k452) =>
  some (n451, k452)
def sum_without.sig : Sig := ⟨[(.c (.int .u64)), (.c (.int .u64))], [(.c (.int .u64)), (.c (.int .i64))]⟩
noncomputable def sum_without.con (K : Nat) : Con := (mkCon sum_without.sig (fun x => sum_without.f K x.1 x.2))
noncomputable def sum_without.ht : HT := .seq .nil (.seq .nil (.seq (.block (.loop ⟨6, [0], [], ⟨[(0, .c (.v (.int .u64))), (6, .c (.v (.int .i64)))], []⟩, [(.exit 0, ⟨[(0, .c (.v (.int .u64))), (6, .c (.v (.int .i64)))], []⟩)]⟩ .nil)) .nil))
noncomputable def sum_without.cx (K : Nat) : Cx := ⟨tt, [], [], K, inlOf tt [] [] K (getBody []) 0⟩
theorem sum_without.eq (K : Nat) (x : PL sum_without.sig.ps) : evalF (sum_without.cx K) sum_without.sig (bodyOf Tryz.f62) sum_without.ht x = sum_without.f K x.1 x.2 := by kernel_rfl
theorem sum_without.fok (K : Nat) : FOK Tryz.prog sum_without.sig (fun x => sum_without.f K x.1 x.2) 62 := fok_of_eval (tt := tt) (cons := []) (exts := []) (bodies := (getBody [])) (K := K) (d := 0) ⟨ttok, (fun _ _ => getCon_nil), (fun _ _ => getExt_nil), (fun _ _ => getBody_nil)⟩ draw bok62 (sum_without.eq K)
theorem sum_without.ok (K : Nat) : ConOK Tryz.prog 62 (sum_without.con K) := con_ok bok62 (sum_without.fok K)

noncomputable def bits_Div64.f (K : Nat) (t0 : Int) (o1 : Int) (A2 : Int) : Option (Int × Int) :=
  bif A2 == 0 then none
  else
  bif decide (A2 ≤ t0) then none
  else
  bif t0 == 0 then
    bif A2 != 0 then
      bif A2 != 0 then
        some (IntKind.u64.wrap (Int.tdiv o1 A2), Int.tmod o1 A2)
      else none
    else none
  else none
def bits_Div64.sig : Sig := ⟨[(.c (.int .u64)), (.c (.int .u64)), (.c (.int .u64))], [(.c (.int .u64)), (.c (.int .u64))]⟩
noncomputable def bits_Div64.con (K : Nat) : Con := (mkCon bits_Div64.sig (fun x => bits_Div64.f K x.1 x.2.1 x.2.2))
noncomputable def bits_Div64.ht : HT := .nil
noncomputable def bits_Div64.cx (K : Nat) : Cx := ⟨tt, [], [], K, inlOf tt [] [] K (getBody []) 0⟩
theorem bits_Div64.eq (K : Nat) (x : PL bits_Div64.sig.ps) : evalF (bits_Div64.cx K) bits_Div64.sig (bodyOf Tryz.f109) bits_Div64.ht x = bits_Div64.f K x.1 x.2.1 x.2.2 := by kernel_rfl
theorem bits_Div64.fok (K : Nat) : FOK Tryz.prog bits_Div64.sig (fun x => bits_Div64.f K x.1 x.2.1 x.2.2) 109 := fok_of_eval (tt := tt) (cons := []) (exts := []) (bodies := (getBody [])) (K := K) (d := 0) ⟨ttok, (fun _ _ => getCon_nil), (fun _ _ => getExt_nil), (fun _ _ => getBody_nil)⟩ draw bok109 (bits_Div64.eq K)
theorem bits_Div64.ok (K : Nat) : ConOK Tryz.prog 109 (bits_Div64.con K) := con_ok bok109 (bits_Div64.fok K)

noncomputable def sum_wide_tenth.f (K : Nat) (w0 : Int × Int × Int × Int) : Option ((Int × Int × Int × Int) × Int) :=
  ((loopN K (fun (s_ : Int × Int × List Int) =>
    match s_ with
    | (rest467, i468, b0_469) =>
      bif decide (i468 ≥ 0) then
        bif idx i468 4 then
          bif decide (i468.toNat < b0_469.length) then
            (bits_Div64.f K rest467 (b0_469.getD i468.toNat (0 : Int)) 10).bind fun (r470, r471) =>
            bif idx i468 4 then
              bif decide (i468.toNat < b0_469.length) then
                some (.inl (r471, IntKind.i64.wrap (i468 - 1), (b0_469.set i468.toNat r470)))
              else none
            else none
          else none
        else none
      else some (.inr (rest467, b0_469))) (0, 3, ([w0.1, w0.2.1, w0.2.2.1, w0.2.2.2] : List Int)) : Option (Int × List Int))).bind fun (rest472, b0_473) =>
  some (((b0_473.getD 0 (0 : Int)), (b0_473.getD 1 (0 : Int)), (b0_473.getD 2 (0 : Int)), (b0_473.getD 3 (0 : Int))), rest472)
def sum_wide_tenth.sig : Sig := ⟨[(.agg (.pair (.int .u64) (.pair (.int .u64) (.pair (.int .u64) (.int .u64)))))], [(.agg (.pair (.int .u64) (.pair (.int .u64) (.pair (.int .u64) (.int .u64))))), (.c (.int .u64))]⟩
noncomputable def sum_wide_tenth.con (K : Nat) : Con := (mkCon sum_wide_tenth.sig (fun x => sum_wide_tenth.f K x))
noncomputable def sum_wide_tenth.ht : HT := .seq .nil (.seq .nil (.seq (.seq .nil (.block (.loop ⟨4, [], [0], ⟨[(4, .c (.v (.int .u64))), (5, .c (.v (.int .i64)))], [(0, .arr 108 (.int .u64))]⟩, [(.exit 0, ⟨[(4, .c (.v (.int .u64)))], [(0, .arr 108 (.int .u64))]⟩)]⟩ .nil))) .nil))
noncomputable def sum_wide_tenth.cx (K : Nat) : Cx := ⟨tt, [(109, bits_Div64.con K)], [], K, inlOf tt [(109, bits_Div64.con K)] [] K (getBody []) 0⟩
theorem sum_wide_tenth.eq (K : Nat) (x : PL sum_wide_tenth.sig.ps) : evalF (sum_wide_tenth.cx K) sum_wide_tenth.sig (bodyOf Tryz.f89) sum_wide_tenth.ht x = sum_wide_tenth.f K x := by kernel_rfl
theorem sum_wide_tenth.fok (K : Nat) : FOK Tryz.prog sum_wide_tenth.sig (fun x => sum_wide_tenth.f K x) 89 := fok_of_eval (tt := tt) (cons := [(109, bits_Div64.con K)]) (exts := []) (bodies := (getBody [])) (K := K) (d := 0) ⟨ttok, (getCon_cons (bits_Div64.ok K) (fun _ _ => getCon_nil)), (fun _ _ => getExt_nil), (fun _ _ => getBody_nil)⟩ draw bok89 (sum_wide_tenth.eq K)
theorem sum_wide_tenth.ok (K : Nat) : ConOK Tryz.prog 89 (sum_wide_tenth.con K) := con_ok bok89 (sum_wide_tenth.fok K)

noncomputable def sum_number_dec.f (K : Nat) (n0 : Bool × Int × Int × Int × Int × Int) : Option ((Int × Int) × Bool) :=
  (sum_of.f K 0).bind fun r474 =>
  bif (n0.2.1 == r474.1) && ((n0.2.2.1 == r474.2.1) && ((n0.2.2.2.1 == r474.2.2.1) && ((n0.2.2.2.2.1 == r474.2.2.2) && true))) then some (((0 : Int), (0 : Int)), true)
  else
  ((loopN K (fun (s_ : Bool × Int × Int × Int × Int × Int) =>
    match s_ with
    | (b0_487, b0_488, b0_489, b0_490, b0_491, b0_492) =>
      bif decide (b0_492 > 0) then
        (sum_wide_tenth.f K (b0_488, b0_489, b0_490, b0_491)).bind fun (r493, r494) =>
        bif decide (r494 > 0) then
          some (.inr (b0_487, b0_488, b0_489, b0_490, b0_491, b0_492))
        else some (.inl (b0_487, r493.1, r493.2.1, r493.2.2.1, r493.2.2.2, IntKind.i64.wrap (b0_492 - 1)))
      else some (.inr (b0_487, b0_488, b0_489, b0_490, b0_491, b0_492))) (n0.1, n0.2.1, n0.2.2.1, n0.2.2.2.1, n0.2.2.2.2.1, n0.2.2.2.2.2) : Option (Bool × Int × Int × Int × Int × Int))).bind fun (b0_495, b0_496, b0_497, b0_498, b0_499, b0_500) =>
  (((
      bif decide (b0_500 > 18) then some true
      else
      (sum_of.f K 9223372036854775807).bind fun r501 =>
      (sum_wide_compare.f K (b0_496, b0_497, b0_498, b0_499) r501).bind fun r502 =>
      some (decide (r502 > 0))) : Option Bool)).bind fun t503 =>
  bif t503 then some (((0 : Int), (0 : Int)), false)
  else
  bif b0_495 then
    some ((IntKind.i64.wrap (0 - IntKind.i64.wrap (b0_496)), b0_500), true)
  else some ((IntKind.i64.wrap (b0_496), b0_500), true)
def sum_number_dec.sig : Sig := ⟨[(.agg (.pair .bool (.pair (.int .u64) (.pair (.int .u64) (.pair (.int .u64) (.pair (.int .u64) (.int .i64)))))))], [(.agg (.pair (.int .i64) (.int .i64))), (.c .bool)]⟩
noncomputable def sum_number_dec.con (K : Nat) : Con := (mkCon sum_number_dec.sig (fun x => sum_number_dec.f K x))
noncomputable def sum_number_dec.ht : HT := .seq .nil (.seq .nil (.seq (.block (.loop ⟨4, [], [0], ⟨[], [(0, .cells 112 [.v .bool, .v (.int .u64), .v (.int .u64), .v (.int .u64), .v (.int .u64), .v (.int .i64)])]⟩, [(.exit 0, ⟨[], [(0, .cells 112 [.v .bool, .v (.int .u64), .v (.int .u64), .v (.int .u64), .v (.int .u64), .v (.int .i64)])]⟩)]⟩ .nil)) (.seq (.join ⟨4, [], [], ⟨[], []⟩, [(.normal, ⟨[(38, .c (.v .bool))], []⟩)]⟩ (.seq .nil .nil)) .nil)))
noncomputable def sum_number_dec.cx (K : Nat) : Cx := ⟨tt, [(63, sum_of.con K), (89, sum_wide_tenth.con K), (90, sum_wide_compare.con K)], [], K, inlOf tt [(63, sum_of.con K), (89, sum_wide_tenth.con K), (90, sum_wide_compare.con K)] [] K (getBody []) 0⟩
theorem sum_number_dec.eq (K : Nat) (x : PL sum_number_dec.sig.ps) : evalF (sum_number_dec.cx K) sum_number_dec.sig (bodyOf Tryz.f65) sum_number_dec.ht x = sum_number_dec.f K x := by kernel_rfl
theorem sum_number_dec.fok (K : Nat) : FOK Tryz.prog sum_number_dec.sig (fun x => sum_number_dec.f K x) 65 := fok_of_eval (tt := tt) (cons := [(63, sum_of.con K), (89, sum_wide_tenth.con K), (90, sum_wide_compare.con K)]) (exts := []) (bodies := (getBody [])) (K := K) (d := 0) ⟨ttok, (getCon_cons (sum_of.ok K) (getCon_cons (sum_wide_tenth.ok K) (getCon_cons (sum_wide_compare.ok K) (fun _ _ => getCon_nil)))), (fun _ _ => getExt_nil), (fun _ _ => getBody_nil)⟩ draw bok65 (sum_number_dec.eq K)
theorem sum_number_dec.ok (K : Nat) : ConOK Tryz.prog 65 (sum_number_dec.con K) := con_ok bok65 (sum_number_dec.fok K)

noncomputable def sum_Over.f (K : Nat) (a0 : Int × Int) (b1 : Int × Int) : Option ((Int × Int) × Bool) :=
  (((
      (dec_Good.f K a0).bind fun r505 =>
      bif !r505 then some true
      else
      (dec_Good.f K b1).bind fun r506 =>
      bif !r506 then
        some true
      else some (b1.1 == 0)) : Option Bool)).bind fun t507 =>
  bif t507 then some (((0 : Int), (0 : Int)), false)
  else
  (sum_abs.f K a0.1).bind fun r508 =>
  (sum_abs.f K b1.1).bind fun r509 =>
  (sum_shared.f K r508 r509).bind fun r510 =>
  bif r510 != 0 then
    bif r510 != 0 then
      (sum_without.f K (IntKind.u64.wrap (Int.tdiv r509 r510)) 2).bind fun (r511, r512) =>
      (sum_without.f K r511 5).bind fun (r513, r514) =>
      bif r513 != 1 then some (((0 : Int), (0 : Int)), false)
      else
      (sum_of.f K (IntKind.u64.wrap (Int.tdiv r508 r510))).bind fun r515 =>
      (sum_wide_power.f K r515 2 (IntKind.i64.wrap ((if (bif true then decide (r514 > r512) else decide (r514 < r512)) = true then r514 else r512) - r512))).bind fun r516 =>
      (sum_wide_power.f K r516 5 (IntKind.i64.wrap ((if (bif true then decide (r514 > r512) else decide (r514 < r512)) = true then r514 else r512) - r514))).bind fun r517 =>
      (((
          bif decide ((IntKind.i64.wrap ((if (bif true then decide (r514 > r512) else decide (r514 < r512)) = true then r514 else r512) + (IntKind.i64.wrap (a0.2 - b1.2)))) < 0) then
            (sum_wide_power.f K r517 10 (IntKind.i64.wrap (0 - IntKind.i64.wrap ((if (bif true then decide (r514 > r512) else decide (r514 < r512)) = true then r514 else r512) + (IntKind.i64.wrap (a0.2 - b1.2)))))).bind fun r520 =>
            some (0, ([r520.1, r520.2.1, r520.2.2.1, r520.2.2.2] : List Int))
          else some (IntKind.i64.wrap ((if (bif true then decide (r514 > r512) else decide (r514 < r512)) = true then r514 else r512) + (IntKind.i64.wrap (a0.2 - b1.2))), ([r517.1, r517.2.1, r517.2.2.1, r517.2.2.2] : List Int))) : Option (Int × List Int))).bind fun (s521, b3_522) =>
      (sum_number_dec.f K (!((decide (a0.1 < 0)) == (decide (b1.1 < 0))), (b3_522.getD 0 (0 : Int)), (b3_522.getD 1 (0 : Int)), (b3_522.getD 2 (0 : Int)), (b3_522.getD 3 (0 : Int)), s521)).bind fun (r523, r524) =>
      some (r523, r524)
    else none
  else none
def sum_Over.sig : Sig := ⟨[(.agg (.pair (.int .i64) (.int .i64))), (.agg (.pair (.int .i64) (.int .i64)))], [(.agg (.pair (.int .i64) (.int .i64))), (.c .bool)]⟩
noncomputable def sum_Over.con (K : Nat) : Con := (mkCon sum_Over.sig (fun x => sum_Over.f K x.1 x.2))
noncomputable def sum_Over.ht : HT := .seq .nil (.seq (.join ⟨6, [], [], ⟨[], []⟩, [(.normal, ⟨[(25, .c (.v .bool))], []⟩)]⟩ (.seq .nil .nil)) (.seq .nil (.seq .nil (.seq .nil (.seq .nil (.seq .nil (.seq .nil (.seq .nil (.seq .nil (.seq .nil (.join ⟨13, [11], [3], ⟨[], []⟩, [(.normal, ⟨[(11, .c (.v (.int .i64)))], [(3, .arr 108 (.int .u64))]⟩)]⟩ (.seq .nil .nil))))))))))))
noncomputable def sum_Over.cx (K : Nat) : Cx := ⟨tt, [(17, dec_Good.con K), (60, sum_abs.con K), (61, sum_shared.con K), (62, sum_without.con K), (63, sum_of.con K), (64, sum_wide_power.con K), (65, sum_number_dec.con K)], [], K, inlOf tt [(17, dec_Good.con K), (60, sum_abs.con K), (61, sum_shared.con K), (62, sum_without.con K), (63, sum_of.con K), (64, sum_wide_power.con K), (65, sum_number_dec.con K)] [] K (getBody []) 0⟩
theorem sum_Over.eq (K : Nat) (x : PL sum_Over.sig.ps) : evalF (sum_Over.cx K) sum_Over.sig (bodyOf Tryz.f34) sum_Over.ht x = sum_Over.f K x.1 x.2 := by kernel_rfl
theorem sum_Over.fok (K : Nat) : FOK Tryz.prog sum_Over.sig (fun x => sum_Over.f K x.1 x.2) 34 := fok_of_eval (tt := tt) (cons := [(17, dec_Good.con K), (60, sum_abs.con K), (61, sum_shared.con K), (62, sum_without.con K), (63, sum_of.con K), (64, sum_wide_power.con K), (65, sum_number_dec.con K)]) (exts := []) (bodies := (getBody [])) (K := K) (d := 0) ⟨ttok, (getCon_cons (dec_Good.ok K) (getCon_cons (sum_abs.ok K) (getCon_cons (sum_shared.ok K) (getCon_cons (sum_without.ok K) (getCon_cons (sum_of.ok K) (getCon_cons (sum_wide_power.ok K) (getCon_cons (sum_number_dec.ok K) (fun _ _ => getCon_nil)))))))), (fun _ _ => getExt_nil), (fun _ _ => getBody_nil)⟩ draw bok34 (sum_Over.eq K)
theorem sum_Over.ok (K : Nat) : ConOK Tryz.prog 34 (sum_Over.con K) := con_ok bok34 (sum_Over.fok K)

end Go.Proofs.YtoobdenlgapcmaaGreat
