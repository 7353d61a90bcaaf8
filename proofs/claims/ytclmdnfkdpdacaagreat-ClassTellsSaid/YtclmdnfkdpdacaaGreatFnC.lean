/- What each function of the program comes to, and that it does, part 3. -/
import Derived.Test.YtclmdnfkdpdacaaGreatFnB
import Derived.KernelRfl
set_option linter.unusedVariables false
namespace Go.Proofs.YtclmdnfkdpdacaaGreat
open Go Go.Rf Go.Proofs Go.RowKit

noncomputable def class_hasAny.f (K : Nat) (s0 : List UInt8) (any1 : List UInt8) : Option Bool :=
  ((loopN K (fun (s_ : List UInt8 × Int) =>
    match s_ with
    | (b0_316, b0_317) =>
      bif decide (b0_317 < (b0_316.length : Int)) then
        ((loopN K (fun (s_ : List UInt8 × Int) =>
          match s_ with
          | (b1_322, b1_323) =>
            bif decide (b1_323 < (b1_322.length : Int)) then
              bif ((Utf8.decode ⟨b0_316.toArray⟩ b0_317.toNat).1 : Int) == ((Utf8.decode ⟨b1_322.toArray⟩ b1_323.toNat).1 : Int) then
                some (.inr (.inr (true, b1_322, b1_323 + ((Utf8.decode ⟨b1_322.toArray⟩ b1_323.toNat).2 : Int))))
              else some (.inl (b1_322, b1_323 + ((Utf8.decode ⟨b1_322.toArray⟩ b1_323.toNat).2 : Int)))
            else some (.inr (.inl (b1_322, b1_323)))) (any1, 0) : Option ((List UInt8 × Int) ⊕ (Bool × List UInt8 × Int)))).bind fun e_ =>
        match e_ with
        | .inl (b1_324, b1_325) =>
          some (.inl (b0_316, b0_317 + ((Utf8.decode ⟨b0_316.toArray⟩ b0_317.toNat).2 : Int)))
        | .inr (t326, b1_327, b1_328) =>
          some (.inr (.inr (t326, b0_316, b0_317 + ((Utf8.decode ⟨b0_316.toArray⟩ b0_317.toNat).2 : Int))))
      else some (.inr (.inl (b0_316, b0_317)))) (s0, 0) : Option ((List UInt8 × Int) ⊕ (Bool × List UInt8 × Int)))).bind fun e_ =>
  match e_ with
  | .inl (b0_329, b0_330) =>
    some false
  | .inr (t331, b0_332, b0_333) =>
    some t331
def class_hasAny.sig : Sig := ⟨[(.c .str), (.c .str)], [(.c .bool)]⟩
noncomputable def class_hasAny.con (K : Nat) : Con := (mkCon class_hasAny.sig (fun x => class_hasAny.f K x.1 x.2))
noncomputable def class_hasAny.ht : HT := .seq .nil (.seq (.seq .nil (.block (.loop ⟨11, [4, 6, 8], [0], ⟨[], [(0, .iter)]⟩, [(.exit 0, ⟨[], [(0, .iter)]⟩), (.ret, ⟨[(4, .c (.v .bool))], [(0, .iter)]⟩)]⟩ (.seq .nil (.seq .nil (.block (.seq .nil (.seq .nil (.block (.loop ⟨16, [4, 8], [1], ⟨[], [(1, .iter)]⟩, [(.exit 2, ⟨[], [(1, .iter)]⟩), (.ret, ⟨[(4, .c (.v .bool))], [(1, .iter)]⟩)]⟩ .nil)))))))))) .nil)
noncomputable def class_hasAny.cx (K : Nat) : Cx := ⟨tt, [], [], K, inlOf tt [] [] K (getBody []) 0⟩
theorem class_hasAny.eq (K : Nat) (x : PL class_hasAny.sig.ps) : evalF (class_hasAny.cx K) class_hasAny.sig (bodyOf Tryz.f46) class_hasAny.ht x = class_hasAny.f K x.1 x.2 := by kernel_rfl
theorem class_hasAny.fok (K : Nat) : FOK Tryz.prog class_hasAny.sig (fun x => class_hasAny.f K x.1 x.2) 46 := fok_of_eval (tt := tt) (cons := []) (exts := []) (bodies := (getBody [])) (K := K) (d := 0) ⟨ttok, (fun _ _ => getCon_nil), (fun _ _ => getExt_nil), (fun _ _ => getBody_nil)⟩ draw bok46 (class_hasAny.eq K)
theorem class_hasAny.ok (K : Nat) : ConOK Tryz.prog 46 (class_hasAny.con K) := con_ok bok46 (class_hasAny.fok K)

noncomputable def class_inks.f (K : Nat) (v0 : List UInt8) (but1 : List UInt8) : Option Bool :=
  ((loopN K (fun (s_ : Int) =>
    match s_ with
    | t336 =>
      bif decide (t336 < (v0.length : Int)) then
        bif idx t336 v0.length then
          bif decide (((v0.getD t336.toNat 0).toNat : Int) ≤ 32) then some (.inr (.inr false))
          else
          bif idx t336 v0.length then
            bif decide (((v0.getD t336.toNat 0).toNat : Int) > 126) then
              some (.inr (.inr false))
            else some (.inl (IntKind.i64.wrap (t336 + 1)))
          else none
        else none
      else some (.inr (.inl ()))) 0 : Option (Unit ⊕ Bool))).bind fun e_ =>
  match e_ with
  | .inl _ =>
    bif !(v0 == ([] : List UInt8)) then
      (class_hasAny.f K v0 but1).bind fun r337 =>
      some (!r337)
    else some false
  | .inr t338 =>
    some t338
def class_inks.sig : Sig := ⟨[(.c .str), (.c .str)], [(.c .bool)]⟩
noncomputable def class_inks.con (K : Nat) : Con := (mkCon class_inks.sig (fun x => class_inks.f K x.1 x.2))
noncomputable def class_inks.ht : HT := .seq .nil (.seq (.seq .nil (.block (.loop ⟨8, [4, 5], [], ⟨[(8, .c (.v (.int .i64)))], []⟩, [(.exit 0, ⟨[], []⟩), (.ret, ⟨[(4, .c (.v .bool))], []⟩)]⟩ .nil))) .nil)
noncomputable def class_inks.cx (K : Nat) : Cx := ⟨tt, [(46, class_hasAny.con K)], [], K, inlOf tt [(46, class_hasAny.con K)] [] K (getBody []) 0⟩
theorem class_inks.eq (K : Nat) (x : PL class_inks.sig.ps) : evalF (class_inks.cx K) class_inks.sig (bodyOf Tryz.f23) class_inks.ht x = class_inks.f K x.1 x.2 := by kernel_rfl
theorem class_inks.fok (K : Nat) : FOK Tryz.prog class_inks.sig (fun x => class_inks.f K x.1 x.2) 23 := fok_of_eval (tt := tt) (cons := [(46, class_hasAny.con K)]) (exts := []) (bodies := (getBody [])) (K := K) (d := 0) ⟨ttok, (getCon_cons (class_hasAny.ok K) (fun _ _ => getCon_nil)), (fun _ _ => getExt_nil), (fun _ _ => getBody_nil)⟩ draw bok23 (class_inks.eq K)
theorem class_inks.ok (K : Nat) : ConOK Tryz.prog 23 (class_inks.con K) := con_ok bok23 (class_inks.fok K)

noncomputable def class_Value.f (K : Nat) (proto0 : Int) (v1 : List UInt8) : Option Bool :=
  (label_Value.f K v1).bind fun r339 =>
  bif !r339 then some false
  else
  bif proto0 == 1 then some true
  else
  bif proto0 == 2 then
    ((loopN K (fun (s_ : Int) =>
      match s_ with
      | t342 =>
        bif decide (t342 < (v1.length : Int)) then
          bif idx t342 v1.length then
            bif decide (((v1.getD t342.toNat 0).toNat : Int) < 32) then some (.inr (.inr false))
            else
            bif idx t342 v1.length then
              bif ((v1.getD t342.toNat 0).toNat : Int) == 127 then
                some (.inr (.inr false))
              else some (.inl (IntKind.i64.wrap (t342 + 1)))
            else none
          else none
        else some (.inr (.inl ()))) 0 : Option (Unit ⊕ Bool))).bind fun e_ =>
    match e_ with
    | .inl _ =>
      bif !(v1 == ([] : List UInt8)) then
        bif ([92] : List UInt8) == v1 then some false
        else
        (stringslite_IndexByte.f K v1 ((([92] : List UInt8).getD 0 0).toNat : Int)).bind fun r343 =>
        some (!(decide (r343 ≥ 0)))
      else some false
    | .inr t344 =>
      some t344
  else
  bif proto0 == 3 then
    (class_inks.f K v1 ([59] : List UInt8)).bind fun r345 =>
    some r345
  else
  bif proto0 == 4 then
    (class_inks.f K v1 ([44, 124] : List UInt8)).bind fun r346 =>
    some r346
  else some false
def class_Value.sig : Sig := ⟨[(.c (.int .i64)), (.c .str)], [(.c .bool)]⟩
noncomputable def class_Value.con (K : Nat) : Con := (mkCon class_Value.sig (fun x => class_Value.f K x.1 x.2))
noncomputable def class_Value.ht : HT := .seq .nil (.seq .nil (.seq (.seq .nil (.block (.seq .nil (.cond .nil (.seq .nil (.cond (.seq (.seq .nil (.block (.loop ⟨16, [4, 5], [], ⟨[(16, .c (.v (.int .i64)))], []⟩, [(.exit 1, ⟨[], []⟩), (.ret, ⟨[(4, .c (.v .bool))], []⟩)]⟩ .nil))) .nil) .nil)))))) .nil))
noncomputable def class_Value.cx (K : Nat) : Cx := ⟨tt, [(21, label_Value.con K), (96, stringslite_IndexByte.con K), (23, class_inks.con K)], [], K, inlOf tt [(21, label_Value.con K), (96, stringslite_IndexByte.con K), (23, class_inks.con K)] [] K (getBody [(22, bodyOf Tryz.f22), (45, bodyOf Tryz.f45), (68, bodyOf Tryz.f68)]) 3⟩
theorem class_Value.eq (K : Nat) (x : PL class_Value.sig.ps) : evalF (class_Value.cx K) class_Value.sig (bodyOf Tryz.f13) class_Value.ht x = class_Value.f K x.1 x.2 := by kernel_rfl
theorem class_Value.fok (K : Nat) : FOK Tryz.prog class_Value.sig (fun x => class_Value.f K x.1 x.2) 13 := fok_of_eval (tt := tt) (cons := [(21, label_Value.con K), (96, stringslite_IndexByte.con K), (23, class_inks.con K)]) (exts := []) (bodies := (getBody [(22, bodyOf Tryz.f22), (45, bodyOf Tryz.f45), (68, bodyOf Tryz.f68)])) (K := K) (d := 3) ⟨ttok, (getCon_cons (label_Value.ok K) (getCon_cons (stringslite_IndexByte.ok K) (getCon_cons (class_inks.ok K) (fun _ _ => getCon_nil)))), (fun _ _ => getExt_nil), (getBody_cons bok22 (getBody_cons bok45 (getBody_cons bok68 (fun _ _ => getBody_nil))))⟩ draw bok13 (class_Value.eq K)
theorem class_Value.ok (K : Nat) : ConOK Tryz.prog 13 (class_Value.con K) := con_ok bok13 (class_Value.fok K)

noncomputable def stamp_unitOf.f (K : Nat) (n0 : Int) : Option ((Int × Int) × Bool) :=
  bif decide (n0 < 0) then some (((0 : Int), (0 : Int)), false)
  else
  bif decide (n0 ≥ 4) then some (((0 : Int), (0 : Int)), false)
  else
  bif idx n0 4 then
    bif decide (n0.toNat < 4) then
      some ((([(1000, 1), (1, 1), (1, 1000), (1, 1000000)] : List (Int × Int)).getD n0.toNat ((0 : Int), (0 : Int))), true)
    else none
  else none
def stamp_unitOf.sig : Sig := ⟨[(.c (.int .i64))], [(.agg (.pair (.int .i64) (.int .i64))), (.c .bool)]⟩
noncomputable def stamp_unitOf.con (K : Nat) : Con := (mkCon stamp_unitOf.sig (fun x => stamp_unitOf.f K x))
noncomputable def stamp_unitOf.ht : HT := .nil
noncomputable def stamp_unitOf.cx (K : Nat) : Cx := ⟨tt, [], [], K, inlOf tt [] [] K (getBody []) 0⟩
theorem stamp_unitOf.eq (K : Nat) (x : PL stamp_unitOf.sig.ps) : evalF (stamp_unitOf.cx K) stamp_unitOf.sig (bodyOf Tryz.f92) stamp_unitOf.ht x = stamp_unitOf.f K x := by kernel_rfl
theorem stamp_unitOf.fok (K : Nat) : FOK Tryz.prog stamp_unitOf.sig (fun x => stamp_unitOf.f K x) 92 := fok_of_eval (tt := tt) (cons := []) (exts := []) (bodies := (getBody [])) (K := K) (d := 0) ⟨ttok, (fun _ _ => getCon_nil), (fun _ _ => getExt_nil), (fun _ _ => getBody_nil)⟩ draw bok92 (stamp_unitOf.eq K)
theorem stamp_unitOf.ok (K : Nat) : ConOK Tryz.prog 92 (stamp_unitOf.con K) := con_ok bok92 (stamp_unitOf.fok K)

noncomputable def stamp_isTime.f (K : Nat) (ms0 : Int) : Option Bool :=
  bif decide (ms0 ≥ (-1125899906842624)) then
    some (decide (ms0 ≤ 1125899906842624))
  else some false
def stamp_isTime.sig : Sig := ⟨[(.c (.int .i64))], [(.c .bool)]⟩
noncomputable def stamp_isTime.con (K : Nat) : Con := (mkCon stamp_isTime.sig (fun x => stamp_isTime.f K x))
noncomputable def stamp_isTime.ht : HT := .nil
noncomputable def stamp_isTime.cx (K : Nat) : Cx := ⟨tt, [], [], K, inlOf tt [] [] K (getBody []) 0⟩
theorem stamp_isTime.eq (K : Nat) (x : PL stamp_isTime.sig.ps) : evalF (stamp_isTime.cx K) stamp_isTime.sig (bodyOf Tryz.f93) stamp_isTime.ht x = stamp_isTime.f K x := by kernel_rfl
theorem stamp_isTime.fok (K : Nat) : FOK Tryz.prog stamp_isTime.sig (fun x => stamp_isTime.f K x) 93 := fok_of_eval (tt := tt) (cons := []) (exts := []) (bodies := (getBody [])) (K := K) (d := 0) ⟨ttok, (fun _ _ => getCon_nil), (fun _ _ => getExt_nil), (fun _ _ => getBody_nil)⟩ draw bok93 (stamp_isTime.eq K)
theorem stamp_isTime.ok (K : Nat) : ConOK Tryz.prog 93 (stamp_isTime.con K) := con_ok bok93 (stamp_isTime.fok K)

noncomputable def stamp_Of.f (K : Nat) (ms0 : Int) (by1 : Int) : Option (Int × Bool) :=
  (stamp_unitOf.f K by1).bind fun (r347, r348) =>
  (((
      bif !r348 then some true
      else
      (stamp_isTime.f K ms0).bind fun r349 =>
      bif !r349 then some true
      else
      bif r347.1 != 0 then
        some ((Int.tmod ms0 r347.1) != 0)
      else none) : Option Bool)).bind fun t350 =>
  bif t350 then some (0, false)
  else
  bif r347.1 != 0 then
    bif r347.2 != 0 then
      bif decide ((IntKind.i64.wrap (Int.tdiv ms0 r347.1)) > (IntKind.i64.wrap (Int.tdiv 9223372036854775807 r347.2))) then some (0, false)
      else
      bif r347.2 != 0 then
        bif decide ((IntKind.i64.wrap (Int.tdiv ms0 r347.1)) < (IntKind.i64.wrap (Int.tdiv (-9223372036854775808) r347.2))) then
          some (0, false)
        else some (IntKind.i64.wrap ((IntKind.i64.wrap (Int.tdiv ms0 r347.1)) * r347.2), true)
      else none
    else none
  else none
def stamp_Of.sig : Sig := ⟨[(.c (.int .i64)), (.c (.int .i64))], [(.c (.int .i64)), (.c .bool)]⟩
noncomputable def stamp_Of.con (K : Nat) : Con := (mkCon stamp_Of.sig (fun x => stamp_Of.f K x.1 x.2))
noncomputable def stamp_Of.ht : HT := .seq .nil (.seq .nil (.seq (.join ⟨7, [], [], ⟨[], []⟩, [(.normal, ⟨[(27, .c (.v .bool))], []⟩)]⟩ (.seq .nil .nil)) .nil))
noncomputable def stamp_Of.cx (K : Nat) : Cx := ⟨tt, [(92, stamp_unitOf.con K), (93, stamp_isTime.con K)], [], K, inlOf tt [(92, stamp_unitOf.con K), (93, stamp_isTime.con K)] [] K (getBody []) 0⟩
theorem stamp_Of.eq (K : Nat) (x : PL stamp_Of.sig.ps) : evalF (stamp_Of.cx K) stamp_Of.sig (bodyOf Tryz.f63) stamp_Of.ht x = stamp_Of.f K x.1 x.2 := by kernel_rfl
theorem stamp_Of.fok (K : Nat) : FOK Tryz.prog stamp_Of.sig (fun x => stamp_Of.f K x.1 x.2) 63 := fok_of_eval (tt := tt) (cons := [(92, stamp_unitOf.con K), (93, stamp_isTime.con K)]) (exts := []) (bodies := (getBody [])) (K := K) (d := 0) ⟨ttok, (getCon_cons (stamp_unitOf.ok K) (getCon_cons (stamp_isTime.ok K) (fun _ _ => getCon_nil))), (fun _ _ => getExt_nil), (fun _ _ => getBody_nil)⟩ draw bok63 (stamp_Of.eq K)
theorem stamp_Of.ok (K : Nat) : ConOK Tryz.prog 63 (stamp_Of.con K) := con_ok bok63 (stamp_Of.fok K)

noncomputable def class_isPoint.f (K : Nat) (proto0 : Int) (p1 : List (List UInt8 × List UInt8) × Int × Bool × Int × Int × Int × Int × Bool × Int) : Option Bool :=
  ((loopN K (fun (s_ : Int) =>
    match s_ with
    | t356 =>
      bif decide (t356 < (p1.1.length : Int)) then
        bif idx t356 p1.1.length then
          (charset_Is.f K proto0 1 ((p1.1.getD t356.toNat (([] : List UInt8), ([] : List UInt8))).1)).bind fun r357 =>
          bif !r357 then some (.inr (.inr false))
          else
          (class_Value.f K proto0 ((p1.1.getD t356.toNat (([] : List UInt8), ([] : List UInt8))).2)).bind fun r358 =>
          bif !r358 then
            some (.inr (.inr false))
          else some (.inl (IntKind.i64.wrap (t356 + 1)))
        else none
      else some (.inr (.inl ()))) 0 : Option (Unit ⊕ Bool))).bind fun e_ =>
  match e_ with
  | .inl _ =>
    bif proto0 == 3 then
      (stamp_Of.f K p1.2.2.2.2.2.2.2.2 0).bind fun (r359, r360) =>
      bif p1.2.2.2.2.2.2.2.1 then
        some r360
      else some false
    else
    bif proto0 == 4 then
      bif !p1.2.2.2.2.2.2.2.1 then
        some (decide (p1.2.2.2.2.2.1 ≥ 0))
      else some false
    else some true
  | .inr t361 =>
    some t361
def class_isPoint.sig : Sig := ⟨[(.c (.int .i64)), (.agg (.pair (.sl (.pair .str .str)) (.pair (.int .i64) (.pair .bool (.pair (.int .i64) (.pair (.int .i64) (.pair (.int .i64) (.pair (.int .i64) (.pair .bool (.int .i64))))))))))], [(.c .bool)]⟩
noncomputable def class_isPoint.con (K : Nat) : Con := (mkCon class_isPoint.sig (fun x => class_isPoint.f K x.1 x.2))
noncomputable def class_isPoint.ht : HT := .seq .nil (.seq (.seq .nil (.block (.loop ⟨12, [4, 6], [], ⟨[(12, .c (.v (.int .i64)))], []⟩, [(.exit 0, ⟨[], []⟩), (.ret, ⟨[(4, .c (.v .bool))], []⟩)]⟩ .nil))) .nil)
noncomputable def class_isPoint.cx (K : Nat) : Cx := ⟨tt, [(36, charset_Is.con K), (13, class_Value.con K), (63, stamp_Of.con K)], [], K, inlOf tt [(36, charset_Is.con K), (13, class_Value.con K), (63, stamp_Of.con K)] [] K (getBody []) 0⟩
theorem class_isPoint.eq (K : Nat) (x : PL class_isPoint.sig.ps) : evalF (class_isPoint.cx K) class_isPoint.sig (bodyOf Tryz.f40) class_isPoint.ht x = class_isPoint.f K x.1 x.2 := by kernel_rfl
theorem class_isPoint.fok (K : Nat) : FOK Tryz.prog class_isPoint.sig (fun x => class_isPoint.f K x.1 x.2) 40 := fok_of_eval (tt := tt) (cons := [(36, charset_Is.con K), (13, class_Value.con K), (63, stamp_Of.con K)]) (exts := []) (bodies := (getBody [])) (K := K) (d := 0) ⟨ttok, (getCon_cons (charset_Is.ok K) (getCon_cons (class_Value.ok K) (getCon_cons (stamp_Of.ok K) (fun _ _ => getCon_nil)))), (fun _ _ => getExt_nil), (fun _ _ => getBody_nil)⟩ draw bok40 (class_isPoint.eq K)
theorem class_isPoint.ok (K : Nat) : ConOK Tryz.prog 40 (class_isPoint.con K) := con_ok bok40 (class_isPoint.fok K)

noncomputable def class_isFamily.f (K : Nat) (proto0 : Int) (f1 : List UInt8 × Int × List UInt8 × List UInt8 × List (List (List UInt8 × List UInt8) × Int × Bool × Int × Int × Int × Int × Bool × Int)) : Option Bool :=
  (((
      (class_Kinds.f K proto0).bind fun r364 =>
      (slices_Contains_int_int.f K r364 f1.2.1).bind fun r365 =>
      bif !r365 then some true
      else
      (charset_Is.f K proto0 0 f1.1).bind fun r366 =>
      some (!r366)) : Option Bool)).bind fun t367 =>
  bif t367 then some false
  else
  (((
      (((
          bif proto0 == 1 then
            (class_isUnit.f K (f1.1, f1.2.1, f1.2.2.1, f1.2.2.2.1)).bind fun r375 =>
            bif !r375 then some true
            else
            bif proto0 != 1 then
              bif !(f1.2.2.1 == ([] : List UInt8)) then some true
              else
              bif !(f1.2.2.2.1 == ([] : List UInt8)) then
                some true
              else some ((f1.2.2.2.2.length : Int) == 0)
            else some false
          else
          bif proto0 != 1 then
            bif !(f1.2.2.1 == ([] : List UInt8)) then some true
            else
            bif !(f1.2.2.2.1 == ([] : List UInt8)) then
              some true
            else some ((f1.2.2.2.2.length : Int) == 0)
          else some false) : Option Bool)).bind fun t376 =>
      bif t376 then
        some (.inr false)
      else some (.inl ())) : Option (Unit ⊕ Bool))).bind fun e_ =>
  match e_ with
  | .inl _ =>
    ((loopN K (fun (s_ : Int) =>
      match s_ with
      | t381 =>
        bif decide (t381 < (f1.2.2.2.2.length : Int)) then
          bif idx t381 f1.2.2.2.2.length then
            (class_isPoint.f K proto0 ((f1.2.2.2.2.getD t381.toNat (([] : List (List UInt8 × List UInt8)), ((0 : Int), (false, ((0 : Int), ((0 : Int), ((0 : Int), ((0 : Int), (false, (0 : Int)))))))))).1, ((f1.2.2.2.2.getD t381.toNat (([] : List (List UInt8 × List UInt8)), ((0 : Int), (false, ((0 : Int), ((0 : Int), ((0 : Int), ((0 : Int), (false, (0 : Int)))))))))).2).1, (((f1.2.2.2.2.getD t381.toNat (([] : List (List UInt8 × List UInt8)), ((0 : Int), (false, ((0 : Int), ((0 : Int), ((0 : Int), ((0 : Int), (false, (0 : Int)))))))))).2).2).1, ((((f1.2.2.2.2.getD t381.toNat (([] : List (List UInt8 × List UInt8)), ((0 : Int), (false, ((0 : Int), ((0 : Int), ((0 : Int), ((0 : Int), (false, (0 : Int)))))))))).2).2).2).1, (((((f1.2.2.2.2.getD t381.toNat (([] : List (List UInt8 × List UInt8)), ((0 : Int), (false, ((0 : Int), ((0 : Int), ((0 : Int), ((0 : Int), (false, (0 : Int)))))))))).2).2).2).2).1, ((((((f1.2.2.2.2.getD t381.toNat (([] : List (List UInt8 × List UInt8)), ((0 : Int), (false, ((0 : Int), ((0 : Int), ((0 : Int), ((0 : Int), (false, (0 : Int)))))))))).2).2).2).2).2).1, (((((((f1.2.2.2.2.getD t381.toNat (([] : List (List UInt8 × List UInt8)), ((0 : Int), (false, ((0 : Int), ((0 : Int), ((0 : Int), ((0 : Int), (false, (0 : Int)))))))))).2).2).2).2).2).2).1, ((((((((f1.2.2.2.2.getD t381.toNat (([] : List (List UInt8 × List UInt8)), ((0 : Int), (false, ((0 : Int), ((0 : Int), ((0 : Int), ((0 : Int), (false, (0 : Int)))))))))).2).2).2).2).2).2).2).1, ((((((((f1.2.2.2.2.getD t381.toNat (([] : List (List UInt8 × List UInt8)), ((0 : Int), (false, ((0 : Int), ((0 : Int), ((0 : Int), ((0 : Int), (false, (0 : Int)))))))))).2).2).2).2).2).2).2).2)).bind fun r382 =>
            bif !r382 then
              some (.inr (.inr t381))
            else some (.inl (IntKind.i64.wrap (t381 + 1)))
          else none
        else some (.inr (.inl ()))) 0 : Option (Unit ⊕ Int))).bind fun e_ =>
    match e_ with
    | .inl _ =>
      some true
    | .inr t383 =>
      some (!(decide (t383 ≥ 0)))
  | .inr t384 =>
    some t384
def class_isFamily.sig : Sig := ⟨[(.c (.int .i64)), (.agg (.pair .str (.pair (.int .i64) (.pair .str (.pair .str (.sl (.pair (.sl (.pair .str .str)) (.pair (.int .i64) (.pair .bool (.pair (.int .i64) (.pair (.int .i64) (.pair (.int .i64) (.pair (.int .i64) (.pair .bool (.int .i64)))))))))))))))], [(.c .bool)]⟩
noncomputable def class_isFamily.con (K : Nat) : Con := (mkCon class_isFamily.sig (fun x => class_isFamily.f K x.1 x.2))
noncomputable def class_isFamily.ht : HT := .seq .nil (.seq (.join ⟨5, [], [], ⟨[], []⟩, [(.normal, ⟨[(19, .c (.v .bool))], []⟩)]⟩ (.seq .nil .nil)) (.join ⟨4, [], [], ⟨[], []⟩, [(.normal, ⟨[], []⟩), (.ret, ⟨[(4, .c (.v .bool))], []⟩)]⟩ (.seq (.join ⟨5, [], [], ⟨[], []⟩, [(.normal, ⟨[(49, .c (.v .bool))], []⟩)]⟩ (.seq .nil .nil)) (.seq (.calls [(3, .seq .nil (.seq (.calls [(2, .seq .nil (.seq (.seq .nil (.block (.loop ⟨8, [4, 5], [], ⟨[(8, .c (.v (.int .i64)))], []⟩, [(.exit 0, ⟨[], []⟩), (.ret, ⟨[(4, .c (.v (.int .i64)))], []⟩)]⟩ .nil))) .nil))]) .nil))]) .nil))))
noncomputable def class_isFamily.cx (K : Nat) : Cx := ⟨tt, [(9, class_Kinds.con K), (35, slices_Contains_int_int.con K), (36, charset_Is.con K), (37, class_isUnit.con K), (40, class_isPoint.con K)], [], K, inlOf tt [(9, class_Kinds.con K), (35, slices_Contains_int_int.con K), (36, charset_Is.con K), (37, class_isUnit.con K), (40, class_isPoint.con K)] [] K (getBody [(38, bodyOf Tryz.f38), (39, bodyOf Tryz.f39), (62, bodyOf Tryz.f62)]) 3⟩
theorem class_isFamily.eq (K : Nat) (x : PL class_isFamily.sig.ps) : evalF (class_isFamily.cx K) class_isFamily.sig (bodyOf Tryz.f18) class_isFamily.ht x = class_isFamily.f K x.1 x.2 := by kernel_rfl
theorem class_isFamily.fok (K : Nat) : FOK Tryz.prog class_isFamily.sig (fun x => class_isFamily.f K x.1 x.2) 18 := fok_of_eval (tt := tt) (cons := [(9, class_Kinds.con K), (35, slices_Contains_int_int.con K), (36, charset_Is.con K), (37, class_isUnit.con K), (40, class_isPoint.con K)]) (exts := []) (bodies := (getBody [(38, bodyOf Tryz.f38), (39, bodyOf Tryz.f39), (62, bodyOf Tryz.f62)])) (K := K) (d := 3) ⟨ttok, (getCon_cons (class_Kinds.ok K) (getCon_cons (slices_Contains_int_int.ok K) (getCon_cons (charset_Is.ok K) (getCon_cons (class_isUnit.ok K) (getCon_cons (class_isPoint.ok K) (fun _ _ => getCon_nil)))))), (fun _ _ => getExt_nil), (getBody_cons bok38 (getBody_cons bok39 (getBody_cons bok62 (fun _ _ => getBody_nil))))⟩ draw bok18 (class_isFamily.eq K)
theorem class_isFamily.ok (K : Nat) : ConOK Tryz.prog 18 (class_isFamily.con K) := con_ok bok18 (class_isFamily.fok K)

noncomputable def class_Why.f (K : Nat) (proto0 : Int) (b1 : List UInt8 × List (List UInt8 × Int × List UInt8 × List UInt8 × List (List (List UInt8 × List UInt8) × Int × Bool × Int × Int × Int × Int × Bool × Int))) : Option (List UInt8 × Bool) :=
  (((
      bif decide (proto0 < 1) then some true
      else
      bif decide (proto0 > 4) then some true
      else
      (batch_Check.f K b1).bind fun r385 =>
      some (r385 != 0)) : Option Bool)).bind fun t386 =>
  bif t386 then some (([] : List UInt8), false)
  else
  ((loopN K (fun (s_ : Int) =>
    match s_ with
    | t391 =>
      bif decide (t391 < (b1.2.length : Int)) then
        bif idx t391 b1.2.length then
          (class_isFamily.f K proto0 ((b1.2.getD t391.toNat (([] : List UInt8), ((0 : Int), (([] : List UInt8), (([] : List UInt8), ([] : List (List (List UInt8 × List UInt8) × Int × Bool × Int × Int × Int × Int × Bool × Int))))))).1, ((b1.2.getD t391.toNat (([] : List UInt8), ((0 : Int), (([] : List UInt8), (([] : List UInt8), ([] : List (List (List UInt8 × List UInt8) × Int × Bool × Int × Int × Int × Int × Bool × Int))))))).2).1, (((b1.2.getD t391.toNat (([] : List UInt8), ((0 : Int), (([] : List UInt8), (([] : List UInt8), ([] : List (List (List UInt8 × List UInt8) × Int × Bool × Int × Int × Int × Int × Bool × Int))))))).2).2).1, ((((b1.2.getD t391.toNat (([] : List UInt8), ((0 : Int), (([] : List UInt8), (([] : List UInt8), ([] : List (List (List UInt8 × List UInt8) × Int × Bool × Int × Int × Int × Int × Bool × Int))))))).2).2).2).1, ((((b1.2.getD t391.toNat (([] : List UInt8), ((0 : Int), (([] : List UInt8), (([] : List UInt8), ([] : List (List (List UInt8 × List UInt8) × Int × Bool × Int × Int × Int × Int × Bool × Int))))))).2).2).2).2)).bind fun r392 =>
          bif !r392 then
            some (.inr (.inr ((b1.2.getD t391.toNat (([] : List UInt8), ((0 : Int), (([] : List UInt8), (([] : List UInt8), ([] : List (List (List UInt8 × List UInt8) × Int × Bool × Int × Int × Int × Int × Bool × Int))))))).1, false)))
          else some (.inl (IntKind.i64.wrap (t391 + 1)))
        else none
      else some (.inr (.inl ()))) 0 : Option (Unit ⊕ (List UInt8 × Bool)))).bind fun e_ =>
  match e_ with
  | .inl _ =>
    some (([] : List UInt8), true)
  | .inr (name393, ok394) =>
    some (name393, ok394)
def class_Why.sig : Sig := ⟨[(.c (.int .i64)), (.agg (.pair .str (.sl (.pair .str (.pair (.int .i64) (.pair .str (.pair .str (.sl (.pair (.sl (.pair .str .str)) (.pair (.int .i64) (.pair .bool (.pair (.int .i64) (.pair (.int .i64) (.pair (.int .i64) (.pair (.int .i64) (.pair .bool (.int .i64)))))))))))))))))], [(.c .str), (.c .bool)]⟩
noncomputable def class_Why.con (K : Nat) : Con := (mkCon class_Why.sig (fun x => class_Why.f K x.1 x.2))
noncomputable def class_Why.ht : HT := .seq .nil (.seq (.join ⟨6, [], [], ⟨[], []⟩, [(.normal, ⟨[(18, .c (.v .bool))], []⟩)]⟩ (.seq .nil .nil)) (.seq (.seq .nil (.block (.loop ⟨22, [4, 5, 7], [], ⟨[(22, .c (.v (.int .i64)))], []⟩, [(.exit 0, ⟨[], []⟩), (.ret, ⟨[(4, .c (.v .str)), (5, .c (.v .bool))], []⟩)]⟩ .nil))) .nil))
noncomputable def class_Why.cx (K : Nat) : Cx := ⟨tt, [(17, batch_Check.con K), (18, class_isFamily.con K)], [], K, inlOf tt [(17, batch_Check.con K), (18, class_isFamily.con K)] [] K (getBody []) 0⟩
theorem class_Why.eq (K : Nat) (x : PL class_Why.sig.ps) : evalF (class_Why.cx K) class_Why.sig (bodyOf Tryz.f7) class_Why.ht x = class_Why.f K x.1 x.2 := by kernel_rfl
theorem class_Why.fok (K : Nat) : FOK Tryz.prog class_Why.sig (fun x => class_Why.f K x.1 x.2) 7 := fok_of_eval (tt := tt) (cons := [(17, batch_Check.con K), (18, class_isFamily.con K)]) (exts := []) (bodies := (getBody [])) (K := K) (d := 0) ⟨ttok, (getCon_cons (batch_Check.ok K) (getCon_cons (class_isFamily.ok K) (fun _ _ => getCon_nil))), (fun _ _ => getExt_nil), (fun _ _ => getBody_nil)⟩ draw bok7 (class_Why.eq K)
theorem class_Why.ok (K : Nat) : ConOK Tryz.prog 7 (class_Why.con K) := con_ok bok7 (class_Why.fok K)

noncomputable def class_Is.f (K : Nat) (proto0 : Int) (b1 : List UInt8 × List (List UInt8 × Int × List UInt8 × List UInt8 × List (List (List UInt8 × List UInt8) × Int × Bool × Int × Int × Int × Int × Bool × Int))) : Option Bool :=
  (class_Why.f K proto0 b1).bind fun (r395, r396) =>
  some r396
def class_Is.sig : Sig := ⟨[(.c (.int .i64)), (.agg (.pair .str (.sl (.pair .str (.pair (.int .i64) (.pair .str (.pair .str (.sl (.pair (.sl (.pair .str .str)) (.pair (.int .i64) (.pair .bool (.pair (.int .i64) (.pair (.int .i64) (.pair (.int .i64) (.pair (.int .i64) (.pair .bool (.int .i64)))))))))))))))))], [(.c .bool)]⟩
noncomputable def class_Is.con (K : Nat) : Con := (mkCon class_Is.sig (fun x => class_Is.f K x.1 x.2))
noncomputable def class_Is.ht : HT := .nil
noncomputable def class_Is.cx (K : Nat) : Cx := ⟨tt, [(7, class_Why.con K)], [], K, inlOf tt [(7, class_Why.con K)] [] K (getBody []) 0⟩
theorem class_Is.eq (K : Nat) (x : PL class_Is.sig.ps) : evalF (class_Is.cx K) class_Is.sig (bodyOf Tryz.f11) class_Is.ht x = class_Is.f K x.1 x.2 := by kernel_rfl
theorem class_Is.fok (K : Nat) : FOK Tryz.prog class_Is.sig (fun x => class_Is.f K x.1 x.2) 11 := fok_of_eval (tt := tt) (cons := [(7, class_Why.con K)]) (exts := []) (bodies := (getBody [])) (K := K) (d := 0) ⟨ttok, (getCon_cons (class_Why.ok K) (fun _ _ => getCon_nil)), (fun _ _ => getExt_nil), (fun _ _ => getBody_nil)⟩ draw bok11 (class_Is.eq K)
theorem class_Is.ok (K : Nat) : ConOK Tryz.prog 11 (class_Is.con K) := con_ok bok11 (class_Is.fok K)

noncomputable def polyglotlaw16_one.f (K : Nat) (kind0 : Int) (p1 : List (List UInt8 × List UInt8) × Int × Bool × Int × Int × Int × Int × Bool × Int) : Option (List UInt8 × List (List UInt8 × Int × List UInt8 × List UInt8 × List (List (List UInt8 × List UInt8) × Int × Bool × Int × Int × Int × Int × Bool × Int))) :=
  some (([116] : List UInt8), ([(([97] : List UInt8), kind0, ([] : List UInt8), ([] : List UInt8), ([p1] : List (List (List UInt8 × List UInt8) × Int × Bool × Int × Int × Int × Int × Bool × Int)))] : List (List UInt8 × Int × List UInt8 × List UInt8 × List (List (List UInt8 × List UInt8) × Int × Bool × Int × Int × Int × Int × Bool × Int))))
def polyglotlaw16_one.sig : Sig := ⟨[(.c (.int .i64)), (.agg (.pair (.sl (.pair .str .str)) (.pair (.int .i64) (.pair .bool (.pair (.int .i64) (.pair (.int .i64) (.pair (.int .i64) (.pair (.int .i64) (.pair .bool (.int .i64))))))))))], [(.agg (.pair .str (.sl (.pair .str (.pair (.int .i64) (.pair .str (.pair .str (.sl (.pair (.sl (.pair .str .str)) (.pair (.int .i64) (.pair .bool (.pair (.int .i64) (.pair (.int .i64) (.pair (.int .i64) (.pair (.int .i64) (.pair .bool (.int .i64)))))))))))))))))]⟩
noncomputable def polyglotlaw16_one.con (K : Nat) : Con := (mkCon polyglotlaw16_one.sig (fun x => polyglotlaw16_one.f K x.1 x.2))
noncomputable def polyglotlaw16_one.ht : HT := .nil
noncomputable def polyglotlaw16_one.cx (K : Nat) : Cx := ⟨tt, [], [], K, inlOf tt [] [] K (getBody []) 0⟩
theorem polyglotlaw16_one.eq (K : Nat) (x : PL polyglotlaw16_one.sig.ps) : evalF (polyglotlaw16_one.cx K) polyglotlaw16_one.sig (bodyOf Tryz.f16) polyglotlaw16_one.ht x = polyglotlaw16_one.f K x.1 x.2 := by kernel_rfl
theorem polyglotlaw16_one.fok (K : Nat) : FOK Tryz.prog polyglotlaw16_one.sig (fun x => polyglotlaw16_one.f K x.1 x.2) 16 := fok_of_eval (tt := tt) (cons := []) (exts := []) (bodies := (getBody [])) (K := K) (d := 0) ⟨ttok, (fun _ _ => getCon_nil), (fun _ _ => getExt_nil), (fun _ _ => getBody_nil)⟩ draw bok16 (polyglotlaw16_one.eq K)
theorem polyglotlaw16_one.ok (K : Nat) : ConOK Tryz.prog 16 (polyglotlaw16_one.con K) := con_ok bok16 (polyglotlaw16_one.fok K)

noncomputable def polyglotlaw16_known.f (K : Nat) : Option Bool :=
  (polyglotlaw16_one.f K 3 (([] : List (List UInt8 × List UInt8)), 3, false, (0 : Int), (0 : Int), (0 : Int), (0 : Int), false, (0 : Int))).bind fun r397 =>
  (class_Why.f K 2 r397).bind fun (r398, r399) =>
  (class_Why.f K 9 r397).bind fun (r400, r401) =>
  (class_Is.f K 1 r397).bind fun r402 =>
  bif r402 then
    (class_Is.f K 2 r397).bind fun r403 =>
    bif !r403 then
      bif r398 == ([97] : List UInt8) then
        bif !r399 then
          bif r400 == ([] : List UInt8) then
            bif !r401 then
              (polyglotlaw16_one.f K 1 (([] : List (List UInt8 × List UInt8)), (0 : Int), false, (0 : Int), (0 : Int), (0 : Int), (0 : Int), false, (0 : Int))).bind fun r404 =>
              (class_Is.f K 2 r404).bind fun r405 =>
              bif r405 then
                (polyglotlaw16_one.f K 0 (([] : List (List UInt8 × List UInt8)), (0 : Int), false, (0 : Int), (0 : Int), (0 : Int), (0 : Int), true, 2000)).bind fun r406 =>
                (class_Is.f K 3 r406).bind fun r407 =>
                bif r407 then
                  (polyglotlaw16_one.f K 0 (([] : List (List UInt8 × List UInt8)), (0 : Int), false, (0 : Int), (0 : Int), (0 : Int), (0 : Int), false, (0 : Int))).bind fun r408 =>
                  (class_Is.f K 3 r408).bind fun r409 =>
                  bif !r409 then
                    (polyglotlaw16_one.f K 2 (([] : List (List UInt8 × List UInt8)), (0 : Int), false, (0 : Int), (0 : Int), (0 : Int), (0 : Int), false, (0 : Int))).bind fun r410 =>
                    (class_Is.f K 4 r410).bind fun r411 =>
                    bif r411 then
                      (class_Kinds.f K 4).bind fun r412 =>
                      bif (r412.length : Int) == 2 then
                        (class_Value.f K 1 ([] : List UInt8)).bind fun r413 =>
                        bif r413 then
                          (class_Value.f K 2 ([] : List UInt8)).bind fun r414 =>
                          some (!r414)
                        else some false
                      else some false
                    else some false
                  else some false
                else some false
              else some false
            else some false
          else some false
        else some false
      else some false
    else some false
  else some false
def polyglotlaw16_known.sig : Sig := ⟨[], [(.c .bool)]⟩
noncomputable def polyglotlaw16_known.con (K : Nat) : Con := (mkCon polyglotlaw16_known.sig (fun _ => polyglotlaw16_known.f K))
noncomputable def polyglotlaw16_known.ht : HT := .nil
noncomputable def polyglotlaw16_known.cx (K : Nat) : Cx := ⟨tt, [(16, polyglotlaw16_one.con K), (7, class_Why.con K), (11, class_Is.con K), (9, class_Kinds.con K), (13, class_Value.con K)], [], K, inlOf tt [(16, polyglotlaw16_one.con K), (7, class_Why.con K), (11, class_Is.con K), (9, class_Kinds.con K), (13, class_Value.con K)] [] K (getBody []) 0⟩
theorem polyglotlaw16_known.eq (K : Nat) (x : PL polyglotlaw16_known.sig.ps) : evalF (polyglotlaw16_known.cx K) polyglotlaw16_known.sig (bodyOf Tryz.f5) polyglotlaw16_known.ht x = polyglotlaw16_known.f K := by kernel_rfl
theorem polyglotlaw16_known.fok (K : Nat) : FOK Tryz.prog polyglotlaw16_known.sig (fun _ => polyglotlaw16_known.f K) 5 := fok_of_eval (tt := tt) (cons := [(16, polyglotlaw16_one.con K), (7, class_Why.con K), (11, class_Is.con K), (9, class_Kinds.con K), (13, class_Value.con K)]) (exts := []) (bodies := (getBody [])) (K := K) (d := 0) ⟨ttok, (getCon_cons (polyglotlaw16_one.ok K) (getCon_cons (class_Why.ok K) (getCon_cons (class_Is.ok K) (getCon_cons (class_Kinds.ok K) (getCon_cons (class_Value.ok K) (fun _ _ => getCon_nil)))))), (fun _ _ => getExt_nil), (fun _ _ => getBody_nil)⟩ draw bok5 (polyglotlaw16_known.eq K)
theorem polyglotlaw16_known.ok (K : Nat) : ConOK Tryz.prog 5 (polyglotlaw16_known.con K) := con_ok bok5 (polyglotlaw16_known.fok K)

noncomputable def polyglothelp_Wide.f (K : Nat) (b0 : List UInt8 × List (List UInt8 × Int × List UInt8 × List UInt8 × List (List (List UInt8 × List UInt8) × Int × Bool × Int × Int × Int × Int × Bool × Int))) : Option Bool :=
  (((
      bif decide ((b0.2.length : Int) > 40) then
        some true
      else some (decide ((b0.1.length : Int) > 100))) : Option Bool)).bind fun t415 =>
  bif t415 then some true
  else
  ((loopN K (fun (s_ : Int × Int) =>
    match s_ with
    | (n434, i435) =>
      bif decide (i435 < (b0.2.length : Int)) then
        bif idx i435 b0.2.length then
          (((
              bif decide ((IntKind.i64.wrap (n434 + ((((((b0.2.getD i435.toNat (([] : List UInt8), ((0 : Int), (([] : List UInt8), (([] : List UInt8), ([] : List (List (List UInt8 × List UInt8) × Int × Bool × Int × Int × Int × Int × Bool × Int))))))).2).2).2).2).length : Int))) > 130) then some true
              else
              bif decide (((((((b0.2.getD i435.toNat (([] : List UInt8), ((0 : Int), (([] : List UInt8), (([] : List UInt8), ([] : List (List (List UInt8 × List UInt8) × Int × Bool × Int × Int × Int × Int × Bool × Int))))))).2).2).2).2).length : Int) > 130) then some true
              else
              bif decide ((((b0.2.getD i435.toNat (([] : List UInt8), ((0 : Int), (([] : List UInt8), (([] : List UInt8), ([] : List (List (List UInt8 × List UInt8) × Int × Bool × Int × Int × Int × Int × Bool × Int))))))).1).length : Int) > 100) then some true
              else
              bif decide ((((((b0.2.getD i435.toNat (([] : List UInt8), ((0 : Int), (([] : List UInt8), (([] : List UInt8), ([] : List (List (List UInt8 × List UInt8) × Int × Bool × Int × Int × Int × Int × Bool × Int))))))).2).2).1).length : Int) > 100) then
                some true
              else some (decide (((((((b0.2.getD i435.toNat (([] : List UInt8), ((0 : Int), (([] : List UInt8), (([] : List UInt8), ([] : List (List (List UInt8 × List UInt8) × Int × Bool × Int × Int × Int × Int × Bool × Int))))))).2).2).2).1).length : Int) > 100))) : Option Bool)).bind fun t436 =>
          bif t436 then some (.inr (.inr true))
          else
          ((loopN K (fun (s_ : Int) =>
            match s_ with
            | k443 =>
              bif decide (k443 < ((((((b0.2.getD i435.toNat (([] : List UInt8), ((0 : Int), (([] : List UInt8), (([] : List UInt8), ([] : List (List (List UInt8 × List UInt8) × Int × Bool × Int × Int × Int × Int × Bool × Int))))))).2).2).2).2).length : Int)) then
                bif idx k443 ((((((b0.2.getD i435.toNat (([] : List UInt8), ((0 : Int), (([] : List UInt8), (([] : List UInt8), ([] : List (List (List UInt8 × List UInt8) × Int × Bool × Int × Int × Int × Int × Bool × Int))))))).2).2).2).2).length) then
                  bif decide (((((((((b0.2.getD i435.toNat (([] : List UInt8), ((0 : Int), (([] : List UInt8), (([] : List UInt8), ([] : List (List (List UInt8 × List UInt8) × Int × Bool × Int × Int × Int × Int × Bool × Int))))))).2).2).2).2).getD k443.toNat (([] : List (List UInt8 × List UInt8)), ((0 : Int), (false, ((0 : Int), ((0 : Int), ((0 : Int), ((0 : Int), (false, (0 : Int)))))))))).1).length : Int) > 12) then some (.inr (.inr true))
                  else
                  ((loopN K (fun (s_ : Int) =>
                    match s_ with
                    | j446 =>
                      bif idx k443 ((((((b0.2.getD i435.toNat (([] : List UInt8), ((0 : Int), (([] : List UInt8), (([] : List UInt8), ([] : List (List (List UInt8 × List UInt8) × Int × Bool × Int × Int × Int × Int × Bool × Int))))))).2).2).2).2).length) then
                        bif decide (j446 < ((((((((b0.2.getD i435.toNat (([] : List UInt8), ((0 : Int), (([] : List UInt8), (([] : List UInt8), ([] : List (List (List UInt8 × List UInt8) × Int × Bool × Int × Int × Int × Int × Bool × Int))))))).2).2).2).2).getD k443.toNat (([] : List (List UInt8 × List UInt8)), ((0 : Int), (false, ((0 : Int), ((0 : Int), ((0 : Int), ((0 : Int), (false, (0 : Int)))))))))).1).length : Int)) then
                          bif idx k443 ((((((b0.2.getD i435.toNat (([] : List UInt8), ((0 : Int), (([] : List UInt8), (([] : List UInt8), ([] : List (List (List UInt8 × List UInt8) × Int × Bool × Int × Int × Int × Int × Bool × Int))))))).2).2).2).2).length) then
                            bif idx j446 ((((((((b0.2.getD i435.toNat (([] : List UInt8), ((0 : Int), (([] : List UInt8), (([] : List UInt8), ([] : List (List (List UInt8 × List UInt8) × Int × Bool × Int × Int × Int × Int × Bool × Int))))))).2).2).2).2).getD k443.toNat (([] : List (List UInt8 × List UInt8)), ((0 : Int), (false, ((0 : Int), ((0 : Int), ((0 : Int), ((0 : Int), (false, (0 : Int)))))))))).1).length) then
                              bif decide (((((((((((b0.2.getD i435.toNat (([] : List UInt8), ((0 : Int), (([] : List UInt8), (([] : List UInt8), ([] : List (List (List UInt8 × List UInt8) × Int × Bool × Int × Int × Int × Int × Bool × Int))))))).2).2).2).2).getD k443.toNat (([] : List (List UInt8 × List UInt8)), ((0 : Int), (false, ((0 : Int), ((0 : Int), ((0 : Int), ((0 : Int), (false, (0 : Int)))))))))).1).getD j446.toNat (([] : List UInt8), ([] : List UInt8))).1).length : Int) > 100) then some (.inr (.inr true))
                              else
                              bif decide (((((((((((b0.2.getD i435.toNat (([] : List UInt8), ((0 : Int), (([] : List UInt8), (([] : List UInt8), ([] : List (List (List UInt8 × List UInt8) × Int × Bool × Int × Int × Int × Int × Bool × Int))))))).2).2).2).2).getD k443.toNat (([] : List (List UInt8 × List UInt8)), ((0 : Int), (false, ((0 : Int), ((0 : Int), ((0 : Int), ((0 : Int), (false, (0 : Int)))))))))).1).getD j446.toNat (([] : List UInt8), ([] : List UInt8))).2).length : Int) > 100) then
                                some (.inr (.inr true))
                              else some (.inl (IntKind.i64.wrap (j446 + 1)))
                            else none
                          else none
                        else some (.inr (.inl ()))
                      else none) 0 : Option (Unit ⊕ Bool))).bind fun e_ =>
                  match e_ with
                  | .inl _ =>
                    some (.inl (IntKind.i64.wrap (k443 + 1)))
                  | .inr t447 =>
                    some (.inr (.inr t447))
                else none
              else some (.inr (.inl ()))) 0 : Option (Unit ⊕ Bool))).bind fun e_ =>
          match e_ with
          | .inl _ =>
            some (.inl (IntKind.i64.wrap (n434 + ((((((b0.2.getD i435.toNat (([] : List UInt8), ((0 : Int), (([] : List UInt8), (([] : List UInt8), ([] : List (List (List UInt8 × List UInt8) × Int × Bool × Int × Int × Int × Int × Bool × Int))))))).2).2).2).2).length : Int)), IntKind.i64.wrap (i435 + 1)))
          | .inr t448 =>
            some (.inr (.inr t448))
        else none
      else some (.inr (.inl ()))) (0, 0) : Option (Unit ⊕ Bool))).bind fun e_ =>
  match e_ with
  | .inl _ =>
    some false
  | .inr t449 =>
    some t449
def polyglothelp_Wide.sig : Sig := ⟨[(.agg (.pair .str (.sl (.pair .str (.pair (.int .i64) (.pair .str (.pair .str (.sl (.pair (.sl (.pair .str .str)) (.pair (.int .i64) (.pair .bool (.pair (.int .i64) (.pair (.int .i64) (.pair (.int .i64) (.pair (.int .i64) (.pair .bool (.int .i64)))))))))))))))))], [(.c .bool)]⟩
noncomputable def polyglothelp_Wide.con (K : Nat) : Con := (mkCon polyglothelp_Wide.sig (fun x => polyglothelp_Wide.f K x))
noncomputable def polyglothelp_Wide.ht : HT := .seq .nil (.seq (.join ⟨3, [], [], ⟨[], []⟩, [(.normal, ⟨[(18, .c (.v .bool))], []⟩)]⟩ (.seq .nil .nil)) (.seq .nil (.seq (.seq .nil (.block (.loop ⟨2, [], [], ⟨[(3, .c (.v (.int .i64))), (4, .c (.v (.int .i64)))], []⟩, [(.exit 0, ⟨[], []⟩), (.ret, ⟨[(2, .c (.v .bool))], []⟩)]⟩ (.seq .nil (.seq (.block (.seq .nil (.seq (.seq .nil (.join ⟨6, [], [], ⟨[], []⟩, [(.normal, ⟨[(64, .c (.v .bool))], []⟩)]⟩ (.seq .nil .nil))) (.seq .nil (.block (.loop ⟨6, [2], [], ⟨[(6, .c (.v (.int .i64)))], []⟩, [(.exit 2, ⟨[], []⟩), (.ret, ⟨[(2, .c (.v .bool))], []⟩)]⟩ (.seq .nil (.seq (.block (.seq .nil (.seq .nil (.block (.loop ⟨7, [2], [], ⟨[(7, .c (.v (.int .i64)))], []⟩, [(.exit 4, ⟨[], []⟩), (.ret, ⟨[(2, .c (.v .bool))], []⟩)]⟩ .nil))))) .nil)))))))) .nil))))) .nil)))
noncomputable def polyglothelp_Wide.cx (K : Nat) : Cx := ⟨tt, [], [], K, inlOf tt [] [] K (getBody []) 0⟩
theorem polyglothelp_Wide.eq (K : Nat) (x : PL polyglothelp_Wide.sig.ps) : evalF (polyglothelp_Wide.cx K) polyglothelp_Wide.sig (bodyOf Tryz.f6) polyglothelp_Wide.ht x = polyglothelp_Wide.f K x := by kernel_rfl
theorem polyglothelp_Wide.fok (K : Nat) : FOK Tryz.prog polyglothelp_Wide.sig (fun x => polyglothelp_Wide.f K x) 6 := fok_of_eval (tt := tt) (cons := []) (exts := []) (bodies := (getBody [])) (K := K) (d := 0) ⟨ttok, (fun _ _ => getCon_nil), (fun _ _ => getExt_nil), (fun _ _ => getBody_nil)⟩ draw bok6 (polyglothelp_Wide.eq K)
theorem polyglothelp_Wide.ok (K : Nat) : ConOK Tryz.prog 6 (polyglothelp_Wide.con K) := con_ok bok6 (polyglothelp_Wide.fok K)

noncomputable def polyglotref7_Tenant.f (K : Nat) (s0 : List UInt8) : Option Bool :=
  ((loopN K (fun (s_ : Int) =>
    match s_ with
    | i460 =>
      bif decide (i460 < (s0.length : Int)) then
        (((
            (((
                bif idx i460 s0.length then
                  bif decide (((s0.getD i460.toNat 0).toNat : Int) ≥ 97) then
                    bif idx i460 s0.length then
                      bif decide (((s0.getD i460.toNat 0).toNat : Int) ≤ 122) then some false
                      else
                      bif idx i460 s0.length then
                        bif decide (((s0.getD i460.toNat 0).toNat : Int) ≥ 48) then
                          bif idx i460 s0.length then
                            bif decide (((s0.getD i460.toNat 0).toNat : Int) ≤ 57) then some false
                            else
                            bif idx i460 s0.length then
                              some (!(((s0.getD i460.toNat 0).toNat : Int) == 45))
                            else none
                          else none
                        else
                        bif idx i460 s0.length then
                          some (!(((s0.getD i460.toNat 0).toNat : Int) == 45))
                        else none
                      else none
                    else none
                  else
                  bif idx i460 s0.length then
                    bif decide (((s0.getD i460.toNat 0).toNat : Int) ≥ 48) then
                      bif idx i460 s0.length then
                        bif decide (((s0.getD i460.toNat 0).toNat : Int) ≤ 57) then some false
                        else
                        bif idx i460 s0.length then
                          some (!(((s0.getD i460.toNat 0).toNat : Int) == 45))
                        else none
                      else none
                    else
                    bif idx i460 s0.length then
                      some (!(((s0.getD i460.toNat 0).toNat : Int) == 45))
                    else none
                  else none
                else none) : Option Bool)).bind fun t463 =>
            bif t463 then
              some (.inr false)
            else some (.inl ())) : Option (Unit ⊕ Bool))).bind fun e_ =>
        match e_ with
        | .inl _ =>
          some (.inl (IntKind.i64.wrap (i460 + 1)))
        | .inr t464 =>
          some (.inr (.inr t464))
      else some (.inr (.inl ()))) 0 : Option (Unit ⊕ Bool))).bind fun e_ =>
  match e_ with
  | .inl _ =>
    bif decide ((s0.length : Int) ≥ 1) then
      some (decide ((s0.length : Int) ≤ 16))
    else some false
  | .inr t465 =>
    some t465
def polyglotref7_Tenant.sig : Sig := ⟨[(.c .str)], [(.c .bool)]⟩
noncomputable def polyglotref7_Tenant.con (K : Nat) : Con := (mkCon polyglotref7_Tenant.sig (fun x => polyglotref7_Tenant.f K x))
noncomputable def polyglotref7_Tenant.ht : HT := .seq .nil (.seq (.seq .nil (.block (.loop ⟨1, [], [], ⟨[(3, .c (.v (.int .i64)))], []⟩, [(.exit 0, ⟨[], []⟩), (.ret, ⟨[(2, .c (.v .bool))], []⟩)]⟩ (.seq .nil (.join ⟨4, [2], [], ⟨[], []⟩, [(.normal, ⟨[], []⟩), (.ret, ⟨[(2, .c (.v .bool))], []⟩)]⟩ (.seq (.block (.join ⟨4, [], [], ⟨[], []⟩, [(.normal, ⟨[(38, .c (.v .bool))], []⟩)]⟩ (.seq .nil .nil))) .nil)))))) .nil)
noncomputable def polyglotref7_Tenant.cx (K : Nat) : Cx := ⟨tt, [], [], K, inlOf tt [] [] K (getBody []) 0⟩
theorem polyglotref7_Tenant.eq (K : Nat) (x : PL polyglotref7_Tenant.sig.ps) : evalF (polyglotref7_Tenant.cx K) polyglotref7_Tenant.sig (bodyOf Tryz.f26) polyglotref7_Tenant.ht x = polyglotref7_Tenant.f K x := by kernel_rfl
theorem polyglotref7_Tenant.fok (K : Nat) : FOK Tryz.prog polyglotref7_Tenant.sig (fun x => polyglotref7_Tenant.f K x) 26 := fok_of_eval (tt := tt) (cons := []) (exts := []) (bodies := (getBody [])) (K := K) (d := 0) ⟨ttok, (fun _ _ => getCon_nil), (fun _ _ => getExt_nil), (fun _ _ => getBody_nil)⟩ draw bok26 (polyglotref7_Tenant.eq K)
theorem polyglotref7_Tenant.ok (K : Nat) : ConOK Tryz.prog 26 (polyglotref7_Tenant.con K) := con_ok bok26 (polyglotref7_Tenant.fok K)

noncomputable def polyglotref1_span.f (K : Nat) (c0 : Int) : Option (Int × Int × Int) :=
  bif decide (c0 < 128) then some (1, 0, 0)
  else
  (((
      bif decide (c0 < 194) then
        some true
      else some (decide (c0 > 244))) : Option Bool)).bind fun t466 =>
  bif t466 then some (0, 0, 0)
  else
  bif decide (c0 < 224) then some (2, 128, 191)
  else
  bif c0 == 224 then some (3, 160, 191)
  else
  bif c0 == 237 then some (3, 128, 159)
  else
  bif decide (c0 < 240) then some (3, 128, 191)
  else
  bif c0 == 240 then some (4, 144, 191)
  else
  bif c0 == 244 then
    some (4, 128, 143)
  else some (4, 128, 191)
def polyglotref1_span.sig : Sig := ⟨[(.c (.int .u8))], [(.c (.int .i64)), (.c (.int .u8)), (.c (.int .u8))]⟩
noncomputable def polyglotref1_span.con (K : Nat) : Con := (mkCon polyglotref1_span.sig (fun x => polyglotref1_span.f K x))
noncomputable def polyglotref1_span.ht : HT := .seq .nil (.seq (.block (.seq .nil (.cond .nil (.join ⟨5, [], [], ⟨[], []⟩, [(.normal, ⟨[(8, .c (.v .bool))], []⟩)]⟩ (.seq .nil .nil))))) .nil)
noncomputable def polyglotref1_span.cx (K : Nat) : Cx := ⟨tt, [], [], K, inlOf tt [] [] K (getBody []) 0⟩
theorem polyglotref1_span.eq (K : Nat) (x : PL polyglotref1_span.sig.ps) : evalF (polyglotref1_span.cx K) polyglotref1_span.sig (bodyOf Tryz.f69) polyglotref1_span.ht x = polyglotref1_span.f K x := by kernel_rfl
theorem polyglotref1_span.fok (K : Nat) : FOK Tryz.prog polyglotref1_span.sig (fun x => polyglotref1_span.f K x) 69 := fok_of_eval (tt := tt) (cons := []) (exts := []) (bodies := (getBody [])) (K := K) (d := 0) ⟨ttok, (fun _ _ => getCon_nil), (fun _ _ => getExt_nil), (fun _ _ => getBody_nil)⟩ draw bok69 (polyglotref1_span.eq K)
theorem polyglotref1_span.ok (K : Nat) : ConOK Tryz.prog 69 (polyglotref1_span.con K) := con_ok bok69 (polyglotref1_span.fok K)

noncomputable def polyglotref1_Front.f (K : Nat) (s0 : List UInt8) (at1 : Int) : Option (Int × Bool) :=
  bif idx at1 s0.length then
    (polyglotref1_span.f K ((s0.getD at1.toNat 0).toNat : Int)).bind fun (r467, r468, r469) =>
    bif r467 == 0 then some (0, false)
    else
    ((loopN K (fun (s_ : Int × Int × Int) =>
      match s_ with
      | (lo478, hi479, k480) =>
        (((
            bif decide (k480 < r467) then
              some (decide ((IntKind.i64.wrap (at1 + k480)) < (s0.length : Int)))
            else some false) : Option Bool)).bind fun t481 =>
        bif t481 then
          bif idx (IntKind.i64.wrap (at1 + k480)) s0.length then
            bif decide (((s0.getD ((IntKind.i64.wrap (at1 + k480)).toNat) 0).toNat : Int) < lo478) then some (.inr (.inr (k480, false)))
            else
            bif idx (IntKind.i64.wrap (at1 + k480)) s0.length then
              bif decide (((s0.getD ((IntKind.i64.wrap (at1 + k480)).toNat) 0).toNat : Int) > hi479) then
                some (.inr (.inr (k480, false)))
              else some (.inl (128, 191, IntKind.i64.wrap (k480 + 1)))
            else none
          else none
        else some (.inr (.inl k480))) (r468, r469, 1) : Option (Int ⊕ (Int × Bool)))).bind fun e_ =>
    match e_ with
    | .inl k482 =>
      some (k482, k482 == r467)
    | .inr (t483, t484) =>
      some (t483, t484)
  else none
def polyglotref1_Front.sig : Sig := ⟨[(.c .str), (.c (.int .i64))], [(.c (.int .i64)), (.c .bool)]⟩
noncomputable def polyglotref1_Front.con (K : Nat) : Con := (mkCon polyglotref1_Front.sig (fun x => polyglotref1_Front.f K x.1 x.2))
noncomputable def polyglotref1_Front.ht : HT := .seq .nil (.seq .nil (.seq .nil (.seq .nil (.seq (.block (.loop ⟨7, [4, 5], [], ⟨[(7, .c (.v (.int .u8))), (8, .c (.v (.int .u8))), (9, .c (.v (.int .i64)))], []⟩, [(.exit 0, ⟨[(9, .c (.v (.int .i64)))], []⟩), (.ret, ⟨[(4, .c (.v (.int .i64))), (5, .c (.v .bool))], []⟩)]⟩ (.seq (.join ⟨10, [], [], ⟨[], []⟩, [(.normal, ⟨[(30, .c (.v .bool))], []⟩)]⟩ (.seq .nil .nil)) .nil))) .nil))))
noncomputable def polyglotref1_Front.cx (K : Nat) : Cx := ⟨tt, [(69, polyglotref1_span.con K)], [], K, inlOf tt [(69, polyglotref1_span.con K)] [] K (getBody []) 0⟩
theorem polyglotref1_Front.eq (K : Nat) (x : PL polyglotref1_Front.sig.ps) : evalF (polyglotref1_Front.cx K) polyglotref1_Front.sig (bodyOf Tryz.f47) polyglotref1_Front.ht x = polyglotref1_Front.f K x.1 x.2 := by kernel_rfl
theorem polyglotref1_Front.fok (K : Nat) : FOK Tryz.prog polyglotref1_Front.sig (fun x => polyglotref1_Front.f K x.1 x.2) 47 := fok_of_eval (tt := tt) (cons := [(69, polyglotref1_span.con K)]) (exts := []) (bodies := (getBody [])) (K := K) (d := 0) ⟨ttok, (getCon_cons (polyglotref1_span.ok K) (fun _ _ => getCon_nil)), (fun _ _ => getExt_nil), (fun _ _ => getBody_nil)⟩ draw bok47 (polyglotref1_Front.eq K)
theorem polyglotref1_Front.ok (K : Nat) : ConOK Tryz.prog 47 (polyglotref1_Front.con K) := con_ok bok47 (polyglotref1_Front.fok K)

noncomputable def polyglotref1_Bad.f (K : Nat) (s0 : List UInt8) : Option Int :=
  ((loopN K (fun (s_ : Int) =>
    match s_ with
    | at491 =>
      bif decide (at491 < (s0.length : Int)) then
        (polyglotref1_Front.f K s0 at491).bind fun (r492, r493) =>
        bif !r493 then
          some (.inr (.inr (IntKind.i64.wrap (at491 + r492))))
        else some (.inl (IntKind.i64.wrap (at491 + r492)))
      else some (.inr (.inl ()))) 0 : Option (Unit ⊕ Int))).bind fun e_ =>
  match e_ with
  | .inl _ =>
    some (-1)
  | .inr t494 =>
    some t494
def polyglotref1_Bad.sig : Sig := ⟨[(.c .str)], [(.c (.int .i64))]⟩
noncomputable def polyglotref1_Bad.con (K : Nat) : Con := (mkCon polyglotref1_Bad.sig (fun x => polyglotref1_Bad.f K x))
noncomputable def polyglotref1_Bad.ht : HT := .seq .nil (.seq (.seq .nil (.block (.loop ⟨1, [], [], ⟨[(3, .c (.v (.int .i64)))], []⟩, [(.exit 0, ⟨[], []⟩), (.ret, ⟨[(2, .c (.v (.int .i64)))], []⟩)]⟩ .nil))) .nil)
noncomputable def polyglotref1_Bad.cx (K : Nat) : Cx := ⟨tt, [(47, polyglotref1_Front.con K)], [], K, inlOf tt [(47, polyglotref1_Front.con K)] [] K (getBody []) 0⟩
theorem polyglotref1_Bad.eq (K : Nat) (x : PL polyglotref1_Bad.sig.ps) : evalF (polyglotref1_Bad.cx K) polyglotref1_Bad.sig (bodyOf Tryz.f25) polyglotref1_Bad.ht x = polyglotref1_Bad.f K x := by kernel_rfl
theorem polyglotref1_Bad.fok (K : Nat) : FOK Tryz.prog polyglotref1_Bad.sig (fun x => polyglotref1_Bad.f K x) 25 := fok_of_eval (tt := tt) (cons := [(47, polyglotref1_Front.con K)]) (exts := []) (bodies := (getBody [])) (K := K) (d := 0) ⟨ttok, (getCon_cons (polyglotref1_Front.ok K) (fun _ _ => getCon_nil)), (fun _ _ => getExt_nil), (fun _ _ => getBody_nil)⟩ draw bok25 (polyglotref1_Bad.eq K)
theorem polyglotref1_Bad.ok (K : Nat) : ConOK Tryz.prog 25 (polyglotref1_Bad.con K) := con_ok bok25 (polyglotref1_Bad.fok K)

noncomputable def polyglotref7_Value.f (K : Nat) (s0 : List UInt8) : Option Bool :=
  bif decide ((s0.length : Int) ≤ 60) then
    (polyglotref1_Bad.f K s0).bind fun r495 =>
    some (decide (r495 < 0))
  else some false
def polyglotref7_Value.sig : Sig := ⟨[(.c .str)], [(.c .bool)]⟩
noncomputable def polyglotref7_Value.con (K : Nat) : Con := (mkCon polyglotref7_Value.sig (fun x => polyglotref7_Value.f K x))
noncomputable def polyglotref7_Value.ht : HT := .nil
noncomputable def polyglotref7_Value.cx (K : Nat) : Cx := ⟨tt, [(25, polyglotref1_Bad.con K)], [], K, inlOf tt [(25, polyglotref1_Bad.con K)] [] K (getBody []) 0⟩
theorem polyglotref7_Value.eq (K : Nat) (x : PL polyglotref7_Value.sig.ps) : evalF (polyglotref7_Value.cx K) polyglotref7_Value.sig (bodyOf Tryz.f24) polyglotref7_Value.ht x = polyglotref7_Value.f K x := by kernel_rfl
theorem polyglotref7_Value.fok (K : Nat) : FOK Tryz.prog polyglotref7_Value.sig (fun x => polyglotref7_Value.f K x) 24 := fok_of_eval (tt := tt) (cons := [(25, polyglotref1_Bad.con K)]) (exts := []) (bodies := (getBody [])) (K := K) (d := 0) ⟨ttok, (getCon_cons (polyglotref1_Bad.ok K) (fun _ _ => getCon_nil)), (fun _ _ => getExt_nil), (fun _ _ => getBody_nil)⟩ draw bok24 (polyglotref7_Value.eq K)
theorem polyglotref7_Value.ok (K : Nat) : ConOK Tryz.prog 24 (polyglotref7_Value.con K) := con_ok bok24 (polyglotref7_Value.fok K)

noncomputable def polyglotref7_Name.f (K : Nat) (s0 : List UInt8) : Option Bool :=
  ((loopN K (fun (s_ : Int) =>
    match s_ with
    | i498 =>
      bif decide (i498 < (s0.length : Int)) then
        bif idx i498 s0.length then
          bif decide (((s0.getD i498.toNat 0).toNat : Int) < 32) then some (.inr (.inr false))
          else
          bif idx i498 s0.length then
            bif ((s0.getD i498.toNat 0).toNat : Int) == 127 then
              some (.inr (.inr false))
            else some (.inl (IntKind.i64.wrap (i498 + 1)))
          else none
        else none
      else some (.inr (.inl ()))) 0 : Option (Unit ⊕ Bool))).bind fun e_ =>
  match e_ with
  | .inl _ =>
    bif decide ((s0.length : Int) ≥ 1) then
      bif decide ((s0.length : Int) ≤ 60) then
        (polyglotref1_Bad.f K s0).bind fun r499 =>
        some (decide (r499 < 0))
      else some false
    else some false
  | .inr t500 =>
    some t500
def polyglotref7_Name.sig : Sig := ⟨[(.c .str)], [(.c .bool)]⟩
noncomputable def polyglotref7_Name.con (K : Nat) : Con := (mkCon polyglotref7_Name.sig (fun x => polyglotref7_Name.f K x))
noncomputable def polyglotref7_Name.ht : HT := .seq .nil (.seq (.seq .nil (.block (.loop ⟨1, [], [], ⟨[(3, .c (.v (.int .i64)))], []⟩, [(.exit 0, ⟨[], []⟩), (.ret, ⟨[(2, .c (.v .bool))], []⟩)]⟩ .nil))) .nil)
noncomputable def polyglotref7_Name.cx (K : Nat) : Cx := ⟨tt, [(25, polyglotref1_Bad.con K)], [], K, inlOf tt [(25, polyglotref1_Bad.con K)] [] K (getBody []) 0⟩
theorem polyglotref7_Name.eq (K : Nat) (x : PL polyglotref7_Name.sig.ps) : evalF (polyglotref7_Name.cx K) polyglotref7_Name.sig (bodyOf Tryz.f48) polyglotref7_Name.ht x = polyglotref7_Name.f K x := by kernel_rfl
theorem polyglotref7_Name.fok (K : Nat) : FOK Tryz.prog polyglotref7_Name.sig (fun x => polyglotref7_Name.f K x) 48 := fok_of_eval (tt := tt) (cons := [(25, polyglotref1_Bad.con K)]) (exts := []) (bodies := (getBody [])) (K := K) (d := 0) ⟨ttok, (getCon_cons (polyglotref1_Bad.ok K) (fun _ _ => getCon_nil)), (fun _ _ => getExt_nil), (fun _ _ => getBody_nil)⟩ draw bok48 (polyglotref7_Name.eq K)
theorem polyglotref7_Name.ok (K : Nat) : ConOK Tryz.prog 48 (polyglotref7_Name.con K) := con_ok bok48 (polyglotref7_Name.fok K)

noncomputable def polyglotref7_IsKind.f (K : Nat) (kind0 : Int) : Option Bool :=
  bif decide (kind0 ≥ 0) then
    some (decide (kind0 ≤ 4))
  else some false
def polyglotref7_IsKind.sig : Sig := ⟨[(.c (.int .i64))], [(.c .bool)]⟩
noncomputable def polyglotref7_IsKind.con (K : Nat) : Con := (mkCon polyglotref7_IsKind.sig (fun x => polyglotref7_IsKind.f K x))
noncomputable def polyglotref7_IsKind.ht : HT := .nil
noncomputable def polyglotref7_IsKind.cx (K : Nat) : Cx := ⟨tt, [], [], K, inlOf tt [] [] K (getBody []) 0⟩
theorem polyglotref7_IsKind.eq (K : Nat) (x : PL polyglotref7_IsKind.sig.ps) : evalF (polyglotref7_IsKind.cx K) polyglotref7_IsKind.sig (bodyOf Tryz.f49) polyglotref7_IsKind.ht x = polyglotref7_IsKind.f K x := by kernel_rfl
theorem polyglotref7_IsKind.fok (K : Nat) : FOK Tryz.prog polyglotref7_IsKind.sig (fun x => polyglotref7_IsKind.f K x) 49 := fok_of_eval (tt := tt) (cons := []) (exts := []) (bodies := (getBody [])) (K := K) (d := 0) ⟨ttok, (fun _ _ => getCon_nil), (fun _ _ => getExt_nil), (fun _ _ => getBody_nil)⟩ draw bok49 (polyglotref7_IsKind.eq K)
theorem polyglotref7_IsKind.ok (K : Nat) : ConOK Tryz.prog 49 (polyglotref7_IsKind.con K) := con_ok bok49 (polyglotref7_IsKind.fok K)

noncomputable def polyglotref7_Roles.f (K : Nat) (kind0 : Int) : Option (List Int) :=
  (((
      bif kind0 == 0 then some true
      else
      bif kind0 == 1 then
        some true
      else some (kind0 == 2)) : Option Bool)).bind fun t501 =>
  bif t501 then some ([0] : List Int)
  else
  bif kind0 == 3 then some ([1, 3, 4] : List Int)
  else
  bif kind0 == 4 then
    some ([2, 3, 4] : List Int)
  else some ([] : List Int)
def polyglotref7_Roles.sig : Sig := ⟨[(.c (.int .i64))], [(.c (.sl (.int .i64)))]⟩
noncomputable def polyglotref7_Roles.con (K : Nat) : Con := (mkCon polyglotref7_Roles.sig (fun x => polyglotref7_Roles.f K x))
noncomputable def polyglotref7_Roles.ht : HT := .seq .nil (.seq (.seq .nil (.block (.join ⟨4, [], [], ⟨[], []⟩, [(.normal, ⟨[(4, .c (.v .bool))], []⟩)]⟩ (.seq .nil .nil)))) .nil)
noncomputable def polyglotref7_Roles.cx (K : Nat) : Cx := ⟨tt, [], [], K, inlOf tt [] [] K (getBody []) 0⟩
theorem polyglotref7_Roles.eq (K : Nat) (x : PL polyglotref7_Roles.sig.ps) : evalF (polyglotref7_Roles.cx K) polyglotref7_Roles.sig (bodyOf Tryz.f100) polyglotref7_Roles.ht x = polyglotref7_Roles.f K x := by kernel_rfl
theorem polyglotref7_Roles.fok (K : Nat) : FOK Tryz.prog polyglotref7_Roles.sig (fun x => polyglotref7_Roles.f K x) 100 := fok_of_eval (tt := tt) (cons := []) (exts := []) (bodies := (getBody [])) (K := K) (d := 0) ⟨ttok, (fun _ _ => getCon_nil), (fun _ _ => getExt_nil), (fun _ _ => getBody_nil)⟩ draw bok100 (polyglotref7_Roles.eq K)
theorem polyglotref7_Roles.ok (K : Nat) : ConOK Tryz.prog 100 (polyglotref7_Roles.con K) := con_ok bok100 (polyglotref7_Roles.fok K)

end Go.Proofs.YtclmdnfkdpdacaaGreat
