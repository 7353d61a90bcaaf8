/- What each function of the program comes to, and that it does, part 3. -/
import Derived.Test.YtclmdnfkdpdacaaFnB
import Derived.KernelRfl
set_option linter.unusedVariables false
namespace Go.Proofs.Ytclmdnfkdpdacaa
open Go Go.Rf Go.Proofs Go.RowKit

noncomputable def charset_Bad.f (K : Nat) (proto0 : Int) (what1 : Int) (s2 : List UInt8) : Option Int :=
  ((loopN K (fun (s_ : Int) =>
    match s_ with
    | t334 =>
      bif decide (t334 < (s2.length : Int)) then
        (charset_Legal.f K proto0 what1 s2 t334).bind fun r335 =>
        bif !r335 then
          some (.inr (.inr t334))
        else some (.inl (IntKind.i64.wrap (t334 + 1)))
      else some (.inr (.inl ()))) 0 : Option (Unit ⊕ Int))).bind fun e_ =>
  match e_ with
  | .inl _ =>
    some (-1)
  | .inr t336 =>
    some t336
def charset_Bad.sig : Sig := ⟨[(.c (.int .i64)), (.c (.int .i64)), (.c .str)], [(.c (.int .i64))]⟩
noncomputable def charset_Bad.con (K : Nat) : Con := (mkCon charset_Bad.sig (fun x => charset_Bad.f K x.1 x.2.1 x.2.2))
noncomputable def charset_Bad.ht : HT := .seq .nil (.seq (.seq .nil (.block (.loop ⟨10, [6, 7], [], ⟨[(10, .c (.v (.int .i64)))], []⟩, [(.exit 0, ⟨[], []⟩), (.ret, ⟨[(6, .c (.v (.int .i64)))], []⟩)]⟩ .nil))) .nil)
noncomputable def charset_Bad.cx (K : Nat) : Cx := ⟨tt, [(19, charset_Legal.con K)], [], K, inlOf tt [(19, charset_Legal.con K)] [] K (getBody []) 0⟩
theorem charset_Bad.eq (K : Nat) (x : PL charset_Bad.sig.ps) : evalF (charset_Bad.cx K) charset_Bad.sig (bodyOf Try.f13) charset_Bad.ht x = charset_Bad.f K x.1 x.2.1 x.2.2 := by kernel_rfl
theorem charset_Bad.fok (K : Nat) : FOK Try.prog charset_Bad.sig (fun x => charset_Bad.f K x.1 x.2.1 x.2.2) 13 := fok_of_eval (tt := tt) (cons := [(19, charset_Legal.con K)]) (exts := []) (bodies := (getBody [])) (K := K) (d := 0) ⟨ttok, (getCon_cons (charset_Legal.ok K) (fun _ _ => getCon_nil)), (fun _ _ => getExt_nil), (fun _ _ => getBody_nil)⟩ draw bok13 (charset_Bad.eq K)
theorem charset_Bad.ok (K : Nat) : ConOK Try.prog 13 (charset_Bad.con K) := con_ok bok13 (charset_Bad.fok K)

noncomputable def charset_Is.f (K : Nat) (proto0 : Int) (what1 : Int) (s2 : List UInt8) : Option Bool :=
  bif !(s2 == ([] : List UInt8)) then
    bif decide ((s2.length : Int) ≤ 60) then
      (charset_Bad.f K proto0 what1 s2).bind fun r337 =>
      some (decide (r337 < 0))
    else some false
  else some false
def charset_Is.sig : Sig := ⟨[(.c (.int .i64)), (.c (.int .i64)), (.c .str)], [(.c .bool)]⟩
noncomputable def charset_Is.con (K : Nat) : Con := (mkCon charset_Is.sig (fun x => charset_Is.f K x.1 x.2.1 x.2.2))
noncomputable def charset_Is.ht : HT := .nil
noncomputable def charset_Is.cx (K : Nat) : Cx := ⟨tt, [(13, charset_Bad.con K)], [], K, inlOf tt [(13, charset_Bad.con K)] [] K (getBody []) 0⟩
theorem charset_Is.eq (K : Nat) (x : PL charset_Is.sig.ps) : evalF (charset_Is.cx K) charset_Is.sig (bodyOf Try.f7) charset_Is.ht x = charset_Is.f K x.1 x.2.1 x.2.2 := by kernel_rfl
theorem charset_Is.fok (K : Nat) : FOK Try.prog charset_Is.sig (fun x => charset_Is.f K x.1 x.2.1 x.2.2) 7 := fok_of_eval (tt := tt) (cons := [(13, charset_Bad.con K)]) (exts := []) (bodies := (getBody [])) (K := K) (d := 0) ⟨ttok, (getCon_cons (charset_Bad.ok K) (fun _ _ => getCon_nil)), (fun _ _ => getExt_nil), (fun _ _ => getBody_nil)⟩ draw bok7 (charset_Is.eq K)
theorem charset_Is.ok (K : Nat) : ConOK Try.prog 7 (charset_Is.con K) := con_ok bok7 (charset_Is.fok K)

noncomputable def stringslite_HasSuffix.f (K : Nat) (s0 : List UInt8) (suffix1 : List UInt8) : Option Bool :=
  bif decide ((s0.length : Int) ≥ (suffix1.length : Int)) then
    bif (decide (0 ≤ (IntKind.i64.wrap ((s0.length : Int) - (suffix1.length : Int))))) && (decide ((IntKind.i64.wrap ((s0.length : Int) - (suffix1.length : Int))) ≤ (s0.length : Int))) then
      some (((s0.take s0.length).drop ((IntKind.i64.wrap ((s0.length : Int) - (suffix1.length : Int))).toNat)) == suffix1)
    else none
  else some false
def stringslite_HasSuffix.sig : Sig := ⟨[(.c .str), (.c .str)], [(.c .bool)]⟩
noncomputable def stringslite_HasSuffix.con (K : Nat) : Con := (mkCon stringslite_HasSuffix.sig (fun x => stringslite_HasSuffix.f K x.1 x.2))
noncomputable def stringslite_HasSuffix.ht : HT := .nil
noncomputable def stringslite_HasSuffix.cx (K : Nat) : Cx := ⟨tt, [], [], K, inlOf tt [] [] K (getBody []) 0⟩
theorem stringslite_HasSuffix.eq (K : Nat) (x : PL stringslite_HasSuffix.sig.ps) : evalF (stringslite_HasSuffix.cx K) stringslite_HasSuffix.sig (bodyOf Try.f64) stringslite_HasSuffix.ht x = stringslite_HasSuffix.f K x.1 x.2 := by kernel_rfl
theorem stringslite_HasSuffix.fok (K : Nat) : FOK Try.prog stringslite_HasSuffix.sig (fun x => stringslite_HasSuffix.f K x.1 x.2) 64 := fok_of_eval (tt := tt) (cons := []) (exts := []) (bodies := (getBody [])) (K := K) (d := 0) ⟨ttok, (fun _ _ => getCon_nil), (fun _ _ => getExt_nil), (fun _ _ => getBody_nil)⟩ draw bok64 (stringslite_HasSuffix.eq K)
theorem stringslite_HasSuffix.ok (K : Nat) : ConOK Try.prog 64 (stringslite_HasSuffix.con K) := con_ok bok64 (stringslite_HasSuffix.fok K)

noncomputable def strings_HasSuffix.f (K : Nat) (s0 : List UInt8) (suffix1 : List UInt8) : Option Bool :=
  (stringslite_HasSuffix.f K s0 suffix1).bind fun r338 =>
  some r338
def strings_HasSuffix.sig : Sig := ⟨[(.c .str), (.c .str)], [(.c .bool)]⟩
noncomputable def strings_HasSuffix.con (K : Nat) : Con := (mkCon strings_HasSuffix.sig (fun x => strings_HasSuffix.f K x.1 x.2))
noncomputable def strings_HasSuffix.ht : HT := .nil
noncomputable def strings_HasSuffix.cx (K : Nat) : Cx := ⟨tt, [(64, stringslite_HasSuffix.con K)], [], K, inlOf tt [(64, stringslite_HasSuffix.con K)] [] K (getBody []) 0⟩
theorem strings_HasSuffix.eq (K : Nat) (x : PL strings_HasSuffix.sig.ps) : evalF (strings_HasSuffix.cx K) strings_HasSuffix.sig (bodyOf Try.f47) strings_HasSuffix.ht x = strings_HasSuffix.f K x.1 x.2 := by kernel_rfl
theorem strings_HasSuffix.fok (K : Nat) : FOK Try.prog strings_HasSuffix.sig (fun x => strings_HasSuffix.f K x.1 x.2) 47 := fok_of_eval (tt := tt) (cons := [(64, stringslite_HasSuffix.con K)]) (exts := []) (bodies := (getBody [])) (K := K) (d := 0) ⟨ttok, (getCon_cons (stringslite_HasSuffix.ok K) (fun _ _ => getCon_nil)), (fun _ _ => getExt_nil), (fun _ _ => getBody_nil)⟩ draw bok47 (strings_HasSuffix.eq K)
theorem strings_HasSuffix.ok (K : Nat) : ConOK Try.prog 47 (strings_HasSuffix.con K) := con_ok bok47 (strings_HasSuffix.fok K)

noncomputable def class_isUnit.f (K : Nat) (h0 : List UInt8 × Int × List UInt8 × List UInt8) : Option Bool :=
  ((loopN K (fun (s_ : Int) =>
    match s_ with
    | t343 =>
      bif decide (t343 < (h0.2.2.1.length : Int)) then
        bif decide (([95] : List UInt8).length + h0.2.2.1.length ≤ LIM) then
          (charset_Legal.f K 1 0 (([95] : List UInt8) ++ h0.2.2.1) (IntKind.i64.wrap (t343 + 1))).bind fun r344 =>
          bif !r344 then
            some (.inr (.inr false))
          else some (.inl (IntKind.i64.wrap (t343 + 1)))
        else none
      else some (.inr (.inl ()))) 0 : Option (Unit ⊕ Bool))).bind fun e_ =>
  match e_ with
  | .inl _ =>
    bif h0.2.2.1 == ([] : List UInt8) then some true
    else
    bif decide (([95] : List UInt8).length + h0.2.2.1.length ≤ LIM) then
      (strings_HasSuffix.f K h0.1 (([95] : List UInt8) ++ h0.2.2.1)).bind fun r345 =>
      some r345
    else none
  | .inr t346 =>
    some t346
def class_isUnit.sig : Sig := ⟨[(.agg (.pair .str (.pair (.int .i64) (.pair .str .str))))], [(.c .bool)]⟩
noncomputable def class_isUnit.con (K : Nat) : Con := (mkCon class_isUnit.sig (fun x => class_isUnit.f K x))
noncomputable def class_isUnit.ht : HT := .seq .nil (.seq (.seq .nil (.block (.loop ⟨7, [2, 3], [], ⟨[(7, .c (.v (.int .i64)))], []⟩, [(.exit 0, ⟨[], []⟩), (.ret, ⟨[(2, .c (.v .bool))], []⟩)]⟩ .nil))) .nil)
noncomputable def class_isUnit.cx (K : Nat) : Cx := ⟨tt, [(19, charset_Legal.con K), (47, strings_HasSuffix.con K)], [], K, inlOf tt [(19, charset_Legal.con K), (47, strings_HasSuffix.con K)] [] K (getBody []) 0⟩
theorem class_isUnit.eq (K : Nat) (x : PL class_isUnit.sig.ps) : evalF (class_isUnit.cx K) class_isUnit.sig (bodyOf Try.f30) class_isUnit.ht x = class_isUnit.f K x := by kernel_rfl
theorem class_isUnit.fok (K : Nat) : FOK Try.prog class_isUnit.sig (fun x => class_isUnit.f K x) 30 := fok_of_eval (tt := tt) (cons := [(19, charset_Legal.con K), (47, strings_HasSuffix.con K)]) (exts := []) (bodies := (getBody [])) (K := K) (d := 0) ⟨ttok, (getCon_cons (charset_Legal.ok K) (getCon_cons (strings_HasSuffix.ok K) (fun _ _ => getCon_nil))), (fun _ _ => getExt_nil), (fun _ _ => getBody_nil)⟩ draw bok30 (class_isUnit.eq K)
theorem class_isUnit.ok (K : Nat) : ConOK Try.prog 30 (class_isUnit.con K) := con_ok bok30 (class_isUnit.fok K)

noncomputable def stamp_unitOf.f (K : Nat) (n0 : Int) : Option ((Int × Int) × Bool) :=
  bif decide (n0 < 0) then some (((0 : Int), (0 : Int)), false)
  else
  bif decide (n0 ≥ 4) then some (((0 : Int), (0 : Int)), false)
  else
  bif idx n0 4 then
    bif decide (n0.toNat < 4) then
      some ((([(1000, 1), (1, 1), (1, 1000), (1, 1000000)] : List (Int × Int)).getD n0.toNat ((0 : Int), (0 : Int))), true)
    else none
  else none
def stamp_unitOf.sig : Sig := ⟨[(.c (.int .i64))], [(.agg (.pair (.int .i64) (.int .i64))), (.c .bool)]⟩
noncomputable def stamp_unitOf.con (K : Nat) : Con := (mkCon stamp_unitOf.sig (fun x => stamp_unitOf.f K x))
noncomputable def stamp_unitOf.ht : HT := .nil
noncomputable def stamp_unitOf.cx (K : Nat) : Cx := ⟨tt, [], [], K, inlOf tt [] [] K (getBody []) 0⟩
theorem stamp_unitOf.eq (K : Nat) (x : PL stamp_unitOf.sig.ps) : evalF (stamp_unitOf.cx K) stamp_unitOf.sig (bodyOf Try.f65) stamp_unitOf.ht x = stamp_unitOf.f K x := by kernel_rfl
theorem stamp_unitOf.fok (K : Nat) : FOK Try.prog stamp_unitOf.sig (fun x => stamp_unitOf.f K x) 65 := fok_of_eval (tt := tt) (cons := []) (exts := []) (bodies := (getBody [])) (K := K) (d := 0) ⟨ttok, (fun _ _ => getCon_nil), (fun _ _ => getExt_nil), (fun _ _ => getBody_nil)⟩ draw bok65 (stamp_unitOf.eq K)
theorem stamp_unitOf.ok (K : Nat) : ConOK Try.prog 65 (stamp_unitOf.con K) := con_ok bok65 (stamp_unitOf.fok K)

noncomputable def stamp_isTime.f (K : Nat) (ms0 : Int) : Option Bool :=
  bif decide (ms0 ≥ (-1125899906842624)) then
    some (decide (ms0 ≤ 1125899906842624))
  else some false
def stamp_isTime.sig : Sig := ⟨[(.c (.int .i64))], [(.c .bool)]⟩
noncomputable def stamp_isTime.con (K : Nat) : Con := (mkCon stamp_isTime.sig (fun x => stamp_isTime.f K x))
noncomputable def stamp_isTime.ht : HT := .nil
noncomputable def stamp_isTime.cx (K : Nat) : Cx := ⟨tt, [], [], K, inlOf tt [] [] K (getBody []) 0⟩
theorem stamp_isTime.eq (K : Nat) (x : PL stamp_isTime.sig.ps) : evalF (stamp_isTime.cx K) stamp_isTime.sig (bodyOf Try.f66) stamp_isTime.ht x = stamp_isTime.f K x := by kernel_rfl
theorem stamp_isTime.fok (K : Nat) : FOK Try.prog stamp_isTime.sig (fun x => stamp_isTime.f K x) 66 := fok_of_eval (tt := tt) (cons := []) (exts := []) (bodies := (getBody [])) (K := K) (d := 0) ⟨ttok, (fun _ _ => getCon_nil), (fun _ _ => getExt_nil), (fun _ _ => getBody_nil)⟩ draw bok66 (stamp_isTime.eq K)
theorem stamp_isTime.ok (K : Nat) : ConOK Try.prog 66 (stamp_isTime.con K) := con_ok bok66 (stamp_isTime.fok K)

noncomputable def stamp_Of.f (K : Nat) (ms0 : Int) (by1 : Int) : Option (Int × Bool) :=
  (stamp_unitOf.f K by1).bind fun (r347, r348) =>
  (((
      bif !r348 then some true
      else
      (stamp_isTime.f K ms0).bind fun r349 =>
      bif !r349 then some true
      else
      bif r347.1 != 0 then
        some ((Int.tmod ms0 r347.1) != 0)
      else none) : Option Bool)).bind fun t350 =>
  bif t350 then some (0, false)
  else
  bif r347.1 != 0 then
    bif r347.2 != 0 then
      bif decide ((IntKind.i64.wrap (Int.tdiv ms0 r347.1)) > (IntKind.i64.wrap (Int.tdiv 9223372036854775807 r347.2))) then some (0, false)
      else
      bif r347.2 != 0 then
        bif decide ((IntKind.i64.wrap (Int.tdiv ms0 r347.1)) < (IntKind.i64.wrap (Int.tdiv (-9223372036854775808) r347.2))) then
          some (0, false)
        else some (IntKind.i64.wrap ((IntKind.i64.wrap (Int.tdiv ms0 r347.1)) * r347.2), true)
      else none
    else none
  else none
def stamp_Of.sig : Sig := ⟨[(.c (.int .i64)), (.c (.int .i64))], [(.c (.int .i64)), (.c .bool)]⟩
noncomputable def stamp_Of.con (K : Nat) : Con := (mkCon stamp_Of.sig (fun x => stamp_Of.f K x.1 x.2))
noncomputable def stamp_Of.ht : HT := .seq .nil (.seq .nil (.seq (.join ⟨7, [], [], ⟨[], []⟩, [(.normal, ⟨[(27, .c (.v .bool))], []⟩)]⟩ (.seq .nil .nil)) .nil))
noncomputable def stamp_Of.cx (K : Nat) : Cx := ⟨tt, [(65, stamp_unitOf.con K), (66, stamp_isTime.con K)], [], K, inlOf tt [(65, stamp_unitOf.con K), (66, stamp_isTime.con K)] [] K (getBody []) 0⟩
theorem stamp_Of.eq (K : Nat) (x : PL stamp_Of.sig.ps) : evalF (stamp_Of.cx K) stamp_Of.sig (bodyOf Try.f49) stamp_Of.ht x = stamp_Of.f K x.1 x.2 := by kernel_rfl
theorem stamp_Of.fok (K : Nat) : FOK Try.prog stamp_Of.sig (fun x => stamp_Of.f K x.1 x.2) 49 := fok_of_eval (tt := tt) (cons := [(65, stamp_unitOf.con K), (66, stamp_isTime.con K)]) (exts := []) (bodies := (getBody [])) (K := K) (d := 0) ⟨ttok, (getCon_cons (stamp_unitOf.ok K) (getCon_cons (stamp_isTime.ok K) (fun _ _ => getCon_nil))), (fun _ _ => getExt_nil), (fun _ _ => getBody_nil)⟩ draw bok49 (stamp_Of.eq K)
theorem stamp_Of.ok (K : Nat) : ConOK Try.prog 49 (stamp_Of.con K) := con_ok bok49 (stamp_Of.fok K)

noncomputable def class_isPoint.f (K : Nat) (proto0 : Int) (p1 : List (List UInt8 × List UInt8) × Int × Bool × Int × Int × Int × Int × Bool × Int) : Option Bool :=
  ((loopN K (fun (s_ : Int) =>
    match s_ with
    | t356 =>
      bif decide (t356 < (p1.1.length : Int)) then
        bif idx t356 p1.1.length then
          (charset_Is.f K proto0 1 ((p1.1.getD t356.toNat (([] : List UInt8), ([] : List UInt8))).1)).bind fun r357 =>
          bif !r357 then some (.inr (.inr false))
          else
          (class_Value.f K proto0 ((p1.1.getD t356.toNat (([] : List UInt8), ([] : List UInt8))).2)).bind fun r358 =>
          bif !r358 then
            some (.inr (.inr false))
          else some (.inl (IntKind.i64.wrap (t356 + 1)))
        else none
      else some (.inr (.inl ()))) 0 : Option (Unit ⊕ Bool))).bind fun e_ =>
  match e_ with
  | .inl _ =>
    bif proto0 == 3 then
      (stamp_Of.f K p1.2.2.2.2.2.2.2.2 0).bind fun (r359, r360) =>
      bif p1.2.2.2.2.2.2.2.1 then
        some r360
      else some false
    else
    bif proto0 == 4 then
      bif !p1.2.2.2.2.2.2.2.1 then
        some (decide (p1.2.2.2.2.2.1 ≥ 0))
      else some false
    else some true
  | .inr t361 =>
    some t361
def class_isPoint.sig : Sig := ⟨[(.c (.int .i64)), (.agg (.pair (.sl (.pair .str .str)) (.pair (.int .i64) (.pair .bool (.pair (.int .i64) (.pair (.int .i64) (.pair (.int .i64) (.pair (.int .i64) (.pair .bool (.int .i64))))))))))], [(.c .bool)]⟩
noncomputable def class_isPoint.con (K : Nat) : Con := (mkCon class_isPoint.sig (fun x => class_isPoint.f K x.1 x.2))
noncomputable def class_isPoint.ht : HT := .seq .nil (.seq (.seq .nil (.block (.loop ⟨12, [4, 6], [], ⟨[(12, .c (.v (.int .i64)))], []⟩, [(.exit 0, ⟨[], []⟩), (.ret, ⟨[(4, .c (.v .bool))], []⟩)]⟩ .nil))) .nil)
noncomputable def class_isPoint.cx (K : Nat) : Cx := ⟨tt, [(7, charset_Is.con K), (8, class_Value.con K), (49, stamp_Of.con K)], [], K, inlOf tt [(7, charset_Is.con K), (8, class_Value.con K), (49, stamp_Of.con K)] [] K (getBody []) 0⟩
theorem class_isPoint.eq (K : Nat) (x : PL class_isPoint.sig.ps) : evalF (class_isPoint.cx K) class_isPoint.sig (bodyOf Try.f33) class_isPoint.ht x = class_isPoint.f K x.1 x.2 := by kernel_rfl
theorem class_isPoint.fok (K : Nat) : FOK Try.prog class_isPoint.sig (fun x => class_isPoint.f K x.1 x.2) 33 := fok_of_eval (tt := tt) (cons := [(7, charset_Is.con K), (8, class_Value.con K), (49, stamp_Of.con K)]) (exts := []) (bodies := (getBody [])) (K := K) (d := 0) ⟨ttok, (getCon_cons (charset_Is.ok K) (getCon_cons (class_Value.ok K) (getCon_cons (stamp_Of.ok K) (fun _ _ => getCon_nil)))), (fun _ _ => getExt_nil), (fun _ _ => getBody_nil)⟩ draw bok33 (class_isPoint.eq K)
theorem class_isPoint.ok (K : Nat) : ConOK Try.prog 33 (class_isPoint.con K) := con_ok bok33 (class_isPoint.fok K)

noncomputable def class_isFamily.f (K : Nat) (proto0 : Int) (f1 : List UInt8 × Int × List UInt8 × List UInt8 × List (List (List UInt8 × List UInt8) × Int × Bool × Int × Int × Int × Int × Bool × Int)) : Option Bool :=
  (((
      (class_Kinds.f K proto0).bind fun r364 =>
      (slices_Contains_int_int.f K r364 f1.2.1).bind fun r365 =>
      bif !r365 then some true
      else
      (charset_Is.f K proto0 0 f1.1).bind fun r366 =>
      some (!r366)) : Option Bool)).bind fun t367 =>
  bif t367 then some false
  else
  (((
      (((
          bif proto0 == 1 then
            (class_isUnit.f K (f1.1, f1.2.1, f1.2.2.1, f1.2.2.2.1)).bind fun r375 =>
            bif !r375 then some true
            else
            bif proto0 != 1 then
              bif !(f1.2.2.1 == ([] : List UInt8)) then some true
              else
              bif !(f1.2.2.2.1 == ([] : List UInt8)) then
                some true
              else some ((f1.2.2.2.2.length : Int) == 0)
            else some false
          else
          bif proto0 != 1 then
            bif !(f1.2.2.1 == ([] : List UInt8)) then some true
            else
            bif !(f1.2.2.2.1 == ([] : List UInt8)) then
              some true
            else some ((f1.2.2.2.2.length : Int) == 0)
          else some false) : Option Bool)).bind fun t376 =>
      bif t376 then
        some (.inr false)
      else some (.inl ())) : Option (Unit ⊕ Bool))).bind fun e_ =>
  match e_ with
  | .inl _ =>
    ((loopN K (fun (s_ : Int) =>
      match s_ with
      | t381 =>
        bif decide (t381 < (f1.2.2.2.2.length : Int)) then
          bif idx t381 f1.2.2.2.2.length then
            (class_isPoint.f K proto0 ((f1.2.2.2.2.getD t381.toNat (([] : List (List UInt8 × List UInt8)), ((0 : Int), (false, ((0 : Int), ((0 : Int), ((0 : Int), ((0 : Int), (false, (0 : Int)))))))))).1, ((f1.2.2.2.2.getD t381.toNat (([] : List (List UInt8 × List UInt8)), ((0 : Int), (false, ((0 : Int), ((0 : Int), ((0 : Int), ((0 : Int), (false, (0 : Int)))))))))).2).1, (((f1.2.2.2.2.getD t381.toNat (([] : List (List UInt8 × List UInt8)), ((0 : Int), (false, ((0 : Int), ((0 : Int), ((0 : Int), ((0 : Int), (false, (0 : Int)))))))))).2).2).1, ((((f1.2.2.2.2.getD t381.toNat (([] : List (List UInt8 × List UInt8)), ((0 : Int), (false, ((0 : Int), ((0 : Int), ((0 : Int), ((0 : Int), (false, (0 : Int)))))))))).2).2).2).1, (((((f1.2.2.2.2.getD t381.toNat (([] : List (List UInt8 × List UInt8)), ((0 : Int), (false, ((0 : Int), ((0 : Int), ((0 : Int), ((0 : Int), (false, (0 : Int)))))))))).2).2).2).2).1, ((((((f1.2.2.2.2.getD t381.toNat (([] : List (List UInt8 × List UInt8)), ((0 : Int), (false, ((0 : Int), ((0 : Int), ((0 : Int), ((0 : Int), (false, (0 : Int)))))))))).2).2).2).2).2).1, (((((((f1.2.2.2.2.getD t381.toNat (([] : List (List UInt8 × List UInt8)), ((0 : Int), (false, ((0 : Int), ((0 : Int), ((0 : Int), ((0 : Int), (false, (0 : Int)))))))))).2).2).2).2).2).2).1, ((((((((f1.2.2.2.2.getD t381.toNat (([] : List (List UInt8 × List UInt8)), ((0 : Int), (false, ((0 : Int), ((0 : Int), ((0 : Int), ((0 : Int), (false, (0 : Int)))))))))).2).2).2).2).2).2).2).1, ((((((((f1.2.2.2.2.getD t381.toNat (([] : List (List UInt8 × List UInt8)), ((0 : Int), (false, ((0 : Int), ((0 : Int), ((0 : Int), ((0 : Int), (false, (0 : Int)))))))))).2).2).2).2).2).2).2).2)).bind fun r382 =>
            bif !r382 then
              some (.inr (.inr t381))
            else some (.inl (IntKind.i64.wrap (t381 + 1)))
          else none
        else some (.inr (.inl ()))) 0 : Option (Unit ⊕ Int))).bind fun e_ =>
    match e_ with
    | .inl _ =>
      some true
    | .inr t383 =>
      some (!(decide (t383 ≥ 0)))
  | .inr t384 =>
    some t384
def class_isFamily.sig : Sig := ⟨[(.c (.int .i64)), (.agg (.pair .str (.pair (.int .i64) (.pair .str (.pair .str (.sl (.pair (.sl (.pair .str .str)) (.pair (.int .i64) (.pair .bool (.pair (.int .i64) (.pair (.int .i64) (.pair (.int .i64) (.pair (.int .i64) (.pair .bool (.int .i64)))))))))))))))], [(.c .bool)]⟩
noncomputable def class_isFamily.con (K : Nat) : Con := (mkCon class_isFamily.sig (fun x => class_isFamily.f K x.1 x.2))
noncomputable def class_isFamily.ht : HT := .seq .nil (.seq (.join ⟨5, [], [], ⟨[], []⟩, [(.normal, ⟨[(19, .c (.v .bool))], []⟩)]⟩ (.seq .nil .nil)) (.join ⟨4, [], [], ⟨[], []⟩, [(.normal, ⟨[], []⟩), (.ret, ⟨[(4, .c (.v .bool))], []⟩)]⟩ (.seq (.join ⟨5, [], [], ⟨[], []⟩, [(.normal, ⟨[(49, .c (.v .bool))], []⟩)]⟩ (.seq .nil .nil)) (.seq (.calls [(3, .seq .nil (.seq (.calls [(2, .seq .nil (.seq (.seq .nil (.block (.loop ⟨8, [4, 5], [], ⟨[(8, .c (.v (.int .i64)))], []⟩, [(.exit 0, ⟨[], []⟩), (.ret, ⟨[(4, .c (.v (.int .i64)))], []⟩)]⟩ .nil))) .nil))]) .nil))]) .nil))))
noncomputable def class_isFamily.cx (K : Nat) : Cx := ⟨tt, [(9, class_Kinds.con K), (29, slices_Contains_int_int.con K), (7, charset_Is.con K), (30, class_isUnit.con K), (33, class_isPoint.con K)], [], K, inlOf tt [(9, class_Kinds.con K), (29, slices_Contains_int_int.con K), (7, charset_Is.con K), (30, class_isUnit.con K), (33, class_isPoint.con K)] [] K (getBody [(31, bodyOf Try.f31), (32, bodyOf Try.f32), (48, bodyOf Try.f48)]) 3⟩
theorem class_isFamily.eq (K : Nat) (x : PL class_isFamily.sig.ps) : evalF (class_isFamily.cx K) class_isFamily.sig (bodyOf Try.f18) class_isFamily.ht x = class_isFamily.f K x.1 x.2 := by kernel_rfl
theorem class_isFamily.fok (K : Nat) : FOK Try.prog class_isFamily.sig (fun x => class_isFamily.f K x.1 x.2) 18 := fok_of_eval (tt := tt) (cons := [(9, class_Kinds.con K), (29, slices_Contains_int_int.con K), (7, charset_Is.con K), (30, class_isUnit.con K), (33, class_isPoint.con K)]) (exts := []) (bodies := (getBody [(31, bodyOf Try.f31), (32, bodyOf Try.f32), (48, bodyOf Try.f48)])) (K := K) (d := 3) ⟨ttok, (getCon_cons (class_Kinds.ok K) (getCon_cons (slices_Contains_int_int.ok K) (getCon_cons (charset_Is.ok K) (getCon_cons (class_isUnit.ok K) (getCon_cons (class_isPoint.ok K) (fun _ _ => getCon_nil)))))), (fun _ _ => getExt_nil), (getBody_cons bok31 (getBody_cons bok32 (getBody_cons bok48 (fun _ _ => getBody_nil))))⟩ draw bok18 (class_isFamily.eq K)
theorem class_isFamily.ok (K : Nat) : ConOK Try.prog 18 (class_isFamily.con K) := con_ok bok18 (class_isFamily.fok K)

noncomputable def class_Why.f (K : Nat) (proto0 : Int) (b1 : List UInt8 × List (List UInt8 × Int × List UInt8 × List UInt8 × List (List (List UInt8 × List UInt8) × Int × Bool × Int × Int × Int × Int × Bool × Int))) : Option (List UInt8 × Bool) :=
  (((
      bif decide (proto0 < 1) then some true
      else
      bif decide (proto0 > 4) then some true
      else
      (batch_Check.f K b1).bind fun r385 =>
      some (r385 != 0)) : Option Bool)).bind fun t386 =>
  bif t386 then some (([] : List UInt8), false)
  else
  ((loopN K (fun (s_ : Int) =>
    match s_ with
    | t391 =>
      bif decide (t391 < (b1.2.length : Int)) then
        bif idx t391 b1.2.length then
          (class_isFamily.f K proto0 ((b1.2.getD t391.toNat (([] : List UInt8), ((0 : Int), (([] : List UInt8), (([] : List UInt8), ([] : List (List (List UInt8 × List UInt8) × Int × Bool × Int × Int × Int × Int × Bool × Int))))))).1, ((b1.2.getD t391.toNat (([] : List UInt8), ((0 : Int), (([] : List UInt8), (([] : List UInt8), ([] : List (List (List UInt8 × List UInt8) × Int × Bool × Int × Int × Int × Int × Bool × Int))))))).2).1, (((b1.2.getD t391.toNat (([] : List UInt8), ((0 : Int), (([] : List UInt8), (([] : List UInt8), ([] : List (List (List UInt8 × List UInt8) × Int × Bool × Int × Int × Int × Int × Bool × Int))))))).2).2).1, ((((b1.2.getD t391.toNat (([] : List UInt8), ((0 : Int), (([] : List UInt8), (([] : List UInt8), ([] : List (List (List UInt8 × List UInt8) × Int × Bool × Int × Int × Int × Int × Bool × Int))))))).2).2).2).1, ((((b1.2.getD t391.toNat (([] : List UInt8), ((0 : Int), (([] : List UInt8), (([] : List UInt8), ([] : List (List (List UInt8 × List UInt8) × Int × Bool × Int × Int × Int × Int × Bool × Int))))))).2).2).2).2)).bind fun r392 =>
          bif !r392 then
            some (.inr (.inr ((b1.2.getD t391.toNat (([] : List UInt8), ((0 : Int), (([] : List UInt8), (([] : List UInt8), ([] : List (List (List UInt8 × List UInt8) × Int × Bool × Int × Int × Int × Int × Bool × Int))))))).1, false)))
          else some (.inl (IntKind.i64.wrap (t391 + 1)))
        else none
      else some (.inr (.inl ()))) 0 : Option (Unit ⊕ (List UInt8 × Bool)))).bind fun e_ =>
  match e_ with
  | .inl _ =>
    some (([] : List UInt8), true)
  | .inr (name393, ok394) =>
    some (name393, ok394)
def class_Why.sig : Sig := ⟨[(.c (.int .i64)), (.agg (.pair .str (.sl (.pair .str (.pair (.int .i64) (.pair .str (.pair .str (.sl (.pair (.sl (.pair .str .str)) (.pair (.int .i64) (.pair .bool (.pair (.int .i64) (.pair (.int .i64) (.pair (.int .i64) (.pair (.int .i64) (.pair .bool (.int .i64)))))))))))))))))], [(.c .str), (.c .bool)]⟩
noncomputable def class_Why.con (K : Nat) : Con := (mkCon class_Why.sig (fun x => class_Why.f K x.1 x.2))
noncomputable def class_Why.ht : HT := .seq .nil (.seq (.join ⟨6, [], [], ⟨[], []⟩, [(.normal, ⟨[(18, .c (.v .bool))], []⟩)]⟩ (.seq .nil .nil)) (.seq (.seq .nil (.block (.loop ⟨22, [4, 5, 7], [], ⟨[(22, .c (.v (.int .i64)))], []⟩, [(.exit 0, ⟨[], []⟩), (.ret, ⟨[(4, .c (.v .str)), (5, .c (.v .bool))], []⟩)]⟩ .nil))) .nil))
noncomputable def class_Why.cx (K : Nat) : Cx := ⟨tt, [(17, batch_Check.con K), (18, class_isFamily.con K)], [], K, inlOf tt [(17, batch_Check.con K), (18, class_isFamily.con K)] [] K (getBody []) 0⟩
theorem class_Why.eq (K : Nat) (x : PL class_Why.sig.ps) : evalF (class_Why.cx K) class_Why.sig (bodyOf Try.f12) class_Why.ht x = class_Why.f K x.1 x.2 := by kernel_rfl
theorem class_Why.fok (K : Nat) : FOK Try.prog class_Why.sig (fun x => class_Why.f K x.1 x.2) 12 := fok_of_eval (tt := tt) (cons := [(17, batch_Check.con K), (18, class_isFamily.con K)]) (exts := []) (bodies := (getBody [])) (K := K) (d := 0) ⟨ttok, (getCon_cons (batch_Check.ok K) (getCon_cons (class_isFamily.ok K) (fun _ _ => getCon_nil))), (fun _ _ => getExt_nil), (fun _ _ => getBody_nil)⟩ draw bok12 (class_Why.eq K)
theorem class_Why.ok (K : Nat) : ConOK Try.prog 12 (class_Why.con K) := con_ok bok12 (class_Why.fok K)

noncomputable def class_Is.f (K : Nat) (proto0 : Int) (b1 : List UInt8 × List (List UInt8 × Int × List UInt8 × List UInt8 × List (List (List UInt8 × List UInt8) × Int × Bool × Int × Int × Int × Int × Bool × Int))) : Option Bool :=
  (class_Why.f K proto0 b1).bind fun (r395, r396) =>
  some r396
def class_Is.sig : Sig := ⟨[(.c (.int .i64)), (.agg (.pair .str (.sl (.pair .str (.pair (.int .i64) (.pair .str (.pair .str (.sl (.pair (.sl (.pair .str .str)) (.pair (.int .i64) (.pair .bool (.pair (.int .i64) (.pair (.int .i64) (.pair (.int .i64) (.pair (.int .i64) (.pair .bool (.int .i64)))))))))))))))))], [(.c .bool)]⟩
noncomputable def class_Is.con (K : Nat) : Con := (mkCon class_Is.sig (fun x => class_Is.f K x.1 x.2))
noncomputable def class_Is.ht : HT := .nil
noncomputable def class_Is.cx (K : Nat) : Cx := ⟨tt, [(12, class_Why.con K)], [], K, inlOf tt [(12, class_Why.con K)] [] K (getBody []) 0⟩
theorem class_Is.eq (K : Nat) (x : PL class_Is.sig.ps) : evalF (class_Is.cx K) class_Is.sig (bodyOf Try.f10) class_Is.ht x = class_Is.f K x.1 x.2 := by kernel_rfl
theorem class_Is.fok (K : Nat) : FOK Try.prog class_Is.sig (fun x => class_Is.f K x.1 x.2) 10 := fok_of_eval (tt := tt) (cons := [(12, class_Why.con K)]) (exts := []) (bodies := (getBody [])) (K := K) (d := 0) ⟨ttok, (getCon_cons (class_Why.ok K) (fun _ _ => getCon_nil)), (fun _ _ => getExt_nil), (fun _ _ => getBody_nil)⟩ draw bok10 (class_Is.eq K)
theorem class_Is.ok (K : Nat) : ConOK Try.prog 10 (class_Is.con K) := con_ok bok10 (class_Is.fok K)

noncomputable def polyglotlaw16_one.f (K : Nat) (kind0 : Int) (p1 : List (List UInt8 × List UInt8) × Int × Bool × Int × Int × Int × Int × Bool × Int) : Option (List UInt8 × List (List UInt8 × Int × List UInt8 × List UInt8 × List (List (List UInt8 × List UInt8) × Int × Bool × Int × Int × Int × Int × Bool × Int))) :=
  some (([116] : List UInt8), ([(([97] : List UInt8), kind0, ([] : List UInt8), ([] : List UInt8), ([p1] : List (List (List UInt8 × List UInt8) × Int × Bool × Int × Int × Int × Int × Bool × Int)))] : List (List UInt8 × Int × List UInt8 × List UInt8 × List (List (List UInt8 × List UInt8) × Int × Bool × Int × Int × Int × Int × Bool × Int))))
def polyglotlaw16_one.sig : Sig := ⟨[(.c (.int .i64)), (.agg (.pair (.sl (.pair .str .str)) (.pair (.int .i64) (.pair .bool (.pair (.int .i64) (.pair (.int .i64) (.pair (.int .i64) (.pair (.int .i64) (.pair .bool (.int .i64))))))))))], [(.agg (.pair .str (.sl (.pair .str (.pair (.int .i64) (.pair .str (.pair .str (.sl (.pair (.sl (.pair .str .str)) (.pair (.int .i64) (.pair .bool (.pair (.int .i64) (.pair (.int .i64) (.pair (.int .i64) (.pair (.int .i64) (.pair .bool (.int .i64)))))))))))))))))]⟩
noncomputable def polyglotlaw16_one.con (K : Nat) : Con := (mkCon polyglotlaw16_one.sig (fun x => polyglotlaw16_one.f K x.1 x.2))
noncomputable def polyglotlaw16_one.ht : HT := .nil
noncomputable def polyglotlaw16_one.cx (K : Nat) : Cx := ⟨tt, [], [], K, inlOf tt [] [] K (getBody []) 0⟩
theorem polyglotlaw16_one.eq (K : Nat) (x : PL polyglotlaw16_one.sig.ps) : evalF (polyglotlaw16_one.cx K) polyglotlaw16_one.sig (bodyOf Try.f11) polyglotlaw16_one.ht x = polyglotlaw16_one.f K x.1 x.2 := by kernel_rfl
theorem polyglotlaw16_one.fok (K : Nat) : FOK Try.prog polyglotlaw16_one.sig (fun x => polyglotlaw16_one.f K x.1 x.2) 11 := fok_of_eval (tt := tt) (cons := []) (exts := []) (bodies := (getBody [])) (K := K) (d := 0) ⟨ttok, (fun _ _ => getCon_nil), (fun _ _ => getExt_nil), (fun _ _ => getBody_nil)⟩ draw bok11 (polyglotlaw16_one.eq K)
theorem polyglotlaw16_one.ok (K : Nat) : ConOK Try.prog 11 (polyglotlaw16_one.con K) := con_ok bok11 (polyglotlaw16_one.fok K)

noncomputable def polyglotlaw16_known.f (K : Nat) : Option Bool :=
  (polyglotlaw16_one.f K 3 (([] : List (List UInt8 × List UInt8)), 3, false, (0 : Int), (0 : Int), (0 : Int), (0 : Int), false, (0 : Int))).bind fun r397 =>
  (class_Why.f K 2 r397).bind fun (r398, r399) =>
  (class_Why.f K 9 r397).bind fun (r400, r401) =>
  (class_Is.f K 1 r397).bind fun r402 =>
  bif r402 then
    (class_Is.f K 2 r397).bind fun r403 =>
    bif !r403 then
      bif r398 == ([97] : List UInt8) then
        bif !r399 then
          bif r400 == ([] : List UInt8) then
            bif !r401 then
              (polyglotlaw16_one.f K 1 (([] : List (List UInt8 × List UInt8)), (0 : Int), false, (0 : Int), (0 : Int), (0 : Int), (0 : Int), false, (0 : Int))).bind fun r404 =>
              (class_Is.f K 2 r404).bind fun r405 =>
              bif r405 then
                (polyglotlaw16_one.f K 0 (([] : List (List UInt8 × List UInt8)), (0 : Int), false, (0 : Int), (0 : Int), (0 : Int), (0 : Int), true, 2000)).bind fun r406 =>
                (class_Is.f K 3 r406).bind fun r407 =>
                bif r407 then
                  (polyglotlaw16_one.f K 0 (([] : List (List UInt8 × List UInt8)), (0 : Int), false, (0 : Int), (0 : Int), (0 : Int), (0 : Int), false, (0 : Int))).bind fun r408 =>
                  (class_Is.f K 3 r408).bind fun r409 =>
                  bif !r409 then
                    (polyglotlaw16_one.f K 2 (([] : List (List UInt8 × List UInt8)), (0 : Int), false, (0 : Int), (0 : Int), (0 : Int), (0 : Int), false, (0 : Int))).bind fun r410 =>
                    (class_Is.f K 4 r410).bind fun r411 =>
                    bif r411 then
                      (class_Kinds.f K 4).bind fun r412 =>
                      bif (r412.length : Int) == 2 then
                        (class_Value.f K 1 ([] : List UInt8)).bind fun r413 =>
                        bif r413 then
                          (class_Value.f K 2 ([] : List UInt8)).bind fun r414 =>
                          some (!r414)
                        else some false
                      else some false
                    else some false
                  else some false
                else some false
              else some false
            else some false
          else some false
        else some false
      else some false
    else some false
  else some false
def polyglotlaw16_known.sig : Sig := ⟨[], [(.c .bool)]⟩
noncomputable def polyglotlaw16_known.con (K : Nat) : Con := (mkCon polyglotlaw16_known.sig (fun _ => polyglotlaw16_known.f K))
noncomputable def polyglotlaw16_known.ht : HT := .nil
noncomputable def polyglotlaw16_known.cx (K : Nat) : Cx := ⟨tt, [(11, polyglotlaw16_one.con K), (12, class_Why.con K), (10, class_Is.con K), (9, class_Kinds.con K), (8, class_Value.con K)], [], K, inlOf tt [(11, polyglotlaw16_one.con K), (12, class_Why.con K), (10, class_Is.con K), (9, class_Kinds.con K), (8, class_Value.con K)] [] K (getBody []) 0⟩
theorem polyglotlaw16_known.eq (K : Nat) (x : PL polyglotlaw16_known.sig.ps) : evalF (polyglotlaw16_known.cx K) polyglotlaw16_known.sig (bodyOf Try.f6) polyglotlaw16_known.ht x = polyglotlaw16_known.f K := by kernel_rfl
theorem polyglotlaw16_known.fok (K : Nat) : FOK Try.prog polyglotlaw16_known.sig (fun _ => polyglotlaw16_known.f K) 6 := fok_of_eval (tt := tt) (cons := [(11, polyglotlaw16_one.con K), (12, class_Why.con K), (10, class_Is.con K), (9, class_Kinds.con K), (8, class_Value.con K)]) (exts := []) (bodies := (getBody [])) (K := K) (d := 0) ⟨ttok, (getCon_cons (polyglotlaw16_one.ok K) (getCon_cons (class_Why.ok K) (getCon_cons (class_Is.ok K) (getCon_cons (class_Kinds.ok K) (getCon_cons (class_Value.ok K) (fun _ _ => getCon_nil)))))), (fun _ _ => getExt_nil), (fun _ _ => getBody_nil)⟩ draw bok6 (polyglotlaw16_known.eq K)
theorem polyglotlaw16_known.ok (K : Nat) : ConOK Try.prog 6 (polyglotlaw16_known.con K) := con_ok bok6 (polyglotlaw16_known.fok K)

noncomputable def polyglotlaw16_ClassHas.f (K : Nat) (proto0 : Int) (kind1 : Int) (v2 : Int) (name3 : List UInt8) (value4 : List UInt8) (ms5 : Int) : Option Bool :=
  (polyglotlaw16_known.f K).bind fun r415 =>
  bif !r415 then some false
  else
  (((
      bif decide ((name3.length : Int) > 100) then
        some true
      else some (decide ((value4.length : Int) > 100))) : Option Bool)).bind fun t416 =>
  bif t416 then some true
  else
  (((
      bif (IntKind.i64.wrap (Int.tmod kind1 5)) == 3 then some 4
      else
      bif (IntKind.i64.wrap (Int.tmod kind1 5)) == 4 then
        some 4
      else some 0) : Option Int)).bind fun role417 =>
  (((
      bif (IntKind.i64.wrap (Int.tmod kind1 5)) == 2 then some (([] : List (List UInt8 × List UInt8)), role417, false, (0 : Int), (0 : Int), bitOp .and .i64 (IntKind.i64.wrap (v2)) 65535, (0 : Int), false, (0 : Int))
      else
      bif (IntKind.i64.wrap (1 + (IntKind.i64.wrap (Int.tmod proto0 4)))) == 4 then
        some (([] : List (List UInt8 × List UInt8)), role417, false, (0 : Int), (0 : Int), bitOp .and .i64 (IntKind.i64.wrap (v2)) 65535, (0 : Int), false, (0 : Int))
      else some (([] : List (List UInt8 × List UInt8)), role417, false, (0 : Int), (0 : Int), IntKind.i64.wrap (v2), (0 : Int), false, (0 : Int))) : Option (List (List UInt8 × List UInt8) × Int × Bool × Int × Int × Int × Int × Bool × Int))).bind fun (b0_418, b0_419, b0_420, b0_421, b0_422, b0_423, b0_424, b0_425, b0_426) =>
  (((
      bif (IntKind.i64.wrap (1 + (IntKind.i64.wrap (Int.tmod proto0 4)))) != 4 then
        some (b0_418, b0_419, b0_420, b0_421, b0_422, b0_423, b0_424, true, IntKind.i64.wrap (1000 * (IntKind.i64.wrap (ms5))))
      else some (b0_418, b0_419, b0_420, b0_421, b0_422, b0_423, b0_424, b0_425, b0_426)) : Option (List (List UInt8 × List UInt8) × Int × Bool × Int × Int × Int × Int × Bool × Int))).bind fun (b0_427, b0_428, b0_429, b0_430, b0_431, b0_432, b0_433, b0_434, b0_435) =>
  (((
      (charset_Is.f K (IntKind.i64.wrap (1 + (IntKind.i64.wrap (Int.tmod proto0 4)))) 1 name3).bind fun r442 =>
      bif r442 then
        (class_Value.f K (IntKind.i64.wrap (1 + (IntKind.i64.wrap (Int.tmod proto0 4)))) value4).bind fun r443 =>
        bif r443 then
          some (([(name3, value4)] : List (List UInt8 × List UInt8)), b0_428, b0_429, b0_430, b0_431, b0_432, b0_433, b0_434, b0_435)
        else some (b0_427, b0_428, b0_429, b0_430, b0_431, b0_432, b0_433, b0_434, b0_435)
      else some (b0_427, b0_428, b0_429, b0_430, b0_431, b0_432, b0_433, b0_434, b0_435)) : Option (List (List UInt8 × List UInt8) × Int × Bool × Int × Int × Int × Int × Bool × Int))).bind fun (b0_444, b0_445, b0_446, b0_447, b0_448, b0_449, b0_450, b0_451, b0_452) =>
  (class_Kinds.f K (IntKind.i64.wrap (1 + (IntKind.i64.wrap (Int.tmod proto0 4))))).bind fun r453 =>
  ((loopN K (fun (s_ : Bool × Int) =>
    match s_ with
    | (in456, t457) =>
      bif decide (t457 < (r453.length : Int)) then
        bif idx t457 r453.length then
          bif in456 then
            some (.inl (true, IntKind.i64.wrap (t457 + 1)))
          else some (.inl ((r453.getD t457.toNat (0 : Int)) == (IntKind.i64.wrap (Int.tmod kind1 5)), IntKind.i64.wrap (t457 + 1)))
        else none
      else some (.inr in456)) (false, 0) : Option Bool)).bind fun in458 =>
  (polyglotlaw16_one.f K (IntKind.i64.wrap (Int.tmod kind1 5)) (b0_444, b0_445, b0_446, b0_447, b0_448, b0_449, b0_450, b0_451, b0_452)).bind fun r459 =>
  (class_Is.f K (IntKind.i64.wrap (1 + (IntKind.i64.wrap (Int.tmod proto0 4)))) r459).bind fun r460 =>
  some (r460 == in458)
def polyglotlaw16_ClassHas.sig : Sig := ⟨[(.c (.int .u8)), (.c (.int .u8)), (.c (.int .i32)), (.c .str), (.c .str), (.c (.int .i32))], [(.c .bool)]⟩
noncomputable def polyglotlaw16_ClassHas.con (K : Nat) : Con := (mkCon polyglotlaw16_ClassHas.sig (fun x => polyglotlaw16_ClassHas.f K x.1 x.2.1 x.2.2.1 x.2.2.2.1 x.2.2.2.2.1 x.2.2.2.2.2))
noncomputable def polyglotlaw16_ClassHas.ht : HT := .seq .nil (.seq .nil (.seq (.join ⟨13, [], [], ⟨[], []⟩, [(.normal, ⟨[(29, .c (.v .bool))], []⟩)]⟩ (.seq .nil .nil)) (.seq .nil (.seq .nil (.join ⟨15, [], [], ⟨[], []⟩, [(.normal, ⟨[(15, .c (.v (.int .i64)))], []⟩)]⟩ (.seq .nil (.seq .nil (.join ⟨17, [], [0], ⟨[], []⟩, [(.normal, ⟨[], [(0, .cells 27 [.v (.sl (.pair .str .str)), .v (.int .i64), .v .bool, .v (.int .i64), .v (.int .i64), .v (.int .i64), .v (.int .i64), .v .bool, .v (.int .i64)])]⟩)]⟩ (.seq .nil (.join ⟨17, [], [0], ⟨[], []⟩, [(.normal, ⟨[], [(0, .cells 27 [.v (.sl (.pair .str .str)), .v (.int .i64), .v .bool, .v (.int .i64), .v (.int .i64), .v (.int .i64), .v (.int .i64), .v .bool, .v (.int .i64)])]⟩)]⟩ (.seq .nil (.join ⟨17, [], [0], ⟨[], []⟩, [(.normal, ⟨[], [(0, .cells 27 [.v (.sl (.pair .str .str)), .v (.int .i64), .v .bool, .v (.int .i64), .v (.int .i64), .v (.int .i64), .v (.int .i64), .v .bool, .v (.int .i64)])]⟩)]⟩ (.seq .nil (.seq .nil (.seq (.seq .nil (.block (.loop ⟨82, [17, 19], [], ⟨[(17, .c (.v .bool)), (82, .c (.v (.int .i64)))], []⟩, [(.exit 0, ⟨[(17, .c (.v .bool))], []⟩)]⟩ .nil))) .nil)))))))))))))))
noncomputable def polyglotlaw16_ClassHas.cx (K : Nat) : Cx := ⟨tt, [(6, polyglotlaw16_known.con K), (7, charset_Is.con K), (8, class_Value.con K), (9, class_Kinds.con K), (11, polyglotlaw16_one.con K), (10, class_Is.con K)], [], K, inlOf tt [(6, polyglotlaw16_known.con K), (7, charset_Is.con K), (8, class_Value.con K), (9, class_Kinds.con K), (11, polyglotlaw16_one.con K), (10, class_Is.con K)] [] K (getBody []) 0⟩
theorem polyglotlaw16_ClassHas.eq (K : Nat) (x : PL polyglotlaw16_ClassHas.sig.ps) : evalF (polyglotlaw16_ClassHas.cx K) polyglotlaw16_ClassHas.sig (bodyOf Try.f3) polyglotlaw16_ClassHas.ht x = polyglotlaw16_ClassHas.f K x.1 x.2.1 x.2.2.1 x.2.2.2.1 x.2.2.2.2.1 x.2.2.2.2.2 := by kernel_rfl
theorem polyglotlaw16_ClassHas.fok (K : Nat) : FOK Try.prog polyglotlaw16_ClassHas.sig (fun x => polyglotlaw16_ClassHas.f K x.1 x.2.1 x.2.2.1 x.2.2.2.1 x.2.2.2.2.1 x.2.2.2.2.2) 3 := fok_of_eval (tt := tt) (cons := [(6, polyglotlaw16_known.con K), (7, charset_Is.con K), (8, class_Value.con K), (9, class_Kinds.con K), (11, polyglotlaw16_one.con K), (10, class_Is.con K)]) (exts := []) (bodies := (getBody [])) (K := K) (d := 0) ⟨ttok, (getCon_cons (polyglotlaw16_known.ok K) (getCon_cons (charset_Is.ok K) (getCon_cons (class_Value.ok K) (getCon_cons (class_Kinds.ok K) (getCon_cons (polyglotlaw16_one.ok K) (getCon_cons (class_Is.ok K) (fun _ _ => getCon_nil))))))), (fun _ _ => getExt_nil), (fun _ _ => getBody_nil)⟩ draw bok3 (polyglotlaw16_ClassHas.eq K)
theorem polyglotlaw16_ClassHas.ok (K : Nat) : ConOK Try.prog 3 (polyglotlaw16_ClassHas.con K) := con_ok bok3 (polyglotlaw16_ClassHas.fok K)

noncomputable def polyglotlaw16_ClassValues.f (K : Nat) (c0 : Int) : Option Bool :=
  (polyglotlaw16_known.f K).bind fun r461 =>
  bif !r461 then some false
  else
  (((
      bif decide (c0 ≥ 33) then
        some (decide (c0 ≤ 126))
      else some false) : Option Bool)).bind fun seen462 =>
  bif decide (0 ≤ 61) && decide (61 ≤ 61) && decide (61 * (1 : Int) ≤ (LIM : Int)) && decide (61 ≤ (LIM : Int)) then
    (((
        (class_Value.f K 1 (bytesOf ([c0] : List Int))).bind fun r471 =>
        bif r471 == (decide (c0 < 128)) then
          (class_Value.f K 2 (bytesOf ([c0] : List Int))).bind fun r472 =>
          bif decide (c0 ≥ 32) then
            bif decide (c0 < 127) then
              bif r472 == (c0 != 92) then
                (class_Value.f K 3 (bytesOf ([c0] : List Int))).bind fun r473 =>
                bif seen462 then
                  bif r473 == (c0 != 59) then
                    (class_Value.f K 4 (bytesOf ([c0] : List Int))).bind fun r474 =>
                    bif seen462 then
                      bif c0 != 44 then
                        bif r474 == (c0 != 124) then
                          (class_Value.f K 1 (bytesOf (List.replicate 61 (0 : Int) : List Int))).bind fun r475 =>
                          bif !r475 then
                            (class_Value.f K 0 ([97] : List UInt8)).bind fun r476 =>
                            bif !r476 then
                              (class_Value.f K 2 ([195, 169] : List UInt8)).bind fun r477 =>
                              bif r477 then
                                (class_Value.f K 3 ([195, 169] : List UInt8)).bind fun r478 =>
                                some (!r478)
                              else some false
                            else some false
                          else some false
                        else some false
                      else
                      bif r474 == false then
                        (class_Value.f K 1 (bytesOf (List.replicate 61 (0 : Int) : List Int))).bind fun r479 =>
                        bif !r479 then
                          (class_Value.f K 0 ([97] : List UInt8)).bind fun r480 =>
                          bif !r480 then
                            (class_Value.f K 2 ([195, 169] : List UInt8)).bind fun r481 =>
                            bif r481 then
                              (class_Value.f K 3 ([195, 169] : List UInt8)).bind fun r482 =>
                              some (!r482)
                            else some false
                          else some false
                        else some false
                      else some false
                    else
                    bif r474 == false then
                      (class_Value.f K 1 (bytesOf (List.replicate 61 (0 : Int) : List Int))).bind fun r483 =>
                      bif !r483 then
                        (class_Value.f K 0 ([97] : List UInt8)).bind fun r484 =>
                        bif !r484 then
                          (class_Value.f K 2 ([195, 169] : List UInt8)).bind fun r485 =>
                          bif r485 then
                            (class_Value.f K 3 ([195, 169] : List UInt8)).bind fun r486 =>
                            some (!r486)
                          else some false
                        else some false
                      else some false
                    else some false
                  else some false
                else
                bif r473 == false then
                  (class_Value.f K 4 (bytesOf ([c0] : List Int))).bind fun r487 =>
                  bif seen462 then
                    bif c0 != 44 then
                      bif r487 == (c0 != 124) then
                        (class_Value.f K 1 (bytesOf (List.replicate 61 (0 : Int) : List Int))).bind fun r488 =>
                        bif !r488 then
                          (class_Value.f K 0 ([97] : List UInt8)).bind fun r489 =>
                          bif !r489 then
                            (class_Value.f K 2 ([195, 169] : List UInt8)).bind fun r490 =>
                            bif r490 then
                              (class_Value.f K 3 ([195, 169] : List UInt8)).bind fun r491 =>
                              some (!r491)
                            else some false
                          else some false
                        else some false
                      else some false
                    else
                    bif r487 == false then
                      (class_Value.f K 1 (bytesOf (List.replicate 61 (0 : Int) : List Int))).bind fun r492 =>
                      bif !r492 then
                        (class_Value.f K 0 ([97] : List UInt8)).bind fun r493 =>
                        bif !r493 then
                          (class_Value.f K 2 ([195, 169] : List UInt8)).bind fun r494 =>
                          bif r494 then
                            (class_Value.f K 3 ([195, 169] : List UInt8)).bind fun r495 =>
                            some (!r495)
                          else some false
                        else some false
                      else some false
                    else some false
                  else
                  bif r487 == false then
                    (class_Value.f K 1 (bytesOf (List.replicate 61 (0 : Int) : List Int))).bind fun r496 =>
                    bif !r496 then
                      (class_Value.f K 0 ([97] : List UInt8)).bind fun r497 =>
                      bif !r497 then
                        (class_Value.f K 2 ([195, 169] : List UInt8)).bind fun r498 =>
                        bif r498 then
                          (class_Value.f K 3 ([195, 169] : List UInt8)).bind fun r499 =>
                          some (!r499)
                        else some false
                      else some false
                    else some false
                  else some false
                else some false
              else some false
            else
            bif r472 == false then
              (class_Value.f K 3 (bytesOf ([c0] : List Int))).bind fun r500 =>
              bif seen462 then
                bif r500 == (c0 != 59) then
                  (class_Value.f K 4 (bytesOf ([c0] : List Int))).bind fun r501 =>
                  bif seen462 then
                    bif c0 != 44 then
                      bif r501 == (c0 != 124) then
                        (class_Value.f K 1 (bytesOf (List.replicate 61 (0 : Int) : List Int))).bind fun r502 =>
                        bif !r502 then
                          (class_Value.f K 0 ([97] : List UInt8)).bind fun r503 =>
                          bif !r503 then
                            (class_Value.f K 2 ([195, 169] : List UInt8)).bind fun r504 =>
                            bif r504 then
                              (class_Value.f K 3 ([195, 169] : List UInt8)).bind fun r505 =>
                              some (!r505)
                            else some false
                          else some false
                        else some false
                      else some false
                    else
                    bif r501 == false then
                      (class_Value.f K 1 (bytesOf (List.replicate 61 (0 : Int) : List Int))).bind fun r506 =>
                      bif !r506 then
                        (class_Value.f K 0 ([97] : List UInt8)).bind fun r507 =>
                        bif !r507 then
                          (class_Value.f K 2 ([195, 169] : List UInt8)).bind fun r508 =>
                          bif r508 then
                            (class_Value.f K 3 ([195, 169] : List UInt8)).bind fun r509 =>
                            some (!r509)
                          else some false
                        else some false
                      else some false
                    else some false
                  else
                  bif r501 == false then
                    (class_Value.f K 1 (bytesOf (List.replicate 61 (0 : Int) : List Int))).bind fun r510 =>
                    bif !r510 then
                      (class_Value.f K 0 ([97] : List UInt8)).bind fun r511 =>
                      bif !r511 then
                        (class_Value.f K 2 ([195, 169] : List UInt8)).bind fun r512 =>
                        bif r512 then
                          (class_Value.f K 3 ([195, 169] : List UInt8)).bind fun r513 =>
                          some (!r513)
                        else some false
                      else some false
                    else some false
                  else some false
                else some false
              else
              bif r500 == false then
                (class_Value.f K 4 (bytesOf ([c0] : List Int))).bind fun r514 =>
                bif seen462 then
                  bif c0 != 44 then
                    bif r514 == (c0 != 124) then
                      (class_Value.f K 1 (bytesOf (List.replicate 61 (0 : Int) : List Int))).bind fun r515 =>
                      bif !r515 then
                        (class_Value.f K 0 ([97] : List UInt8)).bind fun r516 =>
                        bif !r516 then
                          (class_Value.f K 2 ([195, 169] : List UInt8)).bind fun r517 =>
                          bif r517 then
                            (class_Value.f K 3 ([195, 169] : List UInt8)).bind fun r518 =>
                            some (!r518)
                          else some false
                        else some false
                      else some false
                    else some false
                  else
                  bif r514 == false then
                    (class_Value.f K 1 (bytesOf (List.replicate 61 (0 : Int) : List Int))).bind fun r519 =>
                    bif !r519 then
                      (class_Value.f K 0 ([97] : List UInt8)).bind fun r520 =>
                      bif !r520 then
                        (class_Value.f K 2 ([195, 169] : List UInt8)).bind fun r521 =>
                        bif r521 then
                          (class_Value.f K 3 ([195, 169] : List UInt8)).bind fun r522 =>
                          some (!r522)
                        else some false
                      else some false
                    else some false
                  else some false
                else
                bif r514 == false then
                  (class_Value.f K 1 (bytesOf (List.replicate 61 (0 : Int) : List Int))).bind fun r523 =>
                  bif !r523 then
                    (class_Value.f K 0 ([97] : List UInt8)).bind fun r524 =>
                    bif !r524 then
                      (class_Value.f K 2 ([195, 169] : List UInt8)).bind fun r525 =>
                      bif r525 then
                        (class_Value.f K 3 ([195, 169] : List UInt8)).bind fun r526 =>
                        some (!r526)
                      else some false
                    else some false
                  else some false
                else some false
              else some false
            else some false
          else
          bif r472 == false then
            (class_Value.f K 3 (bytesOf ([c0] : List Int))).bind fun r527 =>
            bif seen462 then
              bif r527 == (c0 != 59) then
                (class_Value.f K 4 (bytesOf ([c0] : List Int))).bind fun r528 =>
                bif seen462 then
                  bif c0 != 44 then
                    bif r528 == (c0 != 124) then
                      (class_Value.f K 1 (bytesOf (List.replicate 61 (0 : Int) : List Int))).bind fun r529 =>
                      bif !r529 then
                        (class_Value.f K 0 ([97] : List UInt8)).bind fun r530 =>
                        bif !r530 then
                          (class_Value.f K 2 ([195, 169] : List UInt8)).bind fun r531 =>
                          bif r531 then
                            (class_Value.f K 3 ([195, 169] : List UInt8)).bind fun r532 =>
                            some (!r532)
                          else some false
                        else some false
                      else some false
                    else some false
                  else
                  bif r528 == false then
                    (class_Value.f K 1 (bytesOf (List.replicate 61 (0 : Int) : List Int))).bind fun r533 =>
                    bif !r533 then
                      (class_Value.f K 0 ([97] : List UInt8)).bind fun r534 =>
                      bif !r534 then
                        (class_Value.f K 2 ([195, 169] : List UInt8)).bind fun r535 =>
                        bif r535 then
                          (class_Value.f K 3 ([195, 169] : List UInt8)).bind fun r536 =>
                          some (!r536)
                        else some false
                      else some false
                    else some false
                  else some false
                else
                bif r528 == false then
                  (class_Value.f K 1 (bytesOf (List.replicate 61 (0 : Int) : List Int))).bind fun r537 =>
                  bif !r537 then
                    (class_Value.f K 0 ([97] : List UInt8)).bind fun r538 =>
                    bif !r538 then
                      (class_Value.f K 2 ([195, 169] : List UInt8)).bind fun r539 =>
                      bif r539 then
                        (class_Value.f K 3 ([195, 169] : List UInt8)).bind fun r540 =>
                        some (!r540)
                      else some false
                    else some false
                  else some false
                else some false
              else some false
            else
            bif r527 == false then
              (class_Value.f K 4 (bytesOf ([c0] : List Int))).bind fun r541 =>
              bif seen462 then
                bif c0 != 44 then
                  bif r541 == (c0 != 124) then
                    (class_Value.f K 1 (bytesOf (List.replicate 61 (0 : Int) : List Int))).bind fun r542 =>
                    bif !r542 then
                      (class_Value.f K 0 ([97] : List UInt8)).bind fun r543 =>
                      bif !r543 then
                        (class_Value.f K 2 ([195, 169] : List UInt8)).bind fun r544 =>
                        bif r544 then
                          (class_Value.f K 3 ([195, 169] : List UInt8)).bind fun r545 =>
                          some (!r545)
                        else some false
                      else some false
                    else some false
                  else some false
                else
                bif r541 == false then
                  (class_Value.f K 1 (bytesOf (List.replicate 61 (0 : Int) : List Int))).bind fun r546 =>
                  bif !r546 then
                    (class_Value.f K 0 ([97] : List UInt8)).bind fun r547 =>
                    bif !r547 then
                      (class_Value.f K 2 ([195, 169] : List UInt8)).bind fun r548 =>
                      bif r548 then
                        (class_Value.f K 3 ([195, 169] : List UInt8)).bind fun r549 =>
                        some (!r549)
                      else some false
                    else some false
                  else some false
                else some false
              else
              bif r541 == false then
                (class_Value.f K 1 (bytesOf (List.replicate 61 (0 : Int) : List Int))).bind fun r550 =>
                bif !r550 then
                  (class_Value.f K 0 ([97] : List UInt8)).bind fun r551 =>
                  bif !r551 then
                    (class_Value.f K 2 ([195, 169] : List UInt8)).bind fun r552 =>
                    bif r552 then
                      (class_Value.f K 3 ([195, 169] : List UInt8)).bind fun r553 =>
                      some (!r553)
                    else some false
                  else some false
                else some false
              else some false
            else some false
          else some false
        else some false) : Option Bool)).bind fun t554 =>
    some t554
  else none
def polyglotlaw16_ClassValues.sig : Sig := ⟨[(.c (.int .u8))], [(.c .bool)]⟩
noncomputable def polyglotlaw16_ClassValues.con (K : Nat) : Con := (mkCon polyglotlaw16_ClassValues.sig (fun x => polyglotlaw16_ClassValues.f K x))
noncomputable def polyglotlaw16_ClassValues.ht : HT := .seq .nil (.seq .nil (.seq .nil (.join ⟨4, [], [], ⟨[], []⟩, [(.normal, ⟨[(4, .c (.v .bool))], []⟩)]⟩ (.seq .nil (.seq .nil (.join ⟨0, [], [], ⟨[], []⟩, [(.normal, ⟨[(2, .c (.v .bool))], []⟩)]⟩ (.seq .nil .nil)))))))
noncomputable def polyglotlaw16_ClassValues.cx (K : Nat) : Cx := ⟨tt, [(6, polyglotlaw16_known.con K), (8, class_Value.con K)], [], K, inlOf tt [(6, polyglotlaw16_known.con K), (8, class_Value.con K)] [] K (getBody []) 0⟩
theorem polyglotlaw16_ClassValues.eq (K : Nat) (x : PL polyglotlaw16_ClassValues.sig.ps) : evalF (polyglotlaw16_ClassValues.cx K) polyglotlaw16_ClassValues.sig (bodyOf Try.f5) polyglotlaw16_ClassValues.ht x = polyglotlaw16_ClassValues.f K x := by kernel_rfl
theorem polyglotlaw16_ClassValues.fok (K : Nat) : FOK Try.prog polyglotlaw16_ClassValues.sig (fun x => polyglotlaw16_ClassValues.f K x) 5 := fok_of_eval (tt := tt) (cons := [(6, polyglotlaw16_known.con K), (8, class_Value.con K)]) (exts := []) (bodies := (getBody [])) (K := K) (d := 0) ⟨ttok, (getCon_cons (polyglotlaw16_known.ok K) (getCon_cons (class_Value.ok K) (fun _ _ => getCon_nil))), (fun _ _ => getExt_nil), (fun _ _ => getBody_nil)⟩ draw bok5 (polyglotlaw16_ClassValues.eq K)
theorem polyglotlaw16_ClassValues.ok (K : Nat) : ConOK Try.prog 5 (polyglotlaw16_ClassValues.con K) := con_ok bok5 (polyglotlaw16_ClassValues.fok K)

end Go.Proofs.Ytclmdnfkdpdacaa
