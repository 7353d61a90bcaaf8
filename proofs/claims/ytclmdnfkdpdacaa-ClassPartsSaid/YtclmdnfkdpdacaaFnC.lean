/- What each function of the program comes to, and that it does, part 3. -/
import Derived.Test.YtclmdnfkdpdacaaFnB
import Derived.KernelRfl
set_option linter.unusedVariables false
namespace Go.Proofs.Ytclmdnfkdpdacaa
open Go Go.Rf Go.Proofs Go.RowKit

noncomputable def charset_Bad.f (K : Nat) (proto0 : Int) (what1 : Int) (s2 : List UInt8) : Option Int :=
  ((loopN K (fun (s_ : Int) =>
    match s_ with
    | t334 =>
      bif decide (t334 < (s2.length : Int)) then
        (charset_Legal.f K proto0 what1 s2 t334).bind fun r335 =>
        bif !r335 then
          some (.inr (.inr t334))
        else some (.inl (IntKind.i64.wrap (t334 + 1)))
      else some (.inr (.inl ()))) 0 : Option (Unit ⊕ Int))).bind fun e_ =>
  match e_ with
  | .inl _ =>
    some (-1)
  | .inr t336 =>
    some t336
def charset_Bad.sig : Sig := ⟨[(.c (.int .i64)), (.c (.int .i64)), (.c .str)], [(.c (.int .i64))]⟩
noncomputable def charset_Bad.con (K : Nat) : Con := (mkCon charset_Bad.sig (fun x => charset_Bad.f K x.1 x.2.1 x.2.2))
noncomputable def charset_Bad.ht : HT := .seq .nil (.seq (.seq .nil (.block (.loop ⟨10, [6, 7], [], ⟨[(10, .c (.v (.int .i64)))], []⟩, [(.exit 0, ⟨[], []⟩), (.ret, ⟨[(6, .c (.v (.int .i64)))], []⟩)]⟩ .nil))) .nil)
noncomputable def charset_Bad.cx (K : Nat) : Cx := ⟨tt, [(19, charset_Legal.con K)], [], K, inlOf tt [(19, charset_Legal.con K)] [] K (getBody []) 0⟩
theorem charset_Bad.eq (K : Nat) (x : PL charset_Bad.sig.ps) : evalF (charset_Bad.cx K) charset_Bad.sig (bodyOf Try.f13) charset_Bad.ht x = charset_Bad.f K x.1 x.2.1 x.2.2 := by kernel_rfl
theorem charset_Bad.fok (K : Nat) : FOK Try.prog charset_Bad.sig (fun x => charset_Bad.f K x.1 x.2.1 x.2.2) 13 := fok_of_eval (tt := tt) (cons := [(19, charset_Legal.con K)]) (exts := []) (bodies := (getBody [])) (K := K) (d := 0) ⟨ttok, (getCon_cons (charset_Legal.ok K) (fun _ _ => getCon_nil)), (fun _ _ => getExt_nil), (fun _ _ => getBody_nil)⟩ draw bok13 (charset_Bad.eq K)
theorem charset_Bad.ok (K : Nat) : ConOK Try.prog 13 (charset_Bad.con K) := con_ok bok13 (charset_Bad.fok K)

noncomputable def charset_Is.f (K : Nat) (proto0 : Int) (what1 : Int) (s2 : List UInt8) : Option Bool :=
  bif !(s2 == ([] : List UInt8)) then
    bif decide ((s2.length : Int) ≤ 60) then
      (charset_Bad.f K proto0 what1 s2).bind fun r337 =>
      some (decide (r337 < 0))
    else some false
  else some false
def charset_Is.sig : Sig := ⟨[(.c (.int .i64)), (.c (.int .i64)), (.c .str)], [(.c .bool)]⟩
noncomputable def charset_Is.con (K : Nat) : Con := (mkCon charset_Is.sig (fun x => charset_Is.f K x.1 x.2.1 x.2.2))
noncomputable def charset_Is.ht : HT := .nil
noncomputable def charset_Is.cx (K : Nat) : Cx := ⟨tt, [(13, charset_Bad.con K)], [], K, inlOf tt [(13, charset_Bad.con K)] [] K (getBody []) 0⟩
theorem charset_Is.eq (K : Nat) (x : PL charset_Is.sig.ps) : evalF (charset_Is.cx K) charset_Is.sig (bodyOf Try.f7) charset_Is.ht x = charset_Is.f K x.1 x.2.1 x.2.2 := by kernel_rfl
theorem charset_Is.fok (K : Nat) : FOK Try.prog charset_Is.sig (fun x => charset_Is.f K x.1 x.2.1 x.2.2) 7 := fok_of_eval (tt := tt) (cons := [(13, charset_Bad.con K)]) (exts := []) (bodies := (getBody [])) (K := K) (d := 0) ⟨ttok, (getCon_cons (charset_Bad.ok K) (fun _ _ => getCon_nil)), (fun _ _ => getExt_nil), (fun _ _ => getBody_nil)⟩ draw bok7 (charset_Is.eq K)
theorem charset_Is.ok (K : Nat) : ConOK Try.prog 7 (charset_Is.con K) := con_ok bok7 (charset_Is.fok K)

noncomputable def stringslite_HasSuffix.f (K : Nat) (s0 : List UInt8) (suffix1 : List UInt8) : Option Bool :=
  bif decide ((s0.length : Int) ≥ (suffix1.length : Int)) then
    bif (decide (0 ≤ (IntKind.i64.wrap ((s0.length : Int) - (suffix1.length : Int))))) && (decide ((IntKind.i64.wrap ((s0.length : Int) - (suffix1.length : Int))) ≤ (s0.length : Int))) then
      some (((s0.take s0.length).drop ((IntKind.i64.wrap ((s0.length : Int) - (suffix1.length : Int))).toNat)) == suffix1)
    else none
  else some false
def stringslite_HasSuffix.sig : Sig := ⟨[(.c .str), (.c .str)], [(.c .bool)]⟩
noncomputable def stringslite_HasSuffix.con (K : Nat) : Con := (mkCon stringslite_HasSuffix.sig (fun x => stringslite_HasSuffix.f K x.1 x.2))
noncomputable def stringslite_HasSuffix.ht : HT := .nil
noncomputable def stringslite_HasSuffix.cx (K : Nat) : Cx := ⟨tt, [], [], K, inlOf tt [] [] K (getBody []) 0⟩
theorem stringslite_HasSuffix.eq (K : Nat) (x : PL stringslite_HasSuffix.sig.ps) : evalF (stringslite_HasSuffix.cx K) stringslite_HasSuffix.sig (bodyOf Try.f64) stringslite_HasSuffix.ht x = stringslite_HasSuffix.f K x.1 x.2 := by kernel_rfl
theorem stringslite_HasSuffix.fok (K : Nat) : FOK Try.prog stringslite_HasSuffix.sig (fun x => stringslite_HasSuffix.f K x.1 x.2) 64 := fok_of_eval (tt := tt) (cons := []) (exts := []) (bodies := (getBody [])) (K := K) (d := 0) ⟨ttok, (fun _ _ => getCon_nil), (fun _ _ => getExt_nil), (fun _ _ => getBody_nil)⟩ draw bok64 (stringslite_HasSuffix.eq K)
theorem stringslite_HasSuffix.ok (K : Nat) : ConOK Try.prog 64 (stringslite_HasSuffix.con K) := con_ok bok64 (stringslite_HasSuffix.fok K)

noncomputable def strings_HasSuffix.f (K : Nat) (s0 : List UInt8) (suffix1 : List UInt8) : Option Bool :=
  (stringslite_HasSuffix.f K s0 suffix1).bind fun r338 =>
  some r338
def strings_HasSuffix.sig : Sig := ⟨[(.c .str), (.c .str)], [(.c .bool)]⟩
noncomputable def strings_HasSuffix.con (K : Nat) : Con := (mkCon strings_HasSuffix.sig (fun x => strings_HasSuffix.f K x.1 x.2))
noncomputable def strings_HasSuffix.ht : HT := .nil
noncomputable def strings_HasSuffix.cx (K : Nat) : Cx := ⟨tt, [(64, stringslite_HasSuffix.con K)], [], K, inlOf tt [(64, stringslite_HasSuffix.con K)] [] K (getBody []) 0⟩
theorem strings_HasSuffix.eq (K : Nat) (x : PL strings_HasSuffix.sig.ps) : evalF (strings_HasSuffix.cx K) strings_HasSuffix.sig (bodyOf Try.f47) strings_HasSuffix.ht x = strings_HasSuffix.f K x.1 x.2 := by kernel_rfl
theorem strings_HasSuffix.fok (K : Nat) : FOK Try.prog strings_HasSuffix.sig (fun x => strings_HasSuffix.f K x.1 x.2) 47 := fok_of_eval (tt := tt) (cons := [(64, stringslite_HasSuffix.con K)]) (exts := []) (bodies := (getBody [])) (K := K) (d := 0) ⟨ttok, (getCon_cons (stringslite_HasSuffix.ok K) (fun _ _ => getCon_nil)), (fun _ _ => getExt_nil), (fun _ _ => getBody_nil)⟩ draw bok47 (strings_HasSuffix.eq K)
theorem strings_HasSuffix.ok (K : Nat) : ConOK Try.prog 47 (strings_HasSuffix.con K) := con_ok bok47 (strings_HasSuffix.fok K)

noncomputable def class_isUnit.f (K : Nat) (h0 : List UInt8 × Int × List UInt8 × List UInt8) : Option Bool :=
  ((loopN K (fun (s_ : Int) =>
    match s_ with
    | t343 =>
      bif decide (t343 < (h0.2.2.1.length : Int)) then
        bif decide (([95] : List UInt8).length + h0.2.2.1.length ≤ LIM) then
          (charset_Legal.f K 1 0 (([95] : List UInt8) ++ h0.2.2.1) (IntKind.i64.wrap (t343 + 1))).bind fun r344 =>
          bif !r344 then
            some (.inr (.inr false))
          else some (.inl (IntKind.i64.wrap (t343 + 1)))
        else none
      else some (.inr (.inl ()))) 0 : Option (Unit ⊕ Bool))).bind fun e_ =>
  match e_ with
  | .inl _ =>
    bif h0.2.2.1 == ([] : List UInt8) then some true
    else
    bif decide (([95] : List UInt8).length + h0.2.2.1.length ≤ LIM) then
      (strings_HasSuffix.f K h0.1 (([95] : List UInt8) ++ h0.2.2.1)).bind fun r345 =>
      some r345
    else none
  | .inr t346 =>
    some t346
def class_isUnit.sig : Sig := ⟨[(.agg (.pair .str (.pair (.int .i64) (.pair .str .str))))], [(.c .bool)]⟩
noncomputable def class_isUnit.con (K : Nat) : Con := (mkCon class_isUnit.sig (fun x => class_isUnit.f K x))
noncomputable def class_isUnit.ht : HT := .seq .nil (.seq (.seq .nil (.block (.loop ⟨7, [2, 3], [], ⟨[(7, .c (.v (.int .i64)))], []⟩, [(.exit 0, ⟨[], []⟩), (.ret, ⟨[(2, .c (.v .bool))], []⟩)]⟩ .nil))) .nil)
noncomputable def class_isUnit.cx (K : Nat) : Cx := ⟨tt, [(19, charset_Legal.con K), (47, strings_HasSuffix.con K)], [], K, inlOf tt [(19, charset_Legal.con K), (47, strings_HasSuffix.con K)] [] K (getBody []) 0⟩
theorem class_isUnit.eq (K : Nat) (x : PL class_isUnit.sig.ps) : evalF (class_isUnit.cx K) class_isUnit.sig (bodyOf Try.f30) class_isUnit.ht x = class_isUnit.f K x := by kernel_rfl
theorem class_isUnit.fok (K : Nat) : FOK Try.prog class_isUnit.sig (fun x => class_isUnit.f K x) 30 := fok_of_eval (tt := tt) (cons := [(19, charset_Legal.con K), (47, strings_HasSuffix.con K)]) (exts := []) (bodies := (getBody [])) (K := K) (d := 0) ⟨ttok, (getCon_cons (charset_Legal.ok K) (getCon_cons (strings_HasSuffix.ok K) (fun _ _ => getCon_nil))), (fun _ _ => getExt_nil), (fun _ _ => getBody_nil)⟩ draw bok30 (class_isUnit.eq K)
theorem class_isUnit.ok (K : Nat) : ConOK Try.prog 30 (class_isUnit.con K) := con_ok bok30 (class_isUnit.fok K)

noncomputable def stamp_unitOf.f (K : Nat) (n0 : Int) : Option ((Int × Int) × Bool) :=
  bif decide (n0 < 0) then some (((0 : Int), (0 : Int)), false)
  else
  bif decide (n0 ≥ 4) then some (((0 : Int), (0 : Int)), false)
  else
  bif idx n0 4 then
    bif decide (n0.toNat < 4) then
      some ((([(1000, 1), (1, 1), (1, 1000), (1, 1000000)] : List (Int × Int)).getD n0.toNat ((0 : Int), (0 : Int))), true)
    else none
  else none
def stamp_unitOf.sig : Sig := ⟨[(.c (.int .i64))], [(.agg (.pair (.int .i64) (.int .i64))), (.c .bool)]⟩
noncomputable def stamp_unitOf.con (K : Nat) : Con := (mkCon stamp_unitOf.sig (fun x => stamp_unitOf.f K x))
noncomputable def stamp_unitOf.ht : HT := .nil
noncomputable def stamp_unitOf.cx (K : Nat) : Cx := ⟨tt, [], [], K, inlOf tt [] [] K (getBody []) 0⟩
theorem stamp_unitOf.eq (K : Nat) (x : PL stamp_unitOf.sig.ps) : evalF (stamp_unitOf.cx K) stamp_unitOf.sig (bodyOf Try.f65) stamp_unitOf.ht x = stamp_unitOf.f K x := by kernel_rfl
theorem stamp_unitOf.fok (K : Nat) : FOK Try.prog stamp_unitOf.sig (fun x => stamp_unitOf.f K x) 65 := fok_of_eval (tt := tt) (cons := []) (exts := []) (bodies := (getBody [])) (K := K) (d := 0) ⟨ttok, (fun _ _ => getCon_nil), (fun _ _ => getExt_nil), (fun _ _ => getBody_nil)⟩ draw bok65 (stamp_unitOf.eq K)
theorem stamp_unitOf.ok (K : Nat) : ConOK Try.prog 65 (stamp_unitOf.con K) := con_ok bok65 (stamp_unitOf.fok K)

noncomputable def stamp_isTime.f (K : Nat) (ms0 : Int) : Option Bool :=
  bif decide (ms0 ≥ (-1125899906842624)) then
    some (decide (ms0 ≤ 1125899906842624))
  else some false
def stamp_isTime.sig : Sig := ⟨[(.c (.int .i64))], [(.c .bool)]⟩
noncomputable def stamp_isTime.con (K : Nat) : Con := (mkCon stamp_isTime.sig (fun x => stamp_isTime.f K x))
noncomputable def stamp_isTime.ht : HT := .nil
noncomputable def stamp_isTime.cx (K : Nat) : Cx := ⟨tt, [], [], K, inlOf tt [] [] K (getBody []) 0⟩
theorem stamp_isTime.eq (K : Nat) (x : PL stamp_isTime.sig.ps) : evalF (stamp_isTime.cx K) stamp_isTime.sig (bodyOf Try.f66) stamp_isTime.ht x = stamp_isTime.f K x := by kernel_rfl
theorem stamp_isTime.fok (K : Nat) : FOK Try.prog stamp_isTime.sig (fun x => stamp_isTime.f K x) 66 := fok_of_eval (tt := tt) (cons := []) (exts := []) (bodies := (getBody [])) (K := K) (d := 0) ⟨ttok, (fun _ _ => getCon_nil), (fun _ _ => getExt_nil), (fun _ _ => getBody_nil)⟩ draw bok66 (stamp_isTime.eq K)
theorem stamp_isTime.ok (K : Nat) : ConOK Try.prog 66 (stamp_isTime.con K) := con_ok bok66 (stamp_isTime.fok K)

noncomputable def stamp_Of.f (K : Nat) (ms0 : Int) (by1 : Int) : Option (Int × Bool) :=
  (stamp_unitOf.f K by1).bind fun (r347, r348) =>
  (((
      bif !r348 then some true
      else
      (stamp_isTime.f K ms0).bind fun r349 =>
      bif !r349 then some true
      else
      bif r347.1 != 0 then
        some ((Int.tmod ms0 r347.1) != 0)
      else none) : Option Bool)).bind fun t350 =>
  bif t350 then some (0, false)
  else
  bif r347.1 != 0 then
    bif r347.2 != 0 then
      bif decide ((IntKind.i64.wrap (Int.tdiv ms0 r347.1)) > (IntKind.i64.wrap (Int.tdiv 9223372036854775807 r347.2))) then some (0, false)
      else
      bif r347.2 != 0 then
        bif decide ((IntKind.i64.wrap (Int.tdiv ms0 r347.1)) < (IntKind.i64.wrap (Int.tdiv (-9223372036854775808) r347.2))) then
          some (0, false)
        else some (IntKind.i64.wrap ((IntKind.i64.wrap (Int.tdiv ms0 r347.1)) * r347.2), true)
      else none
    else none
  else none
def stamp_Of.sig : Sig := ⟨[(.c (.int .i64)), (.c (.int .i64))], [(.c (.int .i64)), (.c .bool)]⟩
noncomputable def stamp_Of.con (K : Nat) : Con := (mkCon stamp_Of.sig (fun x => stamp_Of.f K x.1 x.2))
noncomputable def stamp_Of.ht : HT := .seq .nil (.seq .nil (.seq (.join ⟨7, [], [], ⟨[], []⟩, [(.normal, ⟨[(27, .c (.v .bool))], []⟩)]⟩ (.seq .nil .nil)) .nil))
noncomputable def stamp_Of.cx (K : Nat) : Cx := ⟨tt, [(65, stamp_unitOf.con K), (66, stamp_isTime.con K)], [], K, inlOf tt [(65, stamp_unitOf.con K), (66, stamp_isTime.con K)] [] K (getBody []) 0⟩
theorem stamp_Of.eq (K : Nat) (x : PL stamp_Of.sig.ps) : evalF (stamp_Of.cx K) stamp_Of.sig (bodyOf Try.f49) stamp_Of.ht x = stamp_Of.f K x.1 x.2 := by kernel_rfl
theorem stamp_Of.fok (K : Nat) : FOK Try.prog stamp_Of.sig (fun x => stamp_Of.f K x.1 x.2) 49 := fok_of_eval (tt := tt) (cons := [(65, stamp_unitOf.con K), (66, stamp_isTime.con K)]) (exts := []) (bodies := (getBody [])) (K := K) (d := 0) ⟨ttok, (getCon_cons (stamp_unitOf.ok K) (getCon_cons (stamp_isTime.ok K) (fun _ _ => getCon_nil))), (fun _ _ => getExt_nil), (fun _ _ => getBody_nil)⟩ draw bok49 (stamp_Of.eq K)
theorem stamp_Of.ok (K : Nat) : ConOK Try.prog 49 (stamp_Of.con K) := con_ok bok49 (stamp_Of.fok K)

noncomputable def class_isPoint.f (K : Nat) (proto0 : Int) (p1 : List (List UInt8 × List UInt8) × Int × Bool × Int × Int × Int × Int × Bool × Int) : Option Bool :=
  ((loopN K (fun (s_ : Int) =>
    match s_ with
    | t356 =>
      bif decide (t356 < (p1.1.length : Int)) then
        bif idx t356 p1.1.length then
          (charset_Is.f K proto0 1 ((p1.1.getD t356.toNat (([] : List UInt8), ([] : List UInt8))).1)).bind fun r357 =>
          bif !r357 then some (.inr (.inr false))
          else
          (class_Value.f K proto0 ((p1.1.getD t356.toNat (([] : List UInt8), ([] : List UInt8))).2)).bind fun r358 =>
          bif !r358 then
            some (.inr (.inr false))
          else some (.inl (IntKind.i64.wrap (t356 + 1)))
        else none
      else some (.inr (.inl ()))) 0 : Option (Unit ⊕ Bool))).bind fun e_ =>
  match e_ with
  | .inl _ =>
    bif proto0 == 3 then
      (stamp_Of.f K p1.2.2.2.2.2.2.2.2 0).bind fun (r359, r360) =>
      bif p1.2.2.2.2.2.2.2.1 then
        some r360
      else some false
    else
    bif proto0 == 4 then
      bif !p1.2.2.2.2.2.2.2.1 then
        some (decide (p1.2.2.2.2.2.1 ≥ 0))
      else some false
    else some true
  | .inr t361 =>
    some t361
def class_isPoint.sig : Sig := ⟨[(.c (.int .i64)), (.agg (.pair (.sl (.pair .str .str)) (.pair (.int .i64) (.pair .bool (.pair (.int .i64) (.pair (.int .i64) (.pair (.int .i64) (.pair (.int .i64) (.pair .bool (.int .i64))))))))))], [(.c .bool)]⟩
noncomputable def class_isPoint.con (K : Nat) : Con := (mkCon class_isPoint.sig (fun x => class_isPoint.f K x.1 x.2))
noncomputable def class_isPoint.ht : HT := .seq .nil (.seq (.seq .nil (.block (.loop ⟨12, [4, 6], [], ⟨[(12, .c (.v (.int .i64)))], []⟩, [(.exit 0, ⟨[], []⟩), (.ret, ⟨[(4, .c (.v .bool))], []⟩)]⟩ .nil))) .nil)
noncomputable def class_isPoint.cx (K : Nat) : Cx := ⟨tt, [(7, charset_Is.con K), (8, class_Value.con K), (49, stamp_Of.con K)], [], K, inlOf tt [(7, charset_Is.con K), (8, class_Value.con K), (49, stamp_Of.con K)] [] K (getBody []) 0⟩
theorem class_isPoint.eq (K : Nat) (x : PL class_isPoint.sig.ps) : evalF (class_isPoint.cx K) class_isPoint.sig (bodyOf Try.f33) class_isPoint.ht x = class_isPoint.f K x.1 x.2 := by kernel_rfl
theorem class_isPoint.fok (K : Nat) : FOK Try.prog class_isPoint.sig (fun x => class_isPoint.f K x.1 x.2) 33 := fok_of_eval (tt := tt) (cons := [(7, charset_Is.con K), (8, class_Value.con K), (49, stamp_Of.con K)]) (exts := []) (bodies := (getBody [])) (K := K) (d := 0) ⟨ttok, (getCon_cons (charset_Is.ok K) (getCon_cons (class_Value.ok K) (getCon_cons (stamp_Of.ok K) (fun _ _ => getCon_nil)))), (fun _ _ => getExt_nil), (fun _ _ => getBody_nil)⟩ draw bok33 (class_isPoint.eq K)
theorem class_isPoint.ok (K : Nat) : ConOK Try.prog 33 (class_isPoint.con K) := con_ok bok33 (class_isPoint.fok K)

noncomputable def class_isFamily.f (K : Nat) (proto0 : Int) (f1 : List UInt8 × Int × List UInt8 × List UInt8 × List (List (List UInt8 × List UInt8) × Int × Bool × Int × Int × Int × Int × Bool × Int)) : Option Bool :=
  (((
      (class_Kinds.f K proto0).bind fun r364 =>
      (slices_Contains_int_int.f K r364 f1.2.1).bind fun r365 =>
      bif !r365 then some true
      else
      (charset_Is.f K proto0 0 f1.1).bind fun r366 =>
      some (!r366)) : Option Bool)).bind fun t367 =>
  bif t367 then some false
  else
  (((
      (((
          bif proto0 == 1 then
            (class_isUnit.f K (f1.1, f1.2.1, f1.2.2.1, f1.2.2.2.1)).bind fun r375 =>
            bif !r375 then some true
            else
            bif proto0 != 1 then
              bif !(f1.2.2.1 == ([] : List UInt8)) then some true
              else
              bif !(f1.2.2.2.1 == ([] : List UInt8)) then
                some true
              else some ((f1.2.2.2.2.length : Int) == 0)
            else some false
          else
          bif proto0 != 1 then
            bif !(f1.2.2.1 == ([] : List UInt8)) then some true
            else
            bif !(f1.2.2.2.1 == ([] : List UInt8)) then
              some true
            else some ((f1.2.2.2.2.length : Int) == 0)
          else some false) : Option Bool)).bind fun t376 =>
      bif t376 then
        some (.inr false)
      else some (.inl ())) : Option (Unit ⊕ Bool))).bind fun e_ =>
  match e_ with
  | .inl _ =>
    ((loopN K (fun (s_ : Int) =>
      match s_ with
      | t381 =>
        bif decide (t381 < (f1.2.2.2.2.length : Int)) then
          bif idx t381 f1.2.2.2.2.length then
            (class_isPoint.f K proto0 ((f1.2.2.2.2.getD t381.toNat (([] : List (List UInt8 × List UInt8)), ((0 : Int), (false, ((0 : Int), ((0 : Int), ((0 : Int), ((0 : Int), (false, (0 : Int)))))))))).1, ((f1.2.2.2.2.getD t381.toNat (([] : List (List UInt8 × List UInt8)), ((0 : Int), (false, ((0 : Int), ((0 : Int), ((0 : Int), ((0 : Int), (false, (0 : Int)))))))))).2).1, (((f1.2.2.2.2.getD t381.toNat (([] : List (List UInt8 × List UInt8)), ((0 : Int), (false, ((0 : Int), ((0 : Int), ((0 : Int), ((0 : Int), (false, (0 : Int)))))))))).2).2).1, ((((f1.2.2.2.2.getD t381.toNat (([] : List (List UInt8 × List UInt8)), ((0 : Int), (false, ((0 : Int), ((0 : Int), ((0 : Int), ((0 : Int), (false, (0 : Int)))))))))).2).2).2).1, (((((f1.2.2.2.2.getD t381.toNat (([] : List (List UInt8 × List UInt8)), ((0 : Int), (false, ((0 : Int), ((0 : Int), ((0 : Int), ((0 : Int), (false, (0 : Int)))))))))).2).2).2).2).1, ((((((f1.2.2.2.2.getD t381.toNat (([] : List (List UInt8 × List UInt8)), ((0 : Int), (false, ((0 : Int), ((0 : Int), ((0 : Int), ((0 : Int), (false, (0 : Int)))))))))).2).2).2).2).2).1, (((((((f1.2.2.2.2.getD t381.toNat (([] : List (List UInt8 × List UInt8)), ((0 : Int), (false, ((0 : Int), ((0 : Int), ((0 : Int), ((0 : Int), (false, (0 : Int)))))))))).2).2).2).2).2).2).1, ((((((((f1.2.2.2.2.getD t381.toNat (([] : List (List UInt8 × List UInt8)), ((0 : Int), (false, ((0 : Int), ((0 : Int), ((0 : Int), ((0 : Int), (false, (0 : Int)))))))))).2).2).2).2).2).2).2).1, ((((((((f1.2.2.2.2.getD t381.toNat (([] : List (List UInt8 × List UInt8)), ((0 : Int), (false, ((0 : Int), ((0 : Int), ((0 : Int), ((0 : Int), (false, (0 : Int)))))))))).2).2).2).2).2).2).2).2)).bind fun r382 =>
            bif !r382 then
              some (.inr (.inr t381))
            else some (.inl (IntKind.i64.wrap (t381 + 1)))
          else none
        else some (.inr (.inl ()))) 0 : Option (Unit ⊕ Int))).bind fun e_ =>
    match e_ with
    | .inl _ =>
      some true
    | .inr t383 =>
      some (!(decide (t383 ≥ 0)))
  | .inr t384 =>
    some t384
def class_isFamily.sig : Sig := ⟨[(.c (.int .i64)), (.agg (.pair .str (.pair (.int .i64) (.pair .str (.pair .str (.sl (.pair (.sl (.pair .str .str)) (.pair (.int .i64) (.pair .bool (.pair (.int .i64) (.pair (.int .i64) (.pair (.int .i64) (.pair (.int .i64) (.pair .bool (.int .i64)))))))))))))))], [(.c .bool)]⟩
noncomputable def class_isFamily.con (K : Nat) : Con := (mkCon class_isFamily.sig (fun x => class_isFamily.f K x.1 x.2))
noncomputable def class_isFamily.ht : HT := .seq .nil (.seq (.join ⟨5, [], [], ⟨[], []⟩, [(.normal, ⟨[(19, .c (.v .bool))], []⟩)]⟩ (.seq .nil .nil)) (.join ⟨4, [], [], ⟨[], []⟩, [(.normal, ⟨[], []⟩), (.ret, ⟨[(4, .c (.v .bool))], []⟩)]⟩ (.seq (.join ⟨5, [], [], ⟨[], []⟩, [(.normal, ⟨[(49, .c (.v .bool))], []⟩)]⟩ (.seq .nil .nil)) (.seq (.calls [(3, .seq .nil (.seq (.calls [(2, .seq .nil (.seq (.seq .nil (.block (.loop ⟨8, [4, 5], [], ⟨[(8, .c (.v (.int .i64)))], []⟩, [(.exit 0, ⟨[], []⟩), (.ret, ⟨[(4, .c (.v (.int .i64)))], []⟩)]⟩ .nil))) .nil))]) .nil))]) .nil))))
noncomputable def class_isFamily.cx (K : Nat) : Cx := ⟨tt, [(9, class_Kinds.con K), (29, slices_Contains_int_int.con K), (7, charset_Is.con K), (30, class_isUnit.con K), (33, class_isPoint.con K)], [], K, inlOf tt [(9, class_Kinds.con K), (29, slices_Contains_int_int.con K), (7, charset_Is.con K), (30, class_isUnit.con K), (33, class_isPoint.con K)] [] K (getBody [(31, bodyOf Try.f31), (32, bodyOf Try.f32), (48, bodyOf Try.f48)]) 3⟩
theorem class_isFamily.eq (K : Nat) (x : PL class_isFamily.sig.ps) : evalF (class_isFamily.cx K) class_isFamily.sig (bodyOf Try.f18) class_isFamily.ht x = class_isFamily.f K x.1 x.2 := by kernel_rfl
theorem class_isFamily.fok (K : Nat) : FOK Try.prog class_isFamily.sig (fun x => class_isFamily.f K x.1 x.2) 18 := fok_of_eval (tt := tt) (cons := [(9, class_Kinds.con K), (29, slices_Contains_int_int.con K), (7, charset_Is.con K), (30, class_isUnit.con K), (33, class_isPoint.con K)]) (exts := []) (bodies := (getBody [(31, bodyOf Try.f31), (32, bodyOf Try.f32), (48, bodyOf Try.f48)])) (K := K) (d := 3) ⟨ttok, (getCon_cons (class_Kinds.ok K) (getCon_cons (slices_Contains_int_int.ok K) (getCon_cons (charset_Is.ok K) (getCon_cons (class_isUnit.ok K) (getCon_cons (class_isPoint.ok K) (fun _ _ => getCon_nil)))))), (fun _ _ => getExt_nil), (getBody_cons bok31 (getBody_cons bok32 (getBody_cons bok48 (fun _ _ => getBody_nil))))⟩ draw bok18 (class_isFamily.eq K)
theorem class_isFamily.ok (K : Nat) : ConOK Try.prog 18 (class_isFamily.con K) := con_ok bok18 (class_isFamily.fok K)

noncomputable def class_Why.f (K : Nat) (proto0 : Int) (b1 : List UInt8 × List (List UInt8 × Int × List UInt8 × List UInt8 × List (List (List UInt8 × List UInt8) × Int × Bool × Int × Int × Int × Int × Bool × Int))) : Option (List UInt8 × Bool) :=
  (((
      bif decide (proto0 < 1) then some true
      else
      bif decide (proto0 > 4) then some true
      else
      (batch_Check.f K b1).bind fun r385 =>
      some (r385 != 0)) : Option Bool)).bind fun t386 =>
  bif t386 then some (([] : List UInt8), false)
  else
  ((loopN K (fun (s_ : Int) =>
    match s_ with
    | t391 =>
      bif decide (t391 < (b1.2.length : Int)) then
        bif idx t391 b1.2.length then
          (class_isFamily.f K proto0 ((b1.2.getD t391.toNat (([] : List UInt8), ((0 : Int), (([] : List UInt8), (([] : List UInt8), ([] : List (List (List UInt8 × List UInt8) × Int × Bool × Int × Int × Int × Int × Bool × Int))))))).1, ((b1.2.getD t391.toNat (([] : List UInt8), ((0 : Int), (([] : List UInt8), (([] : List UInt8), ([] : List (List (List UInt8 × List UInt8) × Int × Bool × Int × Int × Int × Int × Bool × Int))))))).2).1, (((b1.2.getD t391.toNat (([] : List UInt8), ((0 : Int), (([] : List UInt8), (([] : List UInt8), ([] : List (List (List UInt8 × List UInt8) × Int × Bool × Int × Int × Int × Int × Bool × Int))))))).2).2).1, ((((b1.2.getD t391.toNat (([] : List UInt8), ((0 : Int), (([] : List UInt8), (([] : List UInt8), ([] : List (List (List UInt8 × List UInt8) × Int × Bool × Int × Int × Int × Int × Bool × Int))))))).2).2).2).1, ((((b1.2.getD t391.toNat (([] : List UInt8), ((0 : Int), (([] : List UInt8), (([] : List UInt8), ([] : List (List (List UInt8 × List UInt8) × Int × Bool × Int × Int × Int × Int × Bool × Int))))))).2).2).2).2)).bind fun r392 =>
          bif !r392 then
            some (.inr (.inr ((b1.2.getD t391.toNat (([] : List UInt8), ((0 : Int), (([] : List UInt8), (([] : List UInt8), ([] : List (List (List UInt8 × List UInt8) × Int × Bool × Int × Int × Int × Int × Bool × Int))))))).1, false)))
          else some (.inl (IntKind.i64.wrap (t391 + 1)))
        else none
      else some (.inr (.inl ()))) 0 : Option (Unit ⊕ (List UInt8 × Bool)))).bind fun e_ =>
  match e_ with
  | .inl _ =>
    some (([] : List UInt8), true)
  | .inr (name393, ok394) =>
    some (name393, ok394)
def class_Why.sig : Sig := ⟨[(.c (.int .i64)), (.agg (.pair .str (.sl (.pair .str (.pair (.int .i64) (.pair .str (.pair .str (.sl (.pair (.sl (.pair .str .str)) (.pair (.int .i64) (.pair .bool (.pair (.int .i64) (.pair (.int .i64) (.pair (.int .i64) (.pair (.int .i64) (.pair .bool (.int .i64)))))))))))))))))], [(.c .str), (.c .bool)]⟩
noncomputable def class_Why.con (K : Nat) : Con := (mkCon class_Why.sig (fun x => class_Why.f K x.1 x.2))
noncomputable def class_Why.ht : HT := .seq .nil (.seq (.join ⟨6, [], [], ⟨[], []⟩, [(.normal, ⟨[(18, .c (.v .bool))], []⟩)]⟩ (.seq .nil .nil)) (.seq (.seq .nil (.block (.loop ⟨22, [4, 5, 7], [], ⟨[(22, .c (.v (.int .i64)))], []⟩, [(.exit 0, ⟨[], []⟩), (.ret, ⟨[(4, .c (.v .str)), (5, .c (.v .bool))], []⟩)]⟩ .nil))) .nil))
noncomputable def class_Why.cx (K : Nat) : Cx := ⟨tt, [(17, batch_Check.con K), (18, class_isFamily.con K)], [], K, inlOf tt [(17, batch_Check.con K), (18, class_isFamily.con K)] [] K (getBody []) 0⟩
theorem class_Why.eq (K : Nat) (x : PL class_Why.sig.ps) : evalF (class_Why.cx K) class_Why.sig (bodyOf Try.f12) class_Why.ht x = class_Why.f K x.1 x.2 := by kernel_rfl
theorem class_Why.fok (K : Nat) : FOK Try.prog class_Why.sig (fun x => class_Why.f K x.1 x.2) 12 := fok_of_eval (tt := tt) (cons := [(17, batch_Check.con K), (18, class_isFamily.con K)]) (exts := []) (bodies := (getBody [])) (K := K) (d := 0) ⟨ttok, (getCon_cons (batch_Check.ok K) (getCon_cons (class_isFamily.ok K) (fun _ _ => getCon_nil))), (fun _ _ => getExt_nil), (fun _ _ => getBody_nil)⟩ draw bok12 (class_Why.eq K)
theorem class_Why.ok (K : Nat) : ConOK Try.prog 12 (class_Why.con K) := con_ok bok12 (class_Why.fok K)

noncomputable def class_Is.f (K : Nat) (proto0 : Int) (b1 : List UInt8 × List (List UInt8 × Int × List UInt8 × List UInt8 × List (List (List UInt8 × List UInt8) × Int × Bool × Int × Int × Int × Int × Bool × Int))) : Option Bool :=
  (class_Why.f K proto0 b1).bind fun (r395, r396) =>
  some r396
def class_Is.sig : Sig := ⟨[(.c (.int .i64)), (.agg (.pair .str (.sl (.pair .str (.pair (.int .i64) (.pair .str (.pair .str (.sl (.pair (.sl (.pair .str .str)) (.pair (.int .i64) (.pair .bool (.pair (.int .i64) (.pair (.int .i64) (.pair (.int .i64) (.pair (.int .i64) (.pair .bool (.int .i64)))))))))))))))))], [(.c .bool)]⟩
noncomputable def class_Is.con (K : Nat) : Con := (mkCon class_Is.sig (fun x => class_Is.f K x.1 x.2))
noncomputable def class_Is.ht : HT := .nil
noncomputable def class_Is.cx (K : Nat) : Cx := ⟨tt, [(12, class_Why.con K)], [], K, inlOf tt [(12, class_Why.con K)] [] K (getBody []) 0⟩
theorem class_Is.eq (K : Nat) (x : PL class_Is.sig.ps) : evalF (class_Is.cx K) class_Is.sig (bodyOf Try.f10) class_Is.ht x = class_Is.f K x.1 x.2 := by kernel_rfl
theorem class_Is.fok (K : Nat) : FOK Try.prog class_Is.sig (fun x => class_Is.f K x.1 x.2) 10 := fok_of_eval (tt := tt) (cons := [(12, class_Why.con K)]) (exts := []) (bodies := (getBody [])) (K := K) (d := 0) ⟨ttok, (getCon_cons (class_Why.ok K) (fun _ _ => getCon_nil)), (fun _ _ => getExt_nil), (fun _ _ => getBody_nil)⟩ draw bok10 (class_Is.eq K)
theorem class_Is.ok (K : Nat) : ConOK Try.prog 10 (class_Is.con K) := con_ok bok10 (class_Is.fok K)

noncomputable def polyglotlaw16_one.f (K : Nat) (kind0 : Int) (p1 : List (List UInt8 × List UInt8) × Int × Bool × Int × Int × Int × Int × Bool × Int) : Option (List UInt8 × List (List UInt8 × Int × List UInt8 × List UInt8 × List (List (List UInt8 × List UInt8) × Int × Bool × Int × Int × Int × Int × Bool × Int))) :=
  some (([116] : List UInt8), ([(([97] : List UInt8), kind0, ([] : List UInt8), ([] : List UInt8), ([p1] : List (List (List UInt8 × List UInt8) × Int × Bool × Int × Int × Int × Int × Bool × Int)))] : List (List UInt8 × Int × List UInt8 × List UInt8 × List (List (List UInt8 × List UInt8) × Int × Bool × Int × Int × Int × Int × Bool × Int))))
def polyglotlaw16_one.sig : Sig := ⟨[(.c (.int .i64)), (.agg (.pair (.sl (.pair .str .str)) (.pair (.int .i64) (.pair .bool (.pair (.int .i64) (.pair (.int .i64) (.pair (.int .i64) (.pair (.int .i64) (.pair .bool (.int .i64))))))))))], [(.agg (.pair .str (.sl (.pair .str (.pair (.int .i64) (.pair .str (.pair .str (.sl (.pair (.sl (.pair .str .str)) (.pair (.int .i64) (.pair .bool (.pair (.int .i64) (.pair (.int .i64) (.pair (.int .i64) (.pair (.int .i64) (.pair .bool (.int .i64)))))))))))))))))]⟩
noncomputable def polyglotlaw16_one.con (K : Nat) : Con := (mkCon polyglotlaw16_one.sig (fun x => polyglotlaw16_one.f K x.1 x.2))
noncomputable def polyglotlaw16_one.ht : HT := .nil
noncomputable def polyglotlaw16_one.cx (K : Nat) : Cx := ⟨tt, [], [], K, inlOf tt [] [] K (getBody []) 0⟩
theorem polyglotlaw16_one.eq (K : Nat) (x : PL polyglotlaw16_one.sig.ps) : evalF (polyglotlaw16_one.cx K) polyglotlaw16_one.sig (bodyOf Try.f11) polyglotlaw16_one.ht x = polyglotlaw16_one.f K x.1 x.2 := by kernel_rfl
theorem polyglotlaw16_one.fok (K : Nat) : FOK Try.prog polyglotlaw16_one.sig (fun x => polyglotlaw16_one.f K x.1 x.2) 11 := fok_of_eval (tt := tt) (cons := []) (exts := []) (bodies := (getBody [])) (K := K) (d := 0) ⟨ttok, (fun _ _ => getCon_nil), (fun _ _ => getExt_nil), (fun _ _ => getBody_nil)⟩ draw bok11 (polyglotlaw16_one.eq K)
theorem polyglotlaw16_one.ok (K : Nat) : ConOK Try.prog 11 (polyglotlaw16_one.con K) := con_ok bok11 (polyglotlaw16_one.fok K)

noncomputable def polyglotlaw16_known.f (K : Nat) : Option Bool :=
  (polyglotlaw16_one.f K 3 (([] : List (List UInt8 × List UInt8)), 3, false, (0 : Int), (0 : Int), (0 : Int), (0 : Int), false, (0 : Int))).bind fun r397 =>
  (class_Why.f K 2 r397).bind fun (r398, r399) =>
  (class_Why.f K 9 r397).bind fun (r400, r401) =>
  (class_Is.f K 1 r397).bind fun r402 =>
  bif r402 then
    (class_Is.f K 2 r397).bind fun r403 =>
    bif !r403 then
      bif r398 == ([97] : List UInt8) then
        bif !r399 then
          bif r400 == ([] : List UInt8) then
            bif !r401 then
              (polyglotlaw16_one.f K 1 (([] : List (List UInt8 × List UInt8)), (0 : Int), false, (0 : Int), (0 : Int), (0 : Int), (0 : Int), false, (0 : Int))).bind fun r404 =>
              (class_Is.f K 2 r404).bind fun r405 =>
              bif r405 then
                (polyglotlaw16_one.f K 0 (([] : List (List UInt8 × List UInt8)), (0 : Int), false, (0 : Int), (0 : Int), (0 : Int), (0 : Int), true, 2000)).bind fun r406 =>
                (class_Is.f K 3 r406).bind fun r407 =>
                bif r407 then
                  (polyglotlaw16_one.f K 0 (([] : List (List UInt8 × List UInt8)), (0 : Int), false, (0 : Int), (0 : Int), (0 : Int), (0 : Int), false, (0 : Int))).bind fun r408 =>
                  (class_Is.f K 3 r408).bind fun r409 =>
                  bif !r409 then
                    (polyglotlaw16_one.f K 2 (([] : List (List UInt8 × List UInt8)), (0 : Int), false, (0 : Int), (0 : Int), (0 : Int), (0 : Int), false, (0 : Int))).bind fun r410 =>
                    (class_Is.f K 4 r410).bind fun r411 =>
                    bif r411 then
                      (class_Kinds.f K 4).bind fun r412 =>
                      bif (r412.length : Int) == 2 then
                        (class_Value.f K 1 ([] : List UInt8)).bind fun r413 =>
                        bif r413 then
                          (class_Value.f K 2 ([] : List UInt8)).bind fun r414 =>
                          some (!r414)
                        else some false
                      else some false
                    else some false
                  else some false
                else some false
              else some false
            else some false
          else some false
        else some false
      else some false
    else some false
  else some false
def polyglotlaw16_known.sig : Sig := ⟨[], [(.c .bool)]⟩
noncomputable def polyglotlaw16_known.con (K : Nat) : Con := (mkCon polyglotlaw16_known.sig (fun _ => polyglotlaw16_known.f K))
noncomputable def polyglotlaw16_known.ht : HT := .nil
noncomputable def polyglotlaw16_known.cx (K : Nat) : Cx := ⟨tt, [(11, polyglotlaw16_one.con K), (12, class_Why.con K), (10, class_Is.con K), (9, class_Kinds.con K), (8, class_Value.con K)], [], K, inlOf tt [(11, polyglotlaw16_one.con K), (12, class_Why.con K), (10, class_Is.con K), (9, class_Kinds.con K), (8, class_Value.con K)] [] K (getBody []) 0⟩
theorem polyglotlaw16_known.eq (K : Nat) (x : PL polyglotlaw16_known.sig.ps) : evalF (polyglotlaw16_known.cx K) polyglotlaw16_known.sig (bodyOf Try.f6) polyglotlaw16_known.ht x = polyglotlaw16_known.f K := by kernel_rfl
theorem polyglotlaw16_known.fok (K : Nat) : FOK Try.prog polyglotlaw16_known.sig (fun _ => polyglotlaw16_known.f K) 6 := fok_of_eval (tt := tt) (cons := [(11, polyglotlaw16_one.con K), (12, class_Why.con K), (10, class_Is.con K), (9, class_Kinds.con K), (8, class_Value.con K)]) (exts := []) (bodies := (getBody [])) (K := K) (d := 0) ⟨ttok, (getCon_cons (polyglotlaw16_one.ok K) (getCon_cons (class_Why.ok K) (getCon_cons (class_Is.ok K) (getCon_cons (class_Kinds.ok K) (getCon_cons (class_Value.ok K) (fun _ _ => getCon_nil)))))), (fun _ _ => getExt_nil), (fun _ _ => getBody_nil)⟩ draw bok6 (polyglotlaw16_known.eq K)
theorem polyglotlaw16_known.ok (K : Nat) : ConOK Try.prog 6 (polyglotlaw16_known.con K) := con_ok bok6 (polyglotlaw16_known.fok K)

noncomputable def polyglotlaw16_ClassParts.f (K : Nat) (t0 : Int) (o1 : Int) : Option Bool :=
  (polyglotlaw16_known.f K).bind fun r1 =>
  bif !r1 then some false
  else
  bif (IntKind.i64.wrap (1 + (IntKind.i64.wrap (Int.tmod t0 4)))) == 4 then
    (class_Is.f K (IntKind.i64.wrap (1 + (IntKind.i64.wrap (Int.tmod t0 4)))) (([116] : List UInt8), ([(([97] : List UInt8), 1, ([] : List UInt8), ([] : List UInt8), ([(([(([108] : List UInt8), ([118] : List UInt8))] : List (List UInt8 × List UInt8)), (0 : Int), false, (0 : Int), (0 : Int), (0 : Int), (0 : Int), (IntKind.i64.wrap (1 + (IntKind.i64.wrap (Int.tmod t0 4)))) != 4, 0)] : List (List (List UInt8 × List UInt8) × Int × Bool × Int × Int × Int × Int × Bool × Int)))] : List (List UInt8 × Int × List UInt8 × List UInt8 × List (List (List UInt8 × List UInt8) × Int × Bool × Int × Int × Int × Int × Bool × Int))))).bind fun r2 =>
    bif !r2 then some false
    else
    bif (Int.tmod o1 9) == 0 then
      (class_Is.f K (IntKind.i64.wrap (1 + (IntKind.i64.wrap (Int.tmod t0 4)))) (([116] : List UInt8), ([(([195, 169] : List UInt8), 1, ([] : List UInt8), ([] : List UInt8), ([(([(([108] : List UInt8), ([118] : List UInt8))] : List (List UInt8 × List UInt8)), (0 : Int), false, (0 : Int), (0 : Int), (0 : Int), (0 : Int), (IntKind.i64.wrap (1 + (IntKind.i64.wrap (Int.tmod t0 4)))) != 4, 0)] : List (List (List UInt8 × List UInt8) × Int × Bool × Int × Int × Int × Int × Bool × Int)))] : List (List UInt8 × Int × List UInt8 × List UInt8 × List (List (List UInt8 × List UInt8) × Int × Bool × Int × Int × Int × Int × Bool × Int))))).bind fun r3 =>
      some (r3 == false)
    else
    bif (Int.tmod o1 9) == 1 then
      bif idx 0 (([(([108] : List UInt8), ([118] : List UInt8))] : List (List UInt8 × List UInt8)).length) then
        bif decide (0 < ([(([108] : List UInt8), ([118] : List UInt8))] : List (List UInt8 × List UInt8)).length) then
          (class_Is.f K (IntKind.i64.wrap (1 + (IntKind.i64.wrap (Int.tmod t0 4)))) (([116] : List UInt8), ([(([97] : List UInt8), 1, ([] : List UInt8), ([] : List UInt8), ([((([(([108] : List UInt8), ([118] : List UInt8))] : List (List UInt8 × List UInt8)).set 0 (([195, 169] : List UInt8), (([(([108] : List UInt8), ([118] : List UInt8))] : List (List UInt8 × List UInt8)).getD 0 (([] : List UInt8), ([] : List UInt8))).2)), (0 : Int), false, (0 : Int), (0 : Int), (0 : Int), (0 : Int), (IntKind.i64.wrap (1 + (IntKind.i64.wrap (Int.tmod t0 4)))) != 4, 0)] : List (List (List UInt8 × List UInt8) × Int × Bool × Int × Int × Int × Int × Bool × Int)))] : List (List UInt8 × Int × List UInt8 × List UInt8 × List (List (List UInt8 × List UInt8) × Int × Bool × Int × Int × Int × Int × Bool × Int))))).bind fun r4 =>
          some (r4 == false)
        else none
      else none
    else
    bif (Int.tmod o1 9) == 2 then
      bif idx 0 (([(([108] : List UInt8), ([118] : List UInt8))] : List (List UInt8 × List UInt8)).length) then
        bif decide (0 < ([(([108] : List UInt8), ([118] : List UInt8))] : List (List UInt8 × List UInt8)).length) then
          (class_Is.f K (IntKind.i64.wrap (1 + (IntKind.i64.wrap (Int.tmod t0 4)))) (([116] : List UInt8), ([(([97] : List UInt8), 1, ([] : List UInt8), ([] : List UInt8), ([((([(([108] : List UInt8), ([118] : List UInt8))] : List (List UInt8 × List UInt8)).set 0 ((([(([108] : List UInt8), ([118] : List UInt8))] : List (List UInt8 × List UInt8)).getD 0 (([] : List UInt8), ([] : List UInt8))).1, ([] : List UInt8))), (0 : Int), false, (0 : Int), (0 : Int), (0 : Int), (0 : Int), (IntKind.i64.wrap (1 + (IntKind.i64.wrap (Int.tmod t0 4)))) != 4, 0)] : List (List (List UInt8 × List UInt8) × Int × Bool × Int × Int × Int × Int × Bool × Int)))] : List (List UInt8 × Int × List UInt8 × List UInt8 × List (List (List UInt8 × List UInt8) × Int × Bool × Int × Int × Int × Int × Bool × Int))))).bind fun r5 =>
          some (r5 == ((IntKind.i64.wrap (1 + (IntKind.i64.wrap (Int.tmod t0 4)))) == 1))
        else none
      else none
    else
    bif (Int.tmod o1 9) == 3 then
      bif idx 0 (([(([108] : List UInt8), ([118] : List UInt8))] : List (List UInt8 × List UInt8)).length) then
        bif decide (0 < ([(([108] : List UInt8), ([118] : List UInt8))] : List (List UInt8 × List UInt8)).length) then
          (class_Is.f K (IntKind.i64.wrap (1 + (IntKind.i64.wrap (Int.tmod t0 4)))) (([116] : List UInt8), ([(([97] : List UInt8), 1, ([] : List UInt8), ([] : List UInt8), ([((([(([108] : List UInt8), ([118] : List UInt8))] : List (List UInt8 × List UInt8)).set 0 ((([(([108] : List UInt8), ([118] : List UInt8))] : List (List UInt8 × List UInt8)).getD 0 (([] : List UInt8), ([] : List UInt8))).1, ([97, 10, 98] : List UInt8))), (0 : Int), false, (0 : Int), (0 : Int), (0 : Int), (0 : Int), (IntKind.i64.wrap (1 + (IntKind.i64.wrap (Int.tmod t0 4)))) != 4, 0)] : List (List (List UInt8 × List UInt8) × Int × Bool × Int × Int × Int × Int × Bool × Int)))] : List (List UInt8 × Int × List UInt8 × List UInt8 × List (List (List UInt8 × List UInt8) × Int × Bool × Int × Int × Int × Int × Bool × Int))))).bind fun r6 =>
          some (r6 == ((IntKind.i64.wrap (1 + (IntKind.i64.wrap (Int.tmod t0 4)))) == 1))
        else none
      else none
    else
    bif (Int.tmod o1 9) == 4 then
      (class_Is.f K (IntKind.i64.wrap (1 + (IntKind.i64.wrap (Int.tmod t0 4)))) (([116] : List UInt8), ([(([97, 95, 115] : List UInt8), 1, ([115] : List UInt8), ([] : List UInt8), ([(([(([108] : List UInt8), ([118] : List UInt8))] : List (List UInt8 × List UInt8)), (0 : Int), false, (0 : Int), (0 : Int), (0 : Int), (0 : Int), (IntKind.i64.wrap (1 + (IntKind.i64.wrap (Int.tmod t0 4)))) != 4, 0)] : List (List (List UInt8 × List UInt8) × Int × Bool × Int × Int × Int × Int × Bool × Int)))] : List (List UInt8 × Int × List UInt8 × List UInt8 × List (List (List UInt8 × List UInt8) × Int × Bool × Int × Int × Int × Int × Bool × Int))))).bind fun r7 =>
      some (r7 == ((IntKind.i64.wrap (1 + (IntKind.i64.wrap (Int.tmod t0 4)))) == 1))
    else
    bif (Int.tmod o1 9) == 5 then
      (class_Is.f K (IntKind.i64.wrap (1 + (IntKind.i64.wrap (Int.tmod t0 4)))) (([116] : List UInt8), ([(([97] : List UInt8), 1, ([115] : List UInt8), ([] : List UInt8), ([(([(([108] : List UInt8), ([118] : List UInt8))] : List (List UInt8 × List UInt8)), (0 : Int), false, (0 : Int), (0 : Int), (0 : Int), (0 : Int), (IntKind.i64.wrap (1 + (IntKind.i64.wrap (Int.tmod t0 4)))) != 4, 0)] : List (List (List UInt8 × List UInt8) × Int × Bool × Int × Int × Int × Int × Bool × Int)))] : List (List UInt8 × Int × List UInt8 × List UInt8 × List (List (List UInt8 × List UInt8) × Int × Bool × Int × Int × Int × Int × Bool × Int))))).bind fun r8 =>
      some (r8 == false)
    else
    bif (Int.tmod o1 9) == 6 then
      (class_Is.f K (IntKind.i64.wrap (1 + (IntKind.i64.wrap (Int.tmod t0 4)))) (([116] : List UInt8), ([(([97] : List UInt8), 1, ([] : List UInt8), ([104] : List UInt8), ([(([(([108] : List UInt8), ([118] : List UInt8))] : List (List UInt8 × List UInt8)), (0 : Int), false, (0 : Int), (0 : Int), (0 : Int), (0 : Int), (IntKind.i64.wrap (1 + (IntKind.i64.wrap (Int.tmod t0 4)))) != 4, 0)] : List (List (List UInt8 × List UInt8) × Int × Bool × Int × Int × Int × Int × Bool × Int)))] : List (List UInt8 × Int × List UInt8 × List UInt8 × List (List (List UInt8 × List UInt8) × Int × Bool × Int × Int × Int × Int × Bool × Int))))).bind fun r9 =>
      some (r9 == ((IntKind.i64.wrap (1 + (IntKind.i64.wrap (Int.tmod t0 4)))) == 1))
    else
    bif (Int.tmod o1 9) == 7 then
      (class_Is.f K (IntKind.i64.wrap (1 + (IntKind.i64.wrap (Int.tmod t0 4)))) (([116] : List UInt8), ([(([97] : List UInt8), 1, ([] : List UInt8), ([] : List UInt8), ([] : List (List (List UInt8 × List UInt8) × Int × Bool × Int × Int × Int × Int × Bool × Int)))] : List (List UInt8 × Int × List UInt8 × List UInt8 × List (List (List UInt8 × List UInt8) × Int × Bool × Int × Int × Int × Int × Bool × Int))))).bind fun r10 =>
      some (r10 == ((IntKind.i64.wrap (1 + (IntKind.i64.wrap (Int.tmod t0 4)))) == 1))
    else
    bif (IntKind.i64.wrap (1 + (IntKind.i64.wrap (Int.tmod t0 4)))) == 1 then
      (class_Is.f K (IntKind.i64.wrap (1 + (IntKind.i64.wrap (Int.tmod t0 4)))) (([116] : List UInt8), ([(([97] : List UInt8), 1, ([] : List UInt8), ([] : List UInt8), ([(([(([108] : List UInt8), ([118] : List UInt8))] : List (List UInt8 × List UInt8)), (0 : Int), false, (0 : Int), (0 : Int), (0 : Int), (0 : Int), true, 1)] : List (List (List UInt8 × List UInt8) × Int × Bool × Int × Int × Int × Int × Bool × Int)))] : List (List UInt8 × Int × List UInt8 × List UInt8 × List (List (List UInt8 × List UInt8) × Int × Bool × Int × Int × Int × Int × Bool × Int))))).bind fun r11 =>
      some (r11 == true)
    else
    (class_Is.f K (IntKind.i64.wrap (1 + (IntKind.i64.wrap (Int.tmod t0 4)))) (([116] : List UInt8), ([(([97] : List UInt8), 1, ([] : List UInt8), ([] : List UInt8), ([(([(([108] : List UInt8), ([118] : List UInt8))] : List (List UInt8 × List UInt8)), (0 : Int), false, (0 : Int), (0 : Int), (0 : Int), (0 : Int), true, 1)] : List (List (List UInt8 × List UInt8) × Int × Bool × Int × Int × Int × Int × Bool × Int)))] : List (List UInt8 × Int × List UInt8 × List UInt8 × List (List (List UInt8 × List UInt8) × Int × Bool × Int × Int × Int × Int × Bool × Int))))).bind fun r12 =>
    some (r12 == ((IntKind.i64.wrap (1 + (IntKind.i64.wrap (Int.tmod t0 4)))) == 2))
  else
  (class_Is.f K (IntKind.i64.wrap (1 + (IntKind.i64.wrap (Int.tmod t0 4)))) (([116] : List UInt8), ([(([97] : List UInt8), 0, ([] : List UInt8), ([] : List UInt8), ([(([(([108] : List UInt8), ([118] : List UInt8))] : List (List UInt8 × List UInt8)), (0 : Int), false, (0 : Int), (0 : Int), (0 : Int), (0 : Int), (IntKind.i64.wrap (1 + (IntKind.i64.wrap (Int.tmod t0 4)))) != 4, 0)] : List (List (List UInt8 × List UInt8) × Int × Bool × Int × Int × Int × Int × Bool × Int)))] : List (List UInt8 × Int × List UInt8 × List UInt8 × List (List (List UInt8 × List UInt8) × Int × Bool × Int × Int × Int × Int × Bool × Int))))).bind fun r13 =>
  bif !r13 then some false
  else
  bif (Int.tmod o1 9) == 0 then
    (class_Is.f K (IntKind.i64.wrap (1 + (IntKind.i64.wrap (Int.tmod t0 4)))) (([116] : List UInt8), ([(([195, 169] : List UInt8), 0, ([] : List UInt8), ([] : List UInt8), ([(([(([108] : List UInt8), ([118] : List UInt8))] : List (List UInt8 × List UInt8)), (0 : Int), false, (0 : Int), (0 : Int), (0 : Int), (0 : Int), (IntKind.i64.wrap (1 + (IntKind.i64.wrap (Int.tmod t0 4)))) != 4, 0)] : List (List (List UInt8 × List UInt8) × Int × Bool × Int × Int × Int × Int × Bool × Int)))] : List (List UInt8 × Int × List UInt8 × List UInt8 × List (List (List UInt8 × List UInt8) × Int × Bool × Int × Int × Int × Int × Bool × Int))))).bind fun r14 =>
    some (r14 == false)
  else
  bif (Int.tmod o1 9) == 1 then
    bif idx 0 (([(([108] : List UInt8), ([118] : List UInt8))] : List (List UInt8 × List UInt8)).length) then
      bif decide (0 < ([(([108] : List UInt8), ([118] : List UInt8))] : List (List UInt8 × List UInt8)).length) then
        (class_Is.f K (IntKind.i64.wrap (1 + (IntKind.i64.wrap (Int.tmod t0 4)))) (([116] : List UInt8), ([(([97] : List UInt8), 0, ([] : List UInt8), ([] : List UInt8), ([((([(([108] : List UInt8), ([118] : List UInt8))] : List (List UInt8 × List UInt8)).set 0 (([195, 169] : List UInt8), (([(([108] : List UInt8), ([118] : List UInt8))] : List (List UInt8 × List UInt8)).getD 0 (([] : List UInt8), ([] : List UInt8))).2)), (0 : Int), false, (0 : Int), (0 : Int), (0 : Int), (0 : Int), (IntKind.i64.wrap (1 + (IntKind.i64.wrap (Int.tmod t0 4)))) != 4, 0)] : List (List (List UInt8 × List UInt8) × Int × Bool × Int × Int × Int × Int × Bool × Int)))] : List (List UInt8 × Int × List UInt8 × List UInt8 × List (List (List UInt8 × List UInt8) × Int × Bool × Int × Int × Int × Int × Bool × Int))))).bind fun r15 =>
        some (r15 == false)
      else none
    else none
  else
  bif (Int.tmod o1 9) == 2 then
    bif idx 0 (([(([108] : List UInt8), ([118] : List UInt8))] : List (List UInt8 × List UInt8)).length) then
      bif decide (0 < ([(([108] : List UInt8), ([118] : List UInt8))] : List (List UInt8 × List UInt8)).length) then
        (class_Is.f K (IntKind.i64.wrap (1 + (IntKind.i64.wrap (Int.tmod t0 4)))) (([116] : List UInt8), ([(([97] : List UInt8), 0, ([] : List UInt8), ([] : List UInt8), ([((([(([108] : List UInt8), ([118] : List UInt8))] : List (List UInt8 × List UInt8)).set 0 ((([(([108] : List UInt8), ([118] : List UInt8))] : List (List UInt8 × List UInt8)).getD 0 (([] : List UInt8), ([] : List UInt8))).1, ([] : List UInt8))), (0 : Int), false, (0 : Int), (0 : Int), (0 : Int), (0 : Int), (IntKind.i64.wrap (1 + (IntKind.i64.wrap (Int.tmod t0 4)))) != 4, 0)] : List (List (List UInt8 × List UInt8) × Int × Bool × Int × Int × Int × Int × Bool × Int)))] : List (List UInt8 × Int × List UInt8 × List UInt8 × List (List (List UInt8 × List UInt8) × Int × Bool × Int × Int × Int × Int × Bool × Int))))).bind fun r16 =>
        some (r16 == ((IntKind.i64.wrap (1 + (IntKind.i64.wrap (Int.tmod t0 4)))) == 1))
      else none
    else none
  else
  bif (Int.tmod o1 9) == 3 then
    bif idx 0 (([(([108] : List UInt8), ([118] : List UInt8))] : List (List UInt8 × List UInt8)).length) then
      bif decide (0 < ([(([108] : List UInt8), ([118] : List UInt8))] : List (List UInt8 × List UInt8)).length) then
        (class_Is.f K (IntKind.i64.wrap (1 + (IntKind.i64.wrap (Int.tmod t0 4)))) (([116] : List UInt8), ([(([97] : List UInt8), 0, ([] : List UInt8), ([] : List UInt8), ([((([(([108] : List UInt8), ([118] : List UInt8))] : List (List UInt8 × List UInt8)).set 0 ((([(([108] : List UInt8), ([118] : List UInt8))] : List (List UInt8 × List UInt8)).getD 0 (([] : List UInt8), ([] : List UInt8))).1, ([97, 10, 98] : List UInt8))), (0 : Int), false, (0 : Int), (0 : Int), (0 : Int), (0 : Int), (IntKind.i64.wrap (1 + (IntKind.i64.wrap (Int.tmod t0 4)))) != 4, 0)] : List (List (List UInt8 × List UInt8) × Int × Bool × Int × Int × Int × Int × Bool × Int)))] : List (List UInt8 × Int × List UInt8 × List UInt8 × List (List (List UInt8 × List UInt8) × Int × Bool × Int × Int × Int × Int × Bool × Int))))).bind fun r17 =>
        some (r17 == ((IntKind.i64.wrap (1 + (IntKind.i64.wrap (Int.tmod t0 4)))) == 1))
      else none
    else none
  else
  bif (Int.tmod o1 9) == 4 then
    (class_Is.f K (IntKind.i64.wrap (1 + (IntKind.i64.wrap (Int.tmod t0 4)))) (([116] : List UInt8), ([(([97, 95, 115] : List UInt8), 0, ([115] : List UInt8), ([] : List UInt8), ([(([(([108] : List UInt8), ([118] : List UInt8))] : List (List UInt8 × List UInt8)), (0 : Int), false, (0 : Int), (0 : Int), (0 : Int), (0 : Int), (IntKind.i64.wrap (1 + (IntKind.i64.wrap (Int.tmod t0 4)))) != 4, 0)] : List (List (List UInt8 × List UInt8) × Int × Bool × Int × Int × Int × Int × Bool × Int)))] : List (List UInt8 × Int × List UInt8 × List UInt8 × List (List (List UInt8 × List UInt8) × Int × Bool × Int × Int × Int × Int × Bool × Int))))).bind fun r18 =>
    some (r18 == ((IntKind.i64.wrap (1 + (IntKind.i64.wrap (Int.tmod t0 4)))) == 1))
  else
  bif (Int.tmod o1 9) == 5 then
    (class_Is.f K (IntKind.i64.wrap (1 + (IntKind.i64.wrap (Int.tmod t0 4)))) (([116] : List UInt8), ([(([97] : List UInt8), 0, ([115] : List UInt8), ([] : List UInt8), ([(([(([108] : List UInt8), ([118] : List UInt8))] : List (List UInt8 × List UInt8)), (0 : Int), false, (0 : Int), (0 : Int), (0 : Int), (0 : Int), (IntKind.i64.wrap (1 + (IntKind.i64.wrap (Int.tmod t0 4)))) != 4, 0)] : List (List (List UInt8 × List UInt8) × Int × Bool × Int × Int × Int × Int × Bool × Int)))] : List (List UInt8 × Int × List UInt8 × List UInt8 × List (List (List UInt8 × List UInt8) × Int × Bool × Int × Int × Int × Int × Bool × Int))))).bind fun r19 =>
    some (r19 == false)
  else
  bif (Int.tmod o1 9) == 6 then
    (class_Is.f K (IntKind.i64.wrap (1 + (IntKind.i64.wrap (Int.tmod t0 4)))) (([116] : List UInt8), ([(([97] : List UInt8), 0, ([] : List UInt8), ([104] : List UInt8), ([(([(([108] : List UInt8), ([118] : List UInt8))] : List (List UInt8 × List UInt8)), (0 : Int), false, (0 : Int), (0 : Int), (0 : Int), (0 : Int), (IntKind.i64.wrap (1 + (IntKind.i64.wrap (Int.tmod t0 4)))) != 4, 0)] : List (List (List UInt8 × List UInt8) × Int × Bool × Int × Int × Int × Int × Bool × Int)))] : List (List UInt8 × Int × List UInt8 × List UInt8 × List (List (List UInt8 × List UInt8) × Int × Bool × Int × Int × Int × Int × Bool × Int))))).bind fun r20 =>
    some (r20 == ((IntKind.i64.wrap (1 + (IntKind.i64.wrap (Int.tmod t0 4)))) == 1))
  else
  bif (Int.tmod o1 9) == 7 then
    (class_Is.f K (IntKind.i64.wrap (1 + (IntKind.i64.wrap (Int.tmod t0 4)))) (([116] : List UInt8), ([(([97] : List UInt8), 0, ([] : List UInt8), ([] : List UInt8), ([] : List (List (List UInt8 × List UInt8) × Int × Bool × Int × Int × Int × Int × Bool × Int)))] : List (List UInt8 × Int × List UInt8 × List UInt8 × List (List (List UInt8 × List UInt8) × Int × Bool × Int × Int × Int × Int × Bool × Int))))).bind fun r21 =>
    some (r21 == ((IntKind.i64.wrap (1 + (IntKind.i64.wrap (Int.tmod t0 4)))) == 1))
  else
  bif (IntKind.i64.wrap (1 + (IntKind.i64.wrap (Int.tmod t0 4)))) == 1 then
    (class_Is.f K (IntKind.i64.wrap (1 + (IntKind.i64.wrap (Int.tmod t0 4)))) (([116] : List UInt8), ([(([97] : List UInt8), 0, ([] : List UInt8), ([] : List UInt8), ([(([(([108] : List UInt8), ([118] : List UInt8))] : List (List UInt8 × List UInt8)), (0 : Int), false, (0 : Int), (0 : Int), (0 : Int), (0 : Int), true, 1)] : List (List (List UInt8 × List UInt8) × Int × Bool × Int × Int × Int × Int × Bool × Int)))] : List (List UInt8 × Int × List UInt8 × List UInt8 × List (List (List UInt8 × List UInt8) × Int × Bool × Int × Int × Int × Int × Bool × Int))))).bind fun r22 =>
    some (r22 == true)
  else
  (class_Is.f K (IntKind.i64.wrap (1 + (IntKind.i64.wrap (Int.tmod t0 4)))) (([116] : List UInt8), ([(([97] : List UInt8), 0, ([] : List UInt8), ([] : List UInt8), ([(([(([108] : List UInt8), ([118] : List UInt8))] : List (List UInt8 × List UInt8)), (0 : Int), false, (0 : Int), (0 : Int), (0 : Int), (0 : Int), true, 1)] : List (List (List UInt8 × List UInt8) × Int × Bool × Int × Int × Int × Int × Bool × Int)))] : List (List UInt8 × Int × List UInt8 × List UInt8 × List (List (List UInt8 × List UInt8) × Int × Bool × Int × Int × Int × Int × Bool × Int))))).bind fun r23 =>
  some (r23 == ((IntKind.i64.wrap (1 + (IntKind.i64.wrap (Int.tmod t0 4)))) == 2))
def polyglotlaw16_ClassParts.sig : Sig := ⟨[(.c (.int .u8)), (.c (.int .u8))], [(.c .bool)]⟩
noncomputable def polyglotlaw16_ClassParts.con (K : Nat) : Con := (mkCon polyglotlaw16_ClassParts.sig (fun x => polyglotlaw16_ClassParts.f K x.1 x.2))
noncomputable def polyglotlaw16_ClassParts.ht : HT := .nil
noncomputable def polyglotlaw16_ClassParts.cx (K : Nat) : Cx := ⟨tt_4, [(6, polyglotlaw16_known.con K), (10, class_Is.con K)], [], K, inlOf tt_4 [(6, polyglotlaw16_known.con K), (10, class_Is.con K)] [] K (getBody [(11, bodyOf Try.f11)]) 1⟩
theorem polyglotlaw16_ClassParts.eq (K : Nat) (x : PL polyglotlaw16_ClassParts.sig.ps) : evalF (polyglotlaw16_ClassParts.cx K) polyglotlaw16_ClassParts.sig (bodyOf Try.f4) polyglotlaw16_ClassParts.ht x = polyglotlaw16_ClassParts.f K x.1 x.2 := by kernel_rfl
theorem polyglotlaw16_ClassParts.fok (K : Nat) : FOK Try.prog polyglotlaw16_ClassParts.sig (fun x => polyglotlaw16_ClassParts.f K x.1 x.2) 4 := fok_of_eval (tt := tt_4) (cons := [(6, polyglotlaw16_known.con K), (10, class_Is.con K)]) (exts := []) (bodies := (getBody [(11, bodyOf Try.f11)])) (K := K) (d := 1) ⟨ttok_4, (getCon_cons (polyglotlaw16_known.ok K) (getCon_cons (class_Is.ok K) (fun _ _ => getCon_nil))), (fun _ _ => getExt_nil), (getBody_cons bok11 (fun _ _ => getBody_nil))⟩ draw bok4 (polyglotlaw16_ClassParts.eq K)
theorem polyglotlaw16_ClassParts.ok (K : Nat) : ConOK Try.prog 4 (polyglotlaw16_ClassParts.con K) := con_ok bok4 (polyglotlaw16_ClassParts.fok K)

end Go.Proofs.Ytclmdnfkdpdacaa
