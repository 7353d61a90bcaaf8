/- What each function of the program comes to, and that it does, part 2. -/
import Derived.Test.YtclmdnfkdpdacaaFnA
import Derived.KernelRfl
set_option linter.unusedVariables false
namespace Go.Proofs.Ytclmdnfkdpdacaa
open Go Go.Rf Go.Proofs Go.RowKit

noncomputable def label_Get.f (K : Nat) (l0 : List (List UInt8 × List UInt8)) (name1 : List UInt8) : Option (List UInt8 × Bool) :=
  ((loopN K (fun (s_ : Int) =>
    match s_ with
    | t225 =>
      bif decide (t225 < (l0.length : Int)) then
        bif idx t225 l0.length then
          bif ((l0.getD t225.toNat (([] : List UInt8), ([] : List UInt8))).1) == name1 then
            some (.inr (.inr ((l0.getD t225.toNat (([] : List UInt8), ([] : List UInt8))).2, true)))
          else some (.inl (IntKind.i64.wrap (t225 + 1)))
        else none
      else some (.inr (.inl ()))) 0 : Option (Unit ⊕ (List UInt8 × Bool)))).bind fun e_ =>
  match e_ with
  | .inl _ =>
    some (([] : List UInt8), false)
  | .inr (t226, t227) =>
    some (t226, t227)
def label_Get.sig : Sig := ⟨[(.c (.sl (.pair .str .str))), (.c .str)], [(.c .str), (.c .bool)]⟩
noncomputable def label_Get.con (K : Nat) : Con := (mkCon label_Get.sig (fun x => label_Get.f K x.1 x.2))
noncomputable def label_Get.ht : HT := .seq .nil (.seq (.seq .nil (.block (.loop ⟨10, [4, 5, 7], [], ⟨[(10, .c (.v (.int .i64)))], []⟩, [(.exit 0, ⟨[], []⟩), (.ret, ⟨[(4, .c (.v .str)), (5, .c (.v .bool))], []⟩)]⟩ .nil))) .nil)
noncomputable def label_Get.cx (K : Nat) : Cx := ⟨tt, [], [], K, inlOf tt [] [] K (getBody []) 0⟩
theorem label_Get.eq (K : Nat) (x : PL label_Get.sig.ps) : evalF (label_Get.cx K) label_Get.sig (bodyOf Try.f73) label_Get.ht x = label_Get.f K x.1 x.2 := by kernel_rfl
theorem label_Get.fok (K : Nat) : FOK Try.prog label_Get.sig (fun x => label_Get.f K x.1 x.2) 73 := fok_of_eval (tt := tt) (cons := []) (exts := []) (bodies := (getBody [])) (K := K) (d := 0) ⟨ttok, (fun _ _ => getCon_nil), (fun _ _ => getExt_nil), (fun _ _ => getBody_nil)⟩ draw bok73 (label_Get.eq K)
theorem label_Get.ok (K : Nat) : ConOK Try.prog 73 (label_Get.con K) := con_ok bok73 (label_Get.fok K)

noncomputable def point_isFree.f (K : Nat) (p0 : List (List UInt8 × List UInt8) × Int × Bool × Int × Int × Int × Int × Bool × Int) : Option Bool :=
  (((
      bif p0.2.1 == 1 then some ([108, 101] : List UInt8)
      else
      bif p0.2.1 == 2 then
        some ([113, 117, 97, 110, 116, 105, 108, 101] : List UInt8)
      else some ([] : List UInt8)) : Option (List UInt8))).bind fun own228 =>
  (label_Get.f K p0.1 own228).bind fun (r229, r230) =>
  bif own228 == ([] : List UInt8) then
    some true
  else some (!r230)
def point_isFree.sig : Sig := ⟨[(.agg (.pair (.sl (.pair .str .str)) (.pair (.int .i64) (.pair .bool (.pair (.int .i64) (.pair (.int .i64) (.pair (.int .i64) (.pair (.int .i64) (.pair .bool (.int .i64))))))))))], [(.c .bool)]⟩
noncomputable def point_isFree.con (K : Nat) : Con := (mkCon point_isFree.sig (fun x => point_isFree.f K x))
noncomputable def point_isFree.ht : HT := .seq .nil (.seq .nil (.join ⟨3, [], [], ⟨[], []⟩, [(.normal, ⟨[(3, .c (.v .str))], []⟩)]⟩ (.seq .nil .nil)))
noncomputable def point_isFree.cx (K : Nat) : Cx := ⟨tt, [(73, label_Get.con K)], [], K, inlOf tt [(73, label_Get.con K)] [] K (getBody []) 0⟩
theorem point_isFree.eq (K : Nat) (x : PL point_isFree.sig.ps) : evalF (point_isFree.cx K) point_isFree.sig (bodyOf Try.f62) point_isFree.ht x = point_isFree.f K x := by kernel_rfl
theorem point_isFree.fok (K : Nat) : FOK Try.prog point_isFree.sig (fun x => point_isFree.f K x) 62 := fok_of_eval (tt := tt) (cons := [(73, label_Get.con K)]) (exts := []) (bodies := (getBody [])) (K := K) (d := 0) ⟨ttok, (getCon_cons (label_Get.ok K) (fun _ _ => getCon_nil)), (fun _ _ => getExt_nil), (fun _ _ => getBody_nil)⟩ draw bok62 (point_isFree.eq K)
theorem point_isFree.ok (K : Nat) : ConOK Try.prog 62 (point_isFree.con K) := con_ok bok62 (point_isFree.fok K)

noncomputable def point_Good.f (K : Nat) (kind0 : Int) (p1 : List (List UInt8 × List UInt8) × Int × Bool × Int × Int × Int × Int × Bool × Int) : Option Bool :=
  (point_Roles.f K kind0).bind fun r231 =>
  (slices_Contains_int_int.f K r231 p1.2.1).bind fun r232 =>
  bif r232 then
    (label_Good.f K p1.1).bind fun r233 =>
    bif r233 then
      (point_isBound.f K p1).bind fun r234 =>
      bif r234 then
        (point_isValue.f K kind0 p1).bind fun r235 =>
        bif r235 then
          (point_isTime.f K p1).bind fun r236 =>
          bif r236 then
            (point_isFree.f K p1).bind fun r237 =>
            some r237
          else some false
        else some false
      else some false
    else some false
  else some false
def point_Good.sig : Sig := ⟨[(.c (.int .i64)), (.agg (.pair (.sl (.pair .str .str)) (.pair (.int .i64) (.pair .bool (.pair (.int .i64) (.pair (.int .i64) (.pair (.int .i64) (.pair (.int .i64) (.pair .bool (.int .i64))))))))))], [(.c .bool)]⟩
noncomputable def point_Good.con (K : Nat) : Con := (mkCon point_Good.sig (fun x => point_Good.f K x.1 x.2))
noncomputable def point_Good.ht : HT := .nil
noncomputable def point_Good.cx (K : Nat) : Cx := ⟨tt, [(57, point_Roles.con K), (29, slices_Contains_int_int.con K), (58, label_Good.con K), (59, point_isBound.con K), (60, point_isValue.con K), (61, point_isTime.con K), (62, point_isFree.con K)], [], K, inlOf tt [(57, point_Roles.con K), (29, slices_Contains_int_int.con K), (58, label_Good.con K), (59, point_isBound.con K), (60, point_isValue.con K), (61, point_isTime.con K), (62, point_isFree.con K)] [] K (getBody []) 0⟩
theorem point_Good.eq (K : Nat) (x : PL point_Good.sig.ps) : evalF (point_Good.cx K) point_Good.sig (bodyOf Try.f43) point_Good.ht x = point_Good.f K x.1 x.2 := by kernel_rfl
theorem point_Good.fok (K : Nat) : FOK Try.prog point_Good.sig (fun x => point_Good.f K x.1 x.2) 43 := fok_of_eval (tt := tt) (cons := [(57, point_Roles.con K), (29, slices_Contains_int_int.con K), (58, label_Good.con K), (59, point_isBound.con K), (60, point_isValue.con K), (61, point_isTime.con K), (62, point_isFree.con K)]) (exts := []) (bodies := (getBody [])) (K := K) (d := 0) ⟨ttok, (getCon_cons (point_Roles.ok K) (getCon_cons (slices_Contains_int_int.ok K) (getCon_cons (label_Good.ok K) (getCon_cons (point_isBound.ok K) (getCon_cons (point_isValue.ok K) (getCon_cons (point_isTime.ok K) (getCon_cons (point_isFree.ok K) (fun _ _ => getCon_nil)))))))), (fun _ _ => getExt_nil), (fun _ _ => getBody_nil)⟩ draw bok43 (point_Good.eq K)
theorem point_Good.ok (K : Nat) : ConOK Try.prog 43 (point_Good.con K) := con_ok bok43 (point_Good.fok K)

noncomputable def cmp_Or_int.f (K : Nat) (vals0 : List Int) : Option Int :=
  ((loopN K (fun (s_ : Int) =>
    match s_ with
    | t240 =>
      bif decide (t240 < (vals0.length : Int)) then
        bif idx t240 vals0.length then
          bif (vals0.getD t240.toNat (0 : Int)) != 0 then
            some (.inr (.inr (vals0.getD t240.toNat (0 : Int))))
          else some (.inl (IntKind.i64.wrap (t240 + 1)))
        else none
      else some (.inr (.inl ()))) 0 : Option (Unit ⊕ Int))).bind fun e_ =>
  match e_ with
  | .inl _ =>
    some 0
  | .inr t241 =>
    some t241
def cmp_Or_int.sig : Sig := ⟨[(.c (.sl (.int .i64)))], [(.c (.int .i64))]⟩
noncomputable def cmp_Or_int.con (K : Nat) : Con := (mkCon cmp_Or_int.sig (fun x => cmp_Or_int.f K x))
noncomputable def cmp_Or_int.ht : HT := .seq .nil (.seq .nil (.seq (.seq .nil (.block (.loop ⟨8, [2, 5], [], ⟨[(8, .c (.v (.int .i64)))], []⟩, [(.exit 0, ⟨[], []⟩), (.ret, ⟨[(2, .c (.v (.int .i64)))], []⟩)]⟩ .nil))) .nil))
noncomputable def cmp_Or_int.cx (K : Nat) : Cx := ⟨tt, [], [], K, inlOf tt [] [] K (getBody []) 0⟩
theorem cmp_Or_int.eq (K : Nat) (x : PL cmp_Or_int.sig.ps) : evalF (cmp_Or_int.cx K) cmp_Or_int.sig (bodyOf Try.f74) cmp_Or_int.ht x = cmp_Or_int.f K x := by kernel_rfl
theorem cmp_Or_int.fok (K : Nat) : FOK Try.prog cmp_Or_int.sig (fun x => cmp_Or_int.f K x) 74 := fok_of_eval (tt := tt) (cons := []) (exts := []) (bodies := (getBody [])) (K := K) (d := 0) ⟨ttok, (fun _ _ => getCon_nil), (fun _ _ => getExt_nil), (fun _ _ => getBody_nil)⟩ draw bok74 (cmp_Or_int.eq K)
theorem cmp_Or_int.ok (K : Nat) : ConOK Try.prog 74 (cmp_Or_int.con K) := con_ok bok74 (cmp_Or_int.fok K)

noncomputable def bytealg_CompareString.f (K : Nat) (a0 : List UInt8) (b1 : List UInt8) : Option Int :=
  some (cmpL a0 b1)
def bytealg_CompareString.sig : Sig := ⟨[(.c .str), (.c .str)], [(.c (.int .i64))]⟩
noncomputable def bytealg_CompareString.con (K : Nat) : Con := (mkCon bytealg_CompareString.sig (fun x => bytealg_CompareString.f K x.1 x.2))
noncomputable def bytealg_CompareString.ht : HT := .nil
noncomputable def bytealg_CompareString.cx (K : Nat) : Cx := ⟨tt, [], [(93, .cmp)], K, inlOf tt [] [(93, .cmp)] K (getBody []) 0⟩
theorem bytealg_CompareString.eq (K : Nat) (x : PL bytealg_CompareString.sig.ps) : evalF (bytealg_CompareString.cx K) bytealg_CompareString.sig (bodyOf Try.f91) bytealg_CompareString.ht x = bytealg_CompareString.f K x.1 x.2 := by kernel_rfl
theorem bytealg_CompareString.fok (K : Nat) : FOK Try.prog bytealg_CompareString.sig (fun x => bytealg_CompareString.f K x.1 x.2) 91 := fok_of_eval (tt := tt) (cons := []) (exts := [(93, .cmp)]) (bodies := (getBody [])) (K := K) (d := 0) ⟨ttok, (fun _ _ => getCon_nil), (getExt_cons ext93 (fun _ _ => getExt_nil)), (fun _ _ => getBody_nil)⟩ draw bok91 (bytealg_CompareString.eq K)
theorem bytealg_CompareString.ok (K : Nat) : ConOK Try.prog 91 (bytealg_CompareString.con K) := con_ok bok91 (bytealg_CompareString.fok K)

noncomputable def strings_Compare.f (K : Nat) (a0 : List UInt8) (b1 : List UInt8) : Option Int :=
  (bytealg_CompareString.f K a0 b1).bind fun r242 =>
  some r242
def strings_Compare.sig : Sig := ⟨[(.c .str), (.c .str)], [(.c (.int .i64))]⟩
noncomputable def strings_Compare.con (K : Nat) : Con := (mkCon strings_Compare.sig (fun x => strings_Compare.f K x.1 x.2))
noncomputable def strings_Compare.ht : HT := .nil
noncomputable def strings_Compare.cx (K : Nat) : Cx := ⟨tt, [(91, bytealg_CompareString.con K)], [], K, inlOf tt [(91, bytealg_CompareString.con K)] [] K (getBody []) 0⟩
theorem strings_Compare.eq (K : Nat) (x : PL strings_Compare.sig.ps) : evalF (strings_Compare.cx K) strings_Compare.sig (bodyOf Try.f84) strings_Compare.ht x = strings_Compare.f K x.1 x.2 := by kernel_rfl
theorem strings_Compare.fok (K : Nat) : FOK Try.prog strings_Compare.sig (fun x => strings_Compare.f K x.1 x.2) 84 := fok_of_eval (tt := tt) (cons := [(91, bytealg_CompareString.con K)]) (exts := []) (bodies := (getBody [])) (K := K) (d := 0) ⟨ttok, (getCon_cons (bytealg_CompareString.ok K) (fun _ _ => getCon_nil)), (fun _ _ => getExt_nil), (fun _ _ => getBody_nil)⟩ draw bok84 (strings_Compare.eq K)
theorem strings_Compare.ok (K : Nat) : ConOK Try.prog 84 (strings_Compare.con K) := con_ok bok84 (strings_Compare.fok K)

noncomputable def label_Compare_1.f (K : Nat) (x0 : List UInt8 × List UInt8) (y1 : List UInt8 × List UInt8) : Option Int :=
  (strings_Compare.f K x0.1 y1.1).bind fun r243 =>
  (strings_Compare.f K x0.2 y1.2).bind fun r244 =>
  (cmp_Or_int.f K ([r243, r244] : List Int)).bind fun r245 =>
  some r245
def label_Compare_1.sig : Sig := ⟨[(.agg (.pair .str .str)), (.agg (.pair .str .str))], [(.c (.int .i64))]⟩
noncomputable def label_Compare_1.con (K : Nat) : Con := (mkCon label_Compare_1.sig (fun x => label_Compare_1.f K x.1 x.2))
noncomputable def label_Compare_1.ht : HT := .nil
noncomputable def label_Compare_1.cx (K : Nat) : Cx := ⟨tt, [(84, strings_Compare.con K), (74, cmp_Or_int.con K)], [], K, inlOf tt [(84, strings_Compare.con K), (74, cmp_Or_int.con K)] [] K (getBody []) 0⟩
theorem label_Compare_1.eq (K : Nat) (x : PL label_Compare_1.sig.ps) : evalF (label_Compare_1.cx K) label_Compare_1.sig (bodyOf Try.f83) label_Compare_1.ht x = label_Compare_1.f K x.1 x.2 := by kernel_rfl
theorem label_Compare_1.fok (K : Nat) : FOK Try.prog label_Compare_1.sig (fun x => label_Compare_1.f K x.1 x.2) 83 := fok_of_eval (tt := tt) (cons := [(84, strings_Compare.con K), (74, cmp_Or_int.con K)]) (exts := []) (bodies := (getBody [])) (K := K) (d := 0) ⟨ttok, (getCon_cons (strings_Compare.ok K) (getCon_cons (cmp_Or_int.ok K) (fun _ _ => getCon_nil))), (fun _ _ => getExt_nil), (fun _ _ => getBody_nil)⟩ draw bok83 (label_Compare_1.eq K)
theorem label_Compare_1.ok (K : Nat) : ConOK Try.prog 83 (label_Compare_1.con K) := con_ok bok83 (label_Compare_1.fok K)

noncomputable def label_Compare.f (K : Nat) (a0 : List (List UInt8 × List UInt8)) (b1 : List (List UInt8 × List UInt8)) : Option Int :=
  ((loopN K (fun (s_ : Int) =>
    match s_ with
    | t249 =>
      bif decide (t249 < (a0.length : Int)) then
        bif idx t249 a0.length then
          bif decide (t249 ≥ (b1.length : Int)) then some (.inr (.inr 1))
          else
          bif idx t249 b1.length then
            (label_Compare_1.f K (a0.getD t249.toNat (([] : List UInt8), ([] : List UInt8))) (b1.getD t249.toNat (([] : List UInt8), ([] : List UInt8)))).bind fun r250 =>
            bif r250 != 0 then
              some (.inr (.inr r250))
            else some (.inl (IntKind.i64.wrap (t249 + 1)))
          else none
        else none
      else some (.inr (.inl ()))) 0 : Option (Unit ⊕ Int))).bind fun e_ =>
  match e_ with
  | .inl _ =>
    bif decide ((a0.length : Int) < (b1.length : Int)) then
      some (-1)
    else some 0
  | .inr t251 =>
    some t251
def label_Compare.sig : Sig := ⟨[(.c (.sl (.pair .str .str))), (.c (.sl (.pair .str .str)))], [(.c (.int .i64))]⟩
noncomputable def label_Compare.con (K : Nat) : Con := (mkCon label_Compare.sig (fun x => label_Compare.f K x.1 x.2))
noncomputable def label_Compare.ht : HT := .seq .nil (.seq (.calls [(2, .seq .nil (.seq (.seq .nil (.block (.loop ⟨13, [6, 7, 8, 9, 10], [], ⟨[(13, .c (.v (.int .i64)))], []⟩, [(.exit 0, ⟨[], []⟩), (.ret, ⟨[(6, .c (.v (.int .i64)))], []⟩)]⟩ .nil))) .nil))]) .nil)
noncomputable def label_Compare.cx (K : Nat) : Cx := ⟨tt, [(83, label_Compare_1.con K)], [], K, inlOf tt [(83, label_Compare_1.con K)] [] K (getBody [(82, bodyOf Try.f82)]) 1⟩
theorem label_Compare.eq (K : Nat) (x : PL label_Compare.sig.ps) : evalF (label_Compare.cx K) label_Compare.sig (bodyOf Try.f75) label_Compare.ht x = label_Compare.f K x.1 x.2 := by kernel_rfl
theorem label_Compare.fok (K : Nat) : FOK Try.prog label_Compare.sig (fun x => label_Compare.f K x.1 x.2) 75 := fok_of_eval (tt := tt) (cons := [(83, label_Compare_1.con K)]) (exts := []) (bodies := (getBody [(82, bodyOf Try.f82)])) (K := K) (d := 1) ⟨ttok, (getCon_cons (label_Compare_1.ok K) (fun _ _ => getCon_nil)), (fun _ _ => getExt_nil), (getBody_cons bok82 (fun _ _ => getBody_nil))⟩ draw bok75 (label_Compare.eq K)
theorem label_Compare.ok (K : Nat) : ConOK Try.prog 75 (label_Compare.con K) := con_ok bok75 (label_Compare.fok K)

noncomputable def point_bools.f (K : Nat) (a0 : Bool) (b1 : Bool) : Option Int :=
  bif a0 == b1 then some 0
  else
  bif b1 then
    some (-1)
  else some 1
def point_bools.sig : Sig := ⟨[(.c .bool), (.c .bool)], [(.c (.int .i64))]⟩
noncomputable def point_bools.con (K : Nat) : Con := (mkCon point_bools.sig (fun x => point_bools.f K x.1 x.2))
noncomputable def point_bools.ht : HT := .nil
noncomputable def point_bools.cx (K : Nat) : Cx := ⟨tt, [], [], K, inlOf tt [] [] K (getBody []) 0⟩
theorem point_bools.eq (K : Nat) (x : PL point_bools.sig.ps) : evalF (point_bools.cx K) point_bools.sig (bodyOf Try.f76) point_bools.ht x = point_bools.f K x.1 x.2 := by kernel_rfl
theorem point_bools.fok (K : Nat) : FOK Try.prog point_bools.sig (fun x => point_bools.f K x.1 x.2) 76 := fok_of_eval (tt := tt) (cons := []) (exts := []) (bodies := (getBody [])) (K := K) (d := 0) ⟨ttok, (fun _ _ => getCon_nil), (fun _ _ => getExt_nil), (fun _ _ => getBody_nil)⟩ draw bok76 (point_bools.eq K)
theorem point_bools.ok (K : Nat) : ConOK Try.prog 76 (point_bools.con K) := con_ok bok76 (point_bools.fok K)

noncomputable def cmp_isNaN_int64.f (K : Nat) (x0 : Int) : Option Bool :=
  some (x0 != x0)
def cmp_isNaN_int64.sig : Sig := ⟨[(.c (.int .i64))], [(.c .bool)]⟩
noncomputable def cmp_isNaN_int64.con (K : Nat) : Con := (mkCon cmp_isNaN_int64.sig (fun x => cmp_isNaN_int64.f K x))
noncomputable def cmp_isNaN_int64.ht : HT := .nil
noncomputable def cmp_isNaN_int64.cx (K : Nat) : Cx := ⟨tt, [], [], K, inlOf tt [] [] K (getBody []) 0⟩
theorem cmp_isNaN_int64.eq (K : Nat) (x : PL cmp_isNaN_int64.sig.ps) : evalF (cmp_isNaN_int64.cx K) cmp_isNaN_int64.sig (bodyOf Try.f85) cmp_isNaN_int64.ht x = cmp_isNaN_int64.f K x := by kernel_rfl
theorem cmp_isNaN_int64.fok (K : Nat) : FOK Try.prog cmp_isNaN_int64.sig (fun x => cmp_isNaN_int64.f K x) 85 := fok_of_eval (tt := tt) (cons := []) (exts := []) (bodies := (getBody [])) (K := K) (d := 0) ⟨ttok, (fun _ _ => getCon_nil), (fun _ _ => getExt_nil), (fun _ _ => getBody_nil)⟩ draw bok85 (cmp_isNaN_int64.eq K)
theorem cmp_isNaN_int64.ok (K : Nat) : ConOK Try.prog 85 (cmp_isNaN_int64.con K) := con_ok bok85 (cmp_isNaN_int64.fok K)

noncomputable def cmp_Compare_int64.f (K : Nat) (x0 : Int) (y1 : Int) : Option Int :=
  (cmp_isNaN_int64.f K x0).bind fun r252 =>
  (cmp_isNaN_int64.f K y1).bind fun r253 =>
  bif r252 then
    bif r253 then
      some 0
    else some (-1)
  else
  bif r253 then some 1
  else
  bif decide (x0 < y1) then some (-1)
  else
  bif decide (x0 > y1) then
    some 1
  else some 0
def cmp_Compare_int64.sig : Sig := ⟨[(.c (.int .i64)), (.c (.int .i64))], [(.c (.int .i64))]⟩
noncomputable def cmp_Compare_int64.con (K : Nat) : Con := (mkCon cmp_Compare_int64.sig (fun x => cmp_Compare_int64.f K x.1 x.2))
noncomputable def cmp_Compare_int64.ht : HT := .nil
noncomputable def cmp_Compare_int64.cx (K : Nat) : Cx := ⟨tt, [(85, cmp_isNaN_int64.con K)], [], K, inlOf tt [(85, cmp_isNaN_int64.con K)] [] K (getBody []) 0⟩
theorem cmp_Compare_int64.eq (K : Nat) (x : PL cmp_Compare_int64.sig.ps) : evalF (cmp_Compare_int64.cx K) cmp_Compare_int64.sig (bodyOf Try.f77) cmp_Compare_int64.ht x = cmp_Compare_int64.f K x.1 x.2 := by kernel_rfl
theorem cmp_Compare_int64.fok (K : Nat) : FOK Try.prog cmp_Compare_int64.sig (fun x => cmp_Compare_int64.f K x.1 x.2) 77 := fok_of_eval (tt := tt) (cons := [(85, cmp_isNaN_int64.con K)]) (exts := []) (bodies := (getBody [])) (K := K) (d := 0) ⟨ttok, (getCon_cons (cmp_isNaN_int64.ok K) (fun _ _ => getCon_nil)), (fun _ _ => getExt_nil), (fun _ _ => getBody_nil)⟩ draw bok77 (cmp_Compare_int64.eq K)
theorem cmp_Compare_int64.ok (K : Nat) : ConOK Try.prog 77 (cmp_Compare_int64.con K) := con_ok bok77 (cmp_Compare_int64.fok K)

noncomputable def cmp_isNaN_int.f (K : Nat) (x0 : Int) : Option Bool :=
  some (x0 != x0)
def cmp_isNaN_int.sig : Sig := ⟨[(.c (.int .i64))], [(.c .bool)]⟩
noncomputable def cmp_isNaN_int.con (K : Nat) : Con := (mkCon cmp_isNaN_int.sig (fun x => cmp_isNaN_int.f K x))
noncomputable def cmp_isNaN_int.ht : HT := .nil
noncomputable def cmp_isNaN_int.cx (K : Nat) : Cx := ⟨tt, [], [], K, inlOf tt [] [] K (getBody []) 0⟩
theorem cmp_isNaN_int.eq (K : Nat) (x : PL cmp_isNaN_int.sig.ps) : evalF (cmp_isNaN_int.cx K) cmp_isNaN_int.sig (bodyOf Try.f86) cmp_isNaN_int.ht x = cmp_isNaN_int.f K x := by kernel_rfl
theorem cmp_isNaN_int.fok (K : Nat) : FOK Try.prog cmp_isNaN_int.sig (fun x => cmp_isNaN_int.f K x) 86 := fok_of_eval (tt := tt) (cons := []) (exts := []) (bodies := (getBody [])) (K := K) (d := 0) ⟨ttok, (fun _ _ => getCon_nil), (fun _ _ => getExt_nil), (fun _ _ => getBody_nil)⟩ draw bok86 (cmp_isNaN_int.eq K)
theorem cmp_isNaN_int.ok (K : Nat) : ConOK Try.prog 86 (cmp_isNaN_int.con K) := con_ok bok86 (cmp_isNaN_int.fok K)

noncomputable def cmp_Compare_int.f (K : Nat) (x0 : Int) (y1 : Int) : Option Int :=
  (cmp_isNaN_int.f K x0).bind fun r254 =>
  (cmp_isNaN_int.f K y1).bind fun r255 =>
  bif r254 then
    bif r255 then
      some 0
    else some (-1)
  else
  bif r255 then some 1
  else
  bif decide (x0 < y1) then some (-1)
  else
  bif decide (x0 > y1) then
    some 1
  else some 0
def cmp_Compare_int.sig : Sig := ⟨[(.c (.int .i64)), (.c (.int .i64))], [(.c (.int .i64))]⟩
noncomputable def cmp_Compare_int.con (K : Nat) : Con := (mkCon cmp_Compare_int.sig (fun x => cmp_Compare_int.f K x.1 x.2))
noncomputable def cmp_Compare_int.ht : HT := .nil
noncomputable def cmp_Compare_int.cx (K : Nat) : Cx := ⟨tt, [(86, cmp_isNaN_int.con K)], [], K, inlOf tt [(86, cmp_isNaN_int.con K)] [] K (getBody []) 0⟩
theorem cmp_Compare_int.eq (K : Nat) (x : PL cmp_Compare_int.sig.ps) : evalF (cmp_Compare_int.cx K) cmp_Compare_int.sig (bodyOf Try.f78) cmp_Compare_int.ht x = cmp_Compare_int.f K x.1 x.2 := by kernel_rfl
theorem cmp_Compare_int.fok (K : Nat) : FOK Try.prog cmp_Compare_int.sig (fun x => cmp_Compare_int.f K x.1 x.2) 78 := fok_of_eval (tt := tt) (cons := [(86, cmp_isNaN_int.con K)]) (exts := []) (bodies := (getBody [])) (K := K) (d := 0) ⟨ttok, (getCon_cons (cmp_isNaN_int.ok K) (fun _ _ => getCon_nil)), (fun _ _ => getExt_nil), (fun _ _ => getBody_nil)⟩ draw bok78 (cmp_Compare_int.eq K)
theorem cmp_Compare_int.ok (K : Nat) : ConOK Try.prog 78 (cmp_Compare_int.con K) := con_ok bok78 (cmp_Compare_int.fok K)

noncomputable def point_Compare.f (K : Nat) (p0 : List (List UInt8 × List UInt8) × Int × Bool × Int × Int × Int × Int × Bool × Int) (q1 : List (List UInt8 × List UInt8) × Int × Bool × Int × Int × Int × Int × Bool × Int) : Option Int :=
  (label_Compare.f K p0.1 q1.1).bind fun r256 =>
  (point_bools.f K p0.2.2.2.2.2.2.2.1 q1.2.2.2.2.2.2.2.1).bind fun r257 =>
  (cmp_Compare_int64.f K p0.2.2.2.2.2.2.2.2 q1.2.2.2.2.2.2.2.2).bind fun r258 =>
  (cmp_Compare_int.f K p0.2.1 q1.2.1).bind fun r259 =>
  (point_bools.f K p0.2.2.1 q1.2.2.1).bind fun r260 =>
  (sum_Compare.f K (p0.2.2.2.1, p0.2.2.2.2.1) (q1.2.2.2.1, q1.2.2.2.2.1)).bind fun r261 =>
  (cmp_Or_int.f K ([r256, r257, r258, r259, r260, r261] : List Int)).bind fun r262 =>
  some r262
def point_Compare.sig : Sig := ⟨[(.agg (.pair (.sl (.pair .str .str)) (.pair (.int .i64) (.pair .bool (.pair (.int .i64) (.pair (.int .i64) (.pair (.int .i64) (.pair (.int .i64) (.pair .bool (.int .i64)))))))))), (.agg (.pair (.sl (.pair .str .str)) (.pair (.int .i64) (.pair .bool (.pair (.int .i64) (.pair (.int .i64) (.pair (.int .i64) (.pair (.int .i64) (.pair .bool (.int .i64))))))))))], [(.c (.int .i64))]⟩
noncomputable def point_Compare.con (K : Nat) : Con := (mkCon point_Compare.sig (fun x => point_Compare.f K x.1 x.2))
noncomputable def point_Compare.ht : HT := .nil
noncomputable def point_Compare.cx (K : Nat) : Cx := ⟨tt, [(75, label_Compare.con K), (76, point_bools.con K), (77, cmp_Compare_int64.con K), (78, cmp_Compare_int.con K), (72, sum_Compare.con K), (74, cmp_Or_int.con K)], [], K, inlOf tt [(75, label_Compare.con K), (76, point_bools.con K), (77, cmp_Compare_int64.con K), (78, cmp_Compare_int.con K), (72, sum_Compare.con K), (74, cmp_Or_int.con K)] [] K (getBody []) 0⟩
theorem point_Compare.eq (K : Nat) (x : PL point_Compare.sig.ps) : evalF (point_Compare.cx K) point_Compare.sig (bodyOf Try.f63) point_Compare.ht x = point_Compare.f K x.1 x.2 := by kernel_rfl
theorem point_Compare.fok (K : Nat) : FOK Try.prog point_Compare.sig (fun x => point_Compare.f K x.1 x.2) 63 := fok_of_eval (tt := tt) (cons := [(75, label_Compare.con K), (76, point_bools.con K), (77, cmp_Compare_int64.con K), (78, cmp_Compare_int.con K), (72, sum_Compare.con K), (74, cmp_Or_int.con K)]) (exts := []) (bodies := (getBody [])) (K := K) (d := 0) ⟨ttok, (getCon_cons (label_Compare.ok K) (getCon_cons (point_bools.ok K) (getCon_cons (cmp_Compare_int64.ok K) (getCon_cons (cmp_Compare_int.ok K) (getCon_cons (sum_Compare.ok K) (getCon_cons (cmp_Or_int.ok K) (fun _ _ => getCon_nil))))))), (fun _ _ => getExt_nil), (fun _ _ => getBody_nil)⟩ draw bok63 (point_Compare.eq K)
theorem point_Compare.ok (K : Nat) : ConOK Try.prog 63 (point_Compare.con K) := con_ok bok63 (point_Compare.fok K)

noncomputable def family_rises.f (K : Nat) (l0 : List (List (List UInt8 × List UInt8) × Int × Bool × Int × Int × Int × Int × Bool × Int)) : Option Bool :=
  ((loopN K (fun (s_ : Int) =>
    match s_ with
    | i267 =>
      bif decide (i267 < (l0.length : Int)) then
        bif idx (IntKind.i64.wrap (i267 - 1)) l0.length then
          bif idx i267 l0.length then
            (point_Compare.f K ((l0.getD ((IntKind.i64.wrap (i267 - 1)).toNat) (([] : List (List UInt8 × List UInt8)), ((0 : Int), (false, ((0 : Int), ((0 : Int), ((0 : Int), ((0 : Int), (false, (0 : Int)))))))))).1, ((l0.getD ((IntKind.i64.wrap (i267 - 1)).toNat) (([] : List (List UInt8 × List UInt8)), ((0 : Int), (false, ((0 : Int), ((0 : Int), ((0 : Int), ((0 : Int), (false, (0 : Int)))))))))).2).1, (((l0.getD ((IntKind.i64.wrap (i267 - 1)).toNat) (([] : List (List UInt8 × List UInt8)), ((0 : Int), (false, ((0 : Int), ((0 : Int), ((0 : Int), ((0 : Int), (false, (0 : Int)))))))))).2).2).1, ((((l0.getD ((IntKind.i64.wrap (i267 - 1)).toNat) (([] : List (List UInt8 × List UInt8)), ((0 : Int), (false, ((0 : Int), ((0 : Int), ((0 : Int), ((0 : Int), (false, (0 : Int)))))))))).2).2).2).1, (((((l0.getD ((IntKind.i64.wrap (i267 - 1)).toNat) (([] : List (List UInt8 × List UInt8)), ((0 : Int), (false, ((0 : Int), ((0 : Int), ((0 : Int), ((0 : Int), (false, (0 : Int)))))))))).2).2).2).2).1, ((((((l0.getD ((IntKind.i64.wrap (i267 - 1)).toNat) (([] : List (List UInt8 × List UInt8)), ((0 : Int), (false, ((0 : Int), ((0 : Int), ((0 : Int), ((0 : Int), (false, (0 : Int)))))))))).2).2).2).2).2).1, (((((((l0.getD ((IntKind.i64.wrap (i267 - 1)).toNat) (([] : List (List UInt8 × List UInt8)), ((0 : Int), (false, ((0 : Int), ((0 : Int), ((0 : Int), ((0 : Int), (false, (0 : Int)))))))))).2).2).2).2).2).2).1, ((((((((l0.getD ((IntKind.i64.wrap (i267 - 1)).toNat) (([] : List (List UInt8 × List UInt8)), ((0 : Int), (false, ((0 : Int), ((0 : Int), ((0 : Int), ((0 : Int), (false, (0 : Int)))))))))).2).2).2).2).2).2).2).1, ((((((((l0.getD ((IntKind.i64.wrap (i267 - 1)).toNat) (([] : List (List UInt8 × List UInt8)), ((0 : Int), (false, ((0 : Int), ((0 : Int), ((0 : Int), ((0 : Int), (false, (0 : Int)))))))))).2).2).2).2).2).2).2).2) ((l0.getD i267.toNat (([] : List (List UInt8 × List UInt8)), ((0 : Int), (false, ((0 : Int), ((0 : Int), ((0 : Int), ((0 : Int), (false, (0 : Int)))))))))).1, ((l0.getD i267.toNat (([] : List (List UInt8 × List UInt8)), ((0 : Int), (false, ((0 : Int), ((0 : Int), ((0 : Int), ((0 : Int), (false, (0 : Int)))))))))).2).1, (((l0.getD i267.toNat (([] : List (List UInt8 × List UInt8)), ((0 : Int), (false, ((0 : Int), ((0 : Int), ((0 : Int), ((0 : Int), (false, (0 : Int)))))))))).2).2).1, ((((l0.getD i267.toNat (([] : List (List UInt8 × List UInt8)), ((0 : Int), (false, ((0 : Int), ((0 : Int), ((0 : Int), ((0 : Int), (false, (0 : Int)))))))))).2).2).2).1, (((((l0.getD i267.toNat (([] : List (List UInt8 × List UInt8)), ((0 : Int), (false, ((0 : Int), ((0 : Int), ((0 : Int), ((0 : Int), (false, (0 : Int)))))))))).2).2).2).2).1, ((((((l0.getD i267.toNat (([] : List (List UInt8 × List UInt8)), ((0 : Int), (false, ((0 : Int), ((0 : Int), ((0 : Int), ((0 : Int), (false, (0 : Int)))))))))).2).2).2).2).2).1, (((((((l0.getD i267.toNat (([] : List (List UInt8 × List UInt8)), ((0 : Int), (false, ((0 : Int), ((0 : Int), ((0 : Int), ((0 : Int), (false, (0 : Int)))))))))).2).2).2).2).2).2).1, ((((((((l0.getD i267.toNat (([] : List (List UInt8 × List UInt8)), ((0 : Int), (false, ((0 : Int), ((0 : Int), ((0 : Int), ((0 : Int), (false, (0 : Int)))))))))).2).2).2).2).2).2).2).1, ((((((((l0.getD i267.toNat (([] : List (List UInt8 × List UInt8)), ((0 : Int), (false, ((0 : Int), ((0 : Int), ((0 : Int), ((0 : Int), (false, (0 : Int)))))))))).2).2).2).2).2).2).2).2)).bind fun r268 =>
            bif decide (r268 ≥ 0) then
              some (.inr (.inr false))
            else some (.inl (IntKind.i64.wrap (i267 + 1)))
          else none
        else none
      else some (.inr (.inl ()))) 1 : Option (Unit ⊕ Bool))).bind fun e_ =>
  match e_ with
  | .inl _ =>
    some true
  | .inr t269 =>
    some t269
def family_rises.sig : Sig := ⟨[(.c (.sl (.pair (.sl (.pair .str .str)) (.pair (.int .i64) (.pair .bool (.pair (.int .i64) (.pair (.int .i64) (.pair (.int .i64) (.pair (.int .i64) (.pair .bool (.int .i64)))))))))))], [(.c .bool)]⟩
noncomputable def family_rises.con (K : Nat) : Con := (mkCon family_rises.sig (fun x => family_rises.f K x))
noncomputable def family_rises.ht : HT := .seq .nil (.seq (.seq .nil (.block (.loop ⟨1, [], [], ⟨[(3, .c (.v (.int .i64)))], []⟩, [(.exit 0, ⟨[], []⟩), (.ret, ⟨[(2, .c (.v .bool))], []⟩)]⟩ .nil))) .nil)
noncomputable def family_rises.cx (K : Nat) : Cx := ⟨tt, [(63, point_Compare.con K)], [], K, inlOf tt [(63, point_Compare.con K)] [] K (getBody []) 0⟩
theorem family_rises.eq (K : Nat) (x : PL family_rises.sig.ps) : evalF (family_rises.cx K) family_rises.sig (bodyOf Try.f44) family_rises.ht x = family_rises.f K x := by kernel_rfl
theorem family_rises.fok (K : Nat) : FOK Try.prog family_rises.sig (fun x => family_rises.f K x) 44 := fok_of_eval (tt := tt) (cons := [(63, point_Compare.con K)]) (exts := []) (bodies := (getBody [])) (K := K) (d := 0) ⟨ttok, (getCon_cons (point_Compare.ok K) (fun _ _ => getCon_nil)), (fun _ _ => getExt_nil), (fun _ _ => getBody_nil)⟩ draw bok44 (family_rises.eq K)
theorem family_rises.ok (K : Nat) : ConOK Try.prog 44 (family_rises.con K) := con_ok bok44 (family_rises.fok K)

noncomputable def family_Good.f (K : Nat) (f0 : List UInt8 × Int × List UInt8 × List UInt8 × List (List (List UInt8 × List UInt8) × Int × Bool × Int × Int × Int × Int × Bool × Int)) : Option Bool :=
  (((
      (label_Name.f K f0.1).bind fun r271 =>
      bif !r271 then some true
      else
      (family_Typed.f K f0.2.1).bind fun r272 =>
      bif r272 == ([] : List UInt8) then some true
      else
      (label_Value.f K f0.2.2.1).bind fun r273 =>
      bif !r273 then some true
      else
      (label_Value.f K f0.2.2.2.1).bind fun r274 =>
      some (!r274)) : Option Bool)).bind fun t275 =>
  bif t275 then some false
  else
  ((loopN K (fun (s_ : Int) =>
    match s_ with
    | t280 =>
      bif decide (t280 < (f0.2.2.2.2.length : Int)) then
        bif idx t280 f0.2.2.2.2.length then
          (point_Good.f K f0.2.1 ((f0.2.2.2.2.getD t280.toNat (([] : List (List UInt8 × List UInt8)), ((0 : Int), (false, ((0 : Int), ((0 : Int), ((0 : Int), ((0 : Int), (false, (0 : Int)))))))))).1, ((f0.2.2.2.2.getD t280.toNat (([] : List (List UInt8 × List UInt8)), ((0 : Int), (false, ((0 : Int), ((0 : Int), ((0 : Int), ((0 : Int), (false, (0 : Int)))))))))).2).1, (((f0.2.2.2.2.getD t280.toNat (([] : List (List UInt8 × List UInt8)), ((0 : Int), (false, ((0 : Int), ((0 : Int), ((0 : Int), ((0 : Int), (false, (0 : Int)))))))))).2).2).1, ((((f0.2.2.2.2.getD t280.toNat (([] : List (List UInt8 × List UInt8)), ((0 : Int), (false, ((0 : Int), ((0 : Int), ((0 : Int), ((0 : Int), (false, (0 : Int)))))))))).2).2).2).1, (((((f0.2.2.2.2.getD t280.toNat (([] : List (List UInt8 × List UInt8)), ((0 : Int), (false, ((0 : Int), ((0 : Int), ((0 : Int), ((0 : Int), (false, (0 : Int)))))))))).2).2).2).2).1, ((((((f0.2.2.2.2.getD t280.toNat (([] : List (List UInt8 × List UInt8)), ((0 : Int), (false, ((0 : Int), ((0 : Int), ((0 : Int), ((0 : Int), (false, (0 : Int)))))))))).2).2).2).2).2).1, (((((((f0.2.2.2.2.getD t280.toNat (([] : List (List UInt8 × List UInt8)), ((0 : Int), (false, ((0 : Int), ((0 : Int), ((0 : Int), ((0 : Int), (false, (0 : Int)))))))))).2).2).2).2).2).2).1, ((((((((f0.2.2.2.2.getD t280.toNat (([] : List (List UInt8 × List UInt8)), ((0 : Int), (false, ((0 : Int), ((0 : Int), ((0 : Int), ((0 : Int), (false, (0 : Int)))))))))).2).2).2).2).2).2).2).1, ((((((((f0.2.2.2.2.getD t280.toNat (([] : List (List UInt8 × List UInt8)), ((0 : Int), (false, ((0 : Int), ((0 : Int), ((0 : Int), ((0 : Int), (false, (0 : Int)))))))))).2).2).2).2).2).2).2).2)).bind fun r281 =>
          bif !r281 then
            some (.inr (.inr t280))
          else some (.inl (IntKind.i64.wrap (t280 + 1)))
        else none
      else some (.inr (.inl ()))) 0 : Option (Unit ⊕ Int))).bind fun e_ =>
  match e_ with
  | .inl _ =>
    (family_rises.f K f0.2.2.2.2).bind fun r282 =>
    some r282
  | .inr t283 =>
    bif !(decide (t283 ≥ 0)) then
      (family_rises.f K f0.2.2.2.2).bind fun r284 =>
      some r284
    else some false
def family_Good.sig : Sig := ⟨[(.agg (.pair .str (.pair (.int .i64) (.pair .str (.pair .str (.sl (.pair (.sl (.pair .str .str)) (.pair (.int .i64) (.pair .bool (.pair (.int .i64) (.pair (.int .i64) (.pair (.int .i64) (.pair (.int .i64) (.pair .bool (.int .i64)))))))))))))))], [(.c .bool)]⟩
noncomputable def family_Good.con (K : Nat) : Con := (mkCon family_Good.sig (fun x => family_Good.f K x))
noncomputable def family_Good.ht : HT := .seq .nil (.seq (.join ⟨3, [], [], ⟨[], []⟩, [(.normal, ⟨[(29, .c (.v .bool))], []⟩)]⟩ (.seq .nil .nil)) (.seq .nil (.seq (.calls [(3, .seq .nil (.seq (.calls [(2, .seq .nil (.seq (.seq .nil (.block (.loop ⟨8, [4, 5], [], ⟨[(8, .c (.v (.int .i64)))], []⟩, [(.exit 0, ⟨[], []⟩), (.ret, ⟨[(4, .c (.v (.int .i64)))], []⟩)]⟩ .nil))) .nil))]) .nil))]) .nil)))
noncomputable def family_Good.cx (K : Nat) : Cx := ⟨tt, [(40, label_Name.con K), (41, family_Typed.con K), (14, label_Value.con K), (43, point_Good.con K), (44, family_rises.con K)], [], K, inlOf tt [(40, label_Name.con K), (41, family_Typed.con K), (14, label_Value.con K), (43, point_Good.con K), (44, family_rises.con K)] [] K (getBody [(31, bodyOf Try.f31), (42, bodyOf Try.f42), (48, bodyOf Try.f48)]) 3⟩
theorem family_Good.eq (K : Nat) (x : PL family_Good.sig.ps) : evalF (family_Good.cx K) family_Good.sig (bodyOf Try.f24) family_Good.ht x = family_Good.f K x := by kernel_rfl
theorem family_Good.fok (K : Nat) : FOK Try.prog family_Good.sig (fun x => family_Good.f K x) 24 := fok_of_eval (tt := tt) (cons := [(40, label_Name.con K), (41, family_Typed.con K), (14, label_Value.con K), (43, point_Good.con K), (44, family_rises.con K)]) (exts := []) (bodies := (getBody [(31, bodyOf Try.f31), (42, bodyOf Try.f42), (48, bodyOf Try.f48)])) (K := K) (d := 3) ⟨ttok, (getCon_cons (label_Name.ok K) (getCon_cons (family_Typed.ok K) (getCon_cons (label_Value.ok K) (getCon_cons (point_Good.ok K) (getCon_cons (family_rises.ok K) (fun _ _ => getCon_nil)))))), (fun _ _ => getExt_nil), (getBody_cons bok31 (getBody_cons bok42 (getBody_cons bok48 (fun _ _ => getBody_nil))))⟩ draw bok24 (family_Good.eq K)
theorem family_Good.ok (K : Nat) : ConOK Try.prog 24 (family_Good.con K) := con_ok bok24 (family_Good.fok K)

noncomputable def batch_Check_1.f (K : Nat) (f0 : List UInt8 × Int × List UInt8 × List UInt8 × List (List (List UInt8 × List UInt8) × Int × Bool × Int × Int × Int × Int × Bool × Int)) : Option Bool :=
  (family_Good.f K f0).bind fun r285 =>
  some (!r285)
def batch_Check_1.sig : Sig := ⟨[(.agg (.pair .str (.pair (.int .i64) (.pair .str (.pair .str (.sl (.pair (.sl (.pair .str .str)) (.pair (.int .i64) (.pair .bool (.pair (.int .i64) (.pair (.int .i64) (.pair (.int .i64) (.pair (.int .i64) (.pair .bool (.int .i64)))))))))))))))], [(.c .bool)]⟩
noncomputable def batch_Check_1.con (K : Nat) : Con := (mkCon batch_Check_1.sig (fun x => batch_Check_1.f K x))
noncomputable def batch_Check_1.ht : HT := .nil
noncomputable def batch_Check_1.cx (K : Nat) : Cx := ⟨tt, [(24, family_Good.con K)], [], K, inlOf tt [(24, family_Good.con K)] [] K (getBody []) 0⟩
theorem batch_Check_1.eq (K : Nat) (x : PL batch_Check_1.sig.ps) : evalF (batch_Check_1.cx K) batch_Check_1.sig (bodyOf Try.f23) batch_Check_1.ht x = batch_Check_1.f K x := by kernel_rfl
theorem batch_Check_1.fok (K : Nat) : FOK Try.prog batch_Check_1.sig (fun x => batch_Check_1.f K x) 23 := fok_of_eval (tt := tt) (cons := [(24, family_Good.con K)]) (exts := []) (bodies := (getBody [])) (K := K) (d := 0) ⟨ttok, (getCon_cons (family_Good.ok K) (fun _ _ => getCon_nil)), (fun _ _ => getExt_nil), (fun _ _ => getBody_nil)⟩ draw bok23 (batch_Check_1.eq K)
theorem batch_Check_1.ok (K : Nat) : ConOK Try.prog 23 (batch_Check_1.con K) := con_ok bok23 (batch_Check_1.fok K)

noncomputable def batch_Tenant.f (K : Nat) (s0 : List UInt8) : Option Bool :=
  ((loopN K (fun (s_ : Int) =>
    match s_ with
    | t290 =>
      bif decide (t290 < (s0.length : Int)) then
        bif idx t290 s0.length then
          (((
              bif decide (((s0.getD t290.toNat 0).toNat : Int) < 97) then
                bif decide (((s0.getD t290.toNat 0).toNat : Int) < 48) then some (((s0.getD t290.toNat 0).toNat : Int) != 45)
                else
                bif decide (((s0.getD t290.toNat 0).toNat : Int) > 57) then
                  some (((s0.getD t290.toNat 0).toNat : Int) != 45)
                else some false
              else
              bif decide (((s0.getD t290.toNat 0).toNat : Int) > 122) then
                bif decide (((s0.getD t290.toNat 0).toNat : Int) < 48) then some (((s0.getD t290.toNat 0).toNat : Int) != 45)
                else
                bif decide (((s0.getD t290.toNat 0).toNat : Int) > 57) then
                  some (((s0.getD t290.toNat 0).toNat : Int) != 45)
                else some false
              else some false) : Option Bool)).bind fun t291 =>
          bif t291 then
            some (.inr (.inr false))
          else some (.inl (IntKind.i64.wrap (t290 + 1)))
        else none
      else some (.inr (.inl ()))) 0 : Option (Unit ⊕ Bool))).bind fun e_ =>
  match e_ with
  | .inl _ =>
    bif !(s0 == ([] : List UInt8)) then
      some (decide ((s0.length : Int) ≤ 16))
    else some false
  | .inr t292 =>
    some t292
def batch_Tenant.sig : Sig := ⟨[(.c .str)], [(.c .bool)]⟩
noncomputable def batch_Tenant.con (K : Nat) : Con := (mkCon batch_Tenant.sig (fun x => batch_Tenant.f K x))
noncomputable def batch_Tenant.ht : HT := .seq .nil (.seq (.seq .nil (.block (.loop ⟨7, [2, 3, 4], [], ⟨[(7, .c (.v (.int .i64)))], []⟩, [(.exit 0, ⟨[], []⟩), (.ret, ⟨[(2, .c (.v .bool))], []⟩)]⟩ (.seq .nil (.seq .nil (.seq (.block (.seq .nil (.seq .nil (.join ⟨8, [], [], ⟨[], []⟩, [(.normal, ⟨[(30, .c (.v .bool))], []⟩)]⟩ (.seq .nil .nil))))) .nil)))))) .nil)
noncomputable def batch_Tenant.cx (K : Nat) : Cx := ⟨tt, [], [], K, inlOf tt [] [] K (getBody []) 0⟩
theorem batch_Tenant.eq (K : Nat) (x : PL batch_Tenant.sig.ps) : evalF (batch_Tenant.cx K) batch_Tenant.sig (bodyOf Try.f25) batch_Tenant.ht x = batch_Tenant.f K x := by kernel_rfl
theorem batch_Tenant.fok (K : Nat) : FOK Try.prog batch_Tenant.sig (fun x => batch_Tenant.f K x) 25 := fok_of_eval (tt := tt) (cons := []) (exts := []) (bodies := (getBody [])) (K := K) (d := 0) ⟨ttok, (fun _ _ => getCon_nil), (fun _ _ => getExt_nil), (fun _ _ => getBody_nil)⟩ draw bok25 (batch_Tenant.eq K)
theorem batch_Tenant.ok (K : Nat) : ConOK Try.prog 25 (batch_Tenant.con K) := con_ok bok25 (batch_Tenant.fok K)

noncomputable def batch_rises.f (K : Nat) (l0 : List (List UInt8 × Int × List UInt8 × List UInt8 × List (List (List UInt8 × List UInt8) × Int × Bool × Int × Int × Int × Int × Bool × Int))) : Option Bool :=
  ((loopN K (fun (s_ : Int) =>
    match s_ with
    | i295 =>
      bif decide (i295 < (l0.length : Int)) then
        bif idx (IntKind.i64.wrap (i295 - 1)) l0.length then
          bif idx i295 l0.length then
            bif !(Op.bytesLess ((l0.getD ((IntKind.i64.wrap (i295 - 1)).toNat) (([] : List UInt8), ((0 : Int), (([] : List UInt8), (([] : List UInt8), ([] : List (List (List UInt8 × List UInt8) × Int × Bool × Int × Int × Int × Int × Bool × Int))))))).1) ((l0.getD i295.toNat (([] : List UInt8), ((0 : Int), (([] : List UInt8), (([] : List UInt8), ([] : List (List (List UInt8 × List UInt8) × Int × Bool × Int × Int × Int × Int × Bool × Int))))))).1)) then
              some (.inr (.inr false))
            else some (.inl (IntKind.i64.wrap (i295 + 1)))
          else none
        else none
      else some (.inr (.inl ()))) 1 : Option (Unit ⊕ Bool))).bind fun e_ =>
  match e_ with
  | .inl _ =>
    some true
  | .inr t296 =>
    some t296
def batch_rises.sig : Sig := ⟨[(.c (.sl (.pair .str (.pair (.int .i64) (.pair .str (.pair .str (.sl (.pair (.sl (.pair .str .str)) (.pair (.int .i64) (.pair .bool (.pair (.int .i64) (.pair (.int .i64) (.pair (.int .i64) (.pair (.int .i64) (.pair .bool (.int .i64))))))))))))))))], [(.c .bool)]⟩
noncomputable def batch_rises.con (K : Nat) : Con := (mkCon batch_rises.sig (fun x => batch_rises.f K x))
noncomputable def batch_rises.ht : HT := .seq .nil (.seq (.seq .nil (.block (.loop ⟨1, [], [], ⟨[(3, .c (.v (.int .i64)))], []⟩, [(.exit 0, ⟨[], []⟩), (.ret, ⟨[(2, .c (.v .bool))], []⟩)]⟩ .nil))) .nil)
noncomputable def batch_rises.cx (K : Nat) : Cx := ⟨tt, [], [], K, inlOf tt [] [] K (getBody []) 0⟩
theorem batch_rises.eq (K : Nat) (x : PL batch_rises.sig.ps) : evalF (batch_rises.cx K) batch_rises.sig (bodyOf Try.f27) batch_rises.ht x = batch_rises.f K x := by kernel_rfl
theorem batch_rises.fok (K : Nat) : FOK Try.prog batch_rises.sig (fun x => batch_rises.f K x) 27 := fok_of_eval (tt := tt) (cons := []) (exts := []) (bodies := (getBody [])) (K := K) (d := 0) ⟨ttok, (fun _ _ => getCon_nil), (fun _ _ => getExt_nil), (fun _ _ => getBody_nil)⟩ draw bok27 (batch_rises.eq K)
theorem batch_rises.ok (K : Nat) : ConOK Try.prog 27 (batch_rises.con K) := con_ok bok27 (batch_rises.fok K)

noncomputable def batch_Points.f (K : Nat) (b0 : List UInt8 × List (List UInt8 × Int × List UInt8 × List UInt8 × List (List (List UInt8 × List UInt8) × Int × Bool × Int × Int × Int × Int × Bool × Int))) : Option Int :=
  ((loopN K (fun (s_ : Int × Int) =>
    match s_ with
    | (n299, t300) =>
      bif decide (t300 < (b0.2.length : Int)) then
        bif idx t300 b0.2.length then
          some (.inl (IntKind.i64.wrap (n299 + ((((((b0.2.getD t300.toNat (([] : List UInt8), ((0 : Int), (([] : List UInt8), (([] : List UInt8), ([] : List (List (List UInt8 × List UInt8) × Int × Bool × Int × Int × Int × Int × Bool × Int))))))).2).2).2).2).length : Int)), IntKind.i64.wrap (t300 + 1)))
        else none
      else some (.inr n299)) (0, 0) : Option Int)).bind fun n301 =>
  some n301
def batch_Points.sig : Sig := ⟨[(.agg (.pair .str (.sl (.pair .str (.pair (.int .i64) (.pair .str (.pair .str (.sl (.pair (.sl (.pair .str .str)) (.pair (.int .i64) (.pair .bool (.pair (.int .i64) (.pair (.int .i64) (.pair (.int .i64) (.pair (.int .i64) (.pair .bool (.int .i64)))))))))))))))))], [(.c (.int .i64))]⟩
noncomputable def batch_Points.con (K : Nat) : Con := (mkCon batch_Points.sig (fun x => batch_Points.f K x))
noncomputable def batch_Points.ht : HT := .seq .nil (.seq .nil (.seq (.seq .nil (.block (.loop ⟨9, [3, 5], [], ⟨[(3, .c (.v (.int .i64))), (9, .c (.v (.int .i64)))], []⟩, [(.exit 0, ⟨[(3, .c (.v (.int .i64)))], []⟩)]⟩ .nil))) .nil))
noncomputable def batch_Points.cx (K : Nat) : Cx := ⟨tt, [], [], K, inlOf tt [] [] K (getBody []) 0⟩
theorem batch_Points.eq (K : Nat) (x : PL batch_Points.sig.ps) : evalF (batch_Points.cx K) batch_Points.sig (bodyOf Try.f28) batch_Points.ht x = batch_Points.f K x := by kernel_rfl
theorem batch_Points.fok (K : Nat) : FOK Try.prog batch_Points.sig (fun x => batch_Points.f K x) 28 := fok_of_eval (tt := tt) (cons := []) (exts := []) (bodies := (getBody [])) (K := K) (d := 0) ⟨ttok, (fun _ _ => getCon_nil), (fun _ _ => getExt_nil), (fun _ _ => getBody_nil)⟩ draw bok28 (batch_Points.eq K)
theorem batch_Points.ok (K : Nat) : ConOK Try.prog 28 (batch_Points.con K) := con_ok bok28 (batch_Points.fok K)

noncomputable def batch_Check.f (K : Nat) (b0 : List UInt8 × List (List UInt8 × Int × List UInt8 × List UInt8 × List (List (List UInt8 × List UInt8) × Int × Bool × Int × Int × Int × Int × Bool × Int))) : Option Int :=
  (((
      (batch_Tenant.f K b0.1).bind fun r303 =>
      bif !r303 then some true
      else
      ((loopN K (fun (s_ : Int) =>
        match s_ with
        | t308 =>
          bif decide (t308 < (b0.2.length : Int)) then
            bif idx t308 b0.2.length then
              (batch_Check_1.f K ((b0.2.getD t308.toNat (([] : List UInt8), ((0 : Int), (([] : List UInt8), (([] : List UInt8), ([] : List (List (List UInt8 × List UInt8) × Int × Bool × Int × Int × Int × Int × Bool × Int))))))).1, ((b0.2.getD t308.toNat (([] : List UInt8), ((0 : Int), (([] : List UInt8), (([] : List UInt8), ([] : List (List (List UInt8 × List UInt8) × Int × Bool × Int × Int × Int × Int × Bool × Int))))))).2).1, (((b0.2.getD t308.toNat (([] : List UInt8), ((0 : Int), (([] : List UInt8), (([] : List UInt8), ([] : List (List (List UInt8 × List UInt8) × Int × Bool × Int × Int × Int × Int × Bool × Int))))))).2).2).1, ((((b0.2.getD t308.toNat (([] : List UInt8), ((0 : Int), (([] : List UInt8), (([] : List UInt8), ([] : List (List (List UInt8 × List UInt8) × Int × Bool × Int × Int × Int × Int × Bool × Int))))))).2).2).2).1, ((((b0.2.getD t308.toNat (([] : List UInt8), ((0 : Int), (([] : List UInt8), (([] : List UInt8), ([] : List (List (List UInt8 × List UInt8) × Int × Bool × Int × Int × Int × Int × Bool × Int))))))).2).2).2).2)).bind fun r309 =>
              bif r309 then
                some (.inr (.inr t308))
              else some (.inl (IntKind.i64.wrap (t308 + 1)))
            else none
          else some (.inr (.inl ()))) 0 : Option (Unit ⊕ Int))).bind fun e_ =>
      match e_ with
      | .inl _ =>
        (batch_rises.f K b0.2).bind fun r310 =>
        some (!r310)
      | .inr t311 =>
        bif decide (t311 ≥ 0) then some true
        else
        (batch_rises.f K b0.2).bind fun r312 =>
        some (!r312)) : Option Bool)).bind fun t313 =>
  bif t313 then some 19
  else
  bif decide ((b0.2.length : Int) > 30) then some 14
  else
  (batch_Points.f K b0).bind fun r314 =>
  bif decide (r314 > 120) then
    some 14
  else some 0
def batch_Check.sig : Sig := ⟨[(.agg (.pair .str (.sl (.pair .str (.pair (.int .i64) (.pair .str (.pair .str (.sl (.pair (.sl (.pair .str .str)) (.pair (.int .i64) (.pair .bool (.pair (.int .i64) (.pair (.int .i64) (.pair (.int .i64) (.pair (.int .i64) (.pair .bool (.int .i64)))))))))))))))))], [(.c (.int .i64))]⟩
noncomputable def batch_Check.con (K : Nat) : Con := (mkCon batch_Check.sig (fun x => batch_Check.f K x))
noncomputable def batch_Check.ht : HT := .seq .nil (.seq .nil (.seq (.block (.join ⟨3, [], [], ⟨[], []⟩, [(.normal, ⟨[(4, .c (.v .bool))], []⟩)]⟩ (.seq (.calls [(8, .seq .nil (.seq (.calls [(2, .seq .nil (.seq (.seq .nil (.block (.loop ⟨8, [4, 5], [], ⟨[(8, .c (.v (.int .i64)))], []⟩, [(.exit 0, ⟨[], []⟩), (.ret, ⟨[(4, .c (.v (.int .i64)))], []⟩)]⟩ .nil))) .nil))]) .nil))]) .nil))) .nil))
noncomputable def batch_Check.cx (K : Nat) : Cx := ⟨tt, [(25, batch_Tenant.con K), (23, batch_Check_1.con K), (27, batch_rises.con K), (28, batch_Points.con K)], [], K, inlOf tt [(25, batch_Tenant.con K), (23, batch_Check_1.con K), (27, batch_rises.con K), (28, batch_Points.con K)] [] K (getBody [(26, bodyOf Try.f26), (45, bodyOf Try.f45)]) 2⟩
theorem batch_Check.eq (K : Nat) (x : PL batch_Check.sig.ps) : evalF (batch_Check.cx K) batch_Check.sig (bodyOf Try.f17) batch_Check.ht x = batch_Check.f K x := by kernel_rfl
theorem batch_Check.fok (K : Nat) : FOK Try.prog batch_Check.sig (fun x => batch_Check.f K x) 17 := fok_of_eval (tt := tt) (cons := [(25, batch_Tenant.con K), (23, batch_Check_1.con K), (27, batch_rises.con K), (28, batch_Points.con K)]) (exts := []) (bodies := (getBody [(26, bodyOf Try.f26), (45, bodyOf Try.f45)])) (K := K) (d := 2) ⟨ttok, (getCon_cons (batch_Tenant.ok K) (getCon_cons (batch_Check_1.ok K) (getCon_cons (batch_rises.ok K) (getCon_cons (batch_Points.ok K) (fun _ _ => getCon_nil))))), (fun _ _ => getExt_nil), (getBody_cons bok26 (getBody_cons bok45 (fun _ _ => getBody_nil)))⟩ draw bok17 (batch_Check.eq K)
theorem batch_Check.ok (K : Nat) : ConOK Try.prog 17 (batch_Check.con K) := con_ok bok17 (batch_Check.fok K)

noncomputable def charset_within.f (K : Nat) (c0 : Int) (classes1 : Int × Int × Int × Int × Int × Int) : Option Bool :=
  ((loopN K (fun (s_ : Int) =>
    match s_ with
    | t317 =>
      bif decide (t317 < 3) then
        bif idx t317 3 then
          bif decide (c0 ≥ ((([(classes1.1, classes1.2.1), (classes1.2.2.1, classes1.2.2.2.1), classes1.2.2.2.2] : List (Int × Int)).getD t317.toNat ((0 : Int), (0 : Int))).1)) then
            bif decide (c0 ≤ ((([(classes1.1, classes1.2.1), (classes1.2.2.1, classes1.2.2.2.1), classes1.2.2.2.2] : List (Int × Int)).getD t317.toNat ((0 : Int), (0 : Int))).2)) then
              some (.inr (.inr true))
            else some (.inl (IntKind.i64.wrap (t317 + 1)))
          else some (.inl (IntKind.i64.wrap (t317 + 1)))
        else none
      else some (.inr (.inl ()))) 0 : Option (Unit ⊕ Bool))).bind fun e_ =>
  match e_ with
  | .inl _ =>
    some false
  | .inr t318 =>
    some t318
def charset_within.sig : Sig := ⟨[(.c (.int .u8)), (.agg (.pair (.int .u8) (.pair (.int .u8) (.pair (.int .u8) (.pair (.int .u8) (.pair (.int .u8) (.int .u8)))))))], [(.c .bool)]⟩
noncomputable def charset_within.con (K : Nat) : Con := (mkCon charset_within.sig (fun x => charset_within.f K x.1 x.2))
noncomputable def charset_within.ht : HT := .seq .nil (.seq (.seq .nil (.block (.loop ⟨8, [4, 6], [], ⟨[(8, .c (.v (.int .i64)))], []⟩, [(.exit 0, ⟨[], []⟩), (.ret, ⟨[(4, .c (.v .bool))], []⟩)]⟩ .nil))) .nil)
noncomputable def charset_within.cx (K : Nat) : Cx := ⟨tt, [], [], K, inlOf tt [] [] K (getBody []) 0⟩
theorem charset_within.eq (K : Nat) (x : PL charset_within.sig.ps) : evalF (charset_within.cx K) charset_within.sig (bodyOf Try.f50) charset_within.ht x = charset_within.f K x.1 x.2 := by kernel_rfl
theorem charset_within.fok (K : Nat) : FOK Try.prog charset_within.sig (fun x => charset_within.f K x.1 x.2) 50 := fok_of_eval (tt := tt) (cons := []) (exts := []) (bodies := (getBody [])) (K := K) (d := 0) ⟨ttok, (fun _ _ => getCon_nil), (fun _ _ => getExt_nil), (fun _ _ => getBody_nil)⟩ draw bok50 (charset_within.eq K)
theorem charset_within.ok (K : Nat) : ConOK Try.prog 50 (charset_within.con K) := con_ok bok50 (charset_within.fok K)

noncomputable def charset_letter.f (K : Nat) (c0 : Int) (digits1 : Bool) : Option Bool :=
  bif digits1 then
    (charset_within.f K c0 (97, 122, 65, 90, 48, 57)).bind fun r319 =>
    some r319
  else
  (charset_within.f K c0 (97, 122, 65, 90, 97, 97)).bind fun r320 =>
  some r320
def charset_letter.sig : Sig := ⟨[(.c (.int .u8)), (.c .bool)], [(.c .bool)]⟩
noncomputable def charset_letter.con (K : Nat) : Con := (mkCon charset_letter.sig (fun x => charset_letter.f K x.1 x.2))
noncomputable def charset_letter.ht : HT := .nil
noncomputable def charset_letter.cx (K : Nat) : Cx := ⟨tt, [(50, charset_within.con K)], [], K, inlOf tt [(50, charset_within.con K)] [] K (getBody []) 0⟩
theorem charset_letter.eq (K : Nat) (x : PL charset_letter.sig.ps) : evalF (charset_letter.cx K) charset_letter.sig (bodyOf Try.f34) charset_letter.ht x = charset_letter.f K x.1 x.2 := by kernel_rfl
theorem charset_letter.fok (K : Nat) : FOK Try.prog charset_letter.sig (fun x => charset_letter.f K x.1 x.2) 34 := fok_of_eval (tt := tt) (cons := [(50, charset_within.con K)]) (exts := []) (bodies := (getBody [])) (K := K) (d := 0) ⟨ttok, (getCon_cons (charset_within.ok K) (fun _ _ => getCon_nil)), (fun _ _ => getExt_nil), (fun _ _ => getBody_nil)⟩ draw bok34 (charset_letter.eq K)
theorem charset_letter.ok (K : Nat) : ConOK Try.prog 34 (charset_letter.con K) := con_ok bok34 (charset_letter.fok K)

noncomputable def charset_line.f (K : Nat) (what0 : Int) (s1 : List UInt8) (i2 : Int) : Option Bool :=
  bif idx i2 s1.length then
    bif decide (((s1.getD i2.toNat 0).toNat : Int) ≥ 32) then
      bif decide (((s1.getD i2.toNat 0).toNat : Int) ≤ 126) then
        bif ((s1.getD i2.toNat 0).toNat : Int) != 92 then
          bif ((s1.getD i2.toNat 0).toNat : Int) != 35 then some true
          else
          bif decide (i2 > 0) then
            some true
          else some (what0 == 1)
        else some false
      else some false
    else some false
  else none
def charset_line.sig : Sig := ⟨[(.c (.int .i64)), (.c .str), (.c (.int .i64))], [(.c .bool)]⟩
noncomputable def charset_line.con (K : Nat) : Con := (mkCon charset_line.sig (fun x => charset_line.f K x.1 x.2.1 x.2.2))
noncomputable def charset_line.ht : HT := .nil
noncomputable def charset_line.cx (K : Nat) : Cx := ⟨tt, [], [], K, inlOf tt [] [] K (getBody []) 0⟩
theorem charset_line.eq (K : Nat) (x : PL charset_line.sig.ps) : evalF (charset_line.cx K) charset_line.sig (bodyOf Try.f35) charset_line.ht x = charset_line.f K x.1 x.2.1 x.2.2 := by kernel_rfl
theorem charset_line.fok (K : Nat) : FOK Try.prog charset_line.sig (fun x => charset_line.f K x.1 x.2.1 x.2.2) 35 := fok_of_eval (tt := tt) (cons := []) (exts := []) (bodies := (getBody [])) (K := K) (d := 0) ⟨ttok, (fun _ _ => getCon_nil), (fun _ _ => getExt_nil), (fun _ _ => getBody_nil)⟩ draw bok35 (charset_line.eq K)
theorem charset_line.ok (K : Nat) : ConOK Try.prog 35 (charset_line.con K) := con_ok bok35 (charset_line.fok K)

noncomputable def strings_IndexByte.f (K : Nat) (s0 : List UInt8) (c1 : Int) : Option Int :=
  (stringslite_IndexByte.f K s0 c1).bind fun r321 =>
  some r321
def strings_IndexByte.sig : Sig := ⟨[(.c .str), (.c (.int .u8))], [(.c (.int .i64))]⟩
noncomputable def strings_IndexByte.con (K : Nat) : Con := (mkCon strings_IndexByte.sig (fun x => strings_IndexByte.f K x.1 x.2))
noncomputable def strings_IndexByte.ht : HT := .nil
noncomputable def strings_IndexByte.cx (K : Nat) : Cx := ⟨tt, [(51, stringslite_IndexByte.con K)], [], K, inlOf tt [(51, stringslite_IndexByte.con K)] [] K (getBody []) 0⟩
theorem strings_IndexByte.eq (K : Nat) (x : PL strings_IndexByte.sig.ps) : evalF (strings_IndexByte.cx K) strings_IndexByte.sig (bodyOf Try.f36) strings_IndexByte.ht x = strings_IndexByte.f K x.1 x.2 := by kernel_rfl
theorem strings_IndexByte.fok (K : Nat) : FOK Try.prog strings_IndexByte.sig (fun x => strings_IndexByte.f K x.1 x.2) 36 := fok_of_eval (tt := tt) (cons := [(51, stringslite_IndexByte.con K)]) (exts := []) (bodies := (getBody [])) (K := K) (d := 0) ⟨ttok, (getCon_cons (stringslite_IndexByte.ok K) (fun _ _ => getCon_nil)), (fun _ _ => getExt_nil), (fun _ _ => getBody_nil)⟩ draw bok36 (strings_IndexByte.eq K)
theorem strings_IndexByte.ok (K : Nat) : ConOK Try.prog 36 (strings_IndexByte.con K) := con_ok bok36 (strings_IndexByte.fok K)

noncomputable def charset_point.f (K : Nat) (s0 : List UInt8) (i1 : Int) : Option Bool :=
  bif decide (i1 > 0) then
    bif decide (i1 < (IntKind.i64.wrap ((s0.length : Int) - 1))) then
      bif idx (IntKind.i64.wrap (i1 - 1)) s0.length then
        some (((s0.getD ((IntKind.i64.wrap (i1 - 1)).toNat) 0).toNat : Int) != 46)
      else none
    else some false
  else some false
def charset_point.sig : Sig := ⟨[(.c .str), (.c (.int .i64))], [(.c .bool)]⟩
noncomputable def charset_point.con (K : Nat) : Con := (mkCon charset_point.sig (fun x => charset_point.f K x.1 x.2))
noncomputable def charset_point.ht : HT := .nil
noncomputable def charset_point.cx (K : Nat) : Cx := ⟨tt, [], [], K, inlOf tt [] [] K (getBody []) 0⟩
theorem charset_point.eq (K : Nat) (x : PL charset_point.sig.ps) : evalF (charset_point.cx K) charset_point.sig (bodyOf Try.f37) charset_point.ht x = charset_point.f K x.1 x.2 := by kernel_rfl
theorem charset_point.fok (K : Nat) : FOK Try.prog charset_point.sig (fun x => charset_point.f K x.1 x.2) 37 := fok_of_eval (tt := tt) (cons := []) (exts := []) (bodies := (getBody [])) (K := K) (d := 0) ⟨ttok, (fun _ _ => getCon_nil), (fun _ _ => getExt_nil), (fun _ _ => getBody_nil)⟩ draw bok37 (charset_point.eq K)
theorem charset_point.ok (K : Nat) : ConOK Try.prog 37 (charset_point.con K) := con_ok bok37 (charset_point.fok K)

noncomputable def charset_Legal.f (K : Nat) (proto0 : Int) (what1 : Int) (s2 : List UInt8) (i3 : Int) : Option Bool :=
  (((
      bif decide (i3 < 0) then some (.inr false)
      else
      bif decide (i3 ≥ (s2.length : Int)) then some (.inr false)
      else
      bif what1 != 0 then
        bif what1 != 1 then
          some (.inr false)
        else some (.inl ())
      else some (.inl ())) : Option (Unit ⊕ Bool))).bind fun e_ =>
  match e_ with
  | .inl _ =>
    bif idx i3 s2.length then
      bif proto0 == 1 then
        (charset_letter.f K ((s2.getD i3.toNat 0).toNat : Int) (decide (i3 > 0))).bind fun r322 =>
        bif r322 then some true
        else
        bif ((s2.getD i3.toNat 0).toNat : Int) == 95 then some true
        else
        bif ((s2.getD i3.toNat 0).toNat : Int) == 58 then
          some (what1 == 0)
        else some false
      else
      bif proto0 == 2 then
        (charset_line.f K what1 s2 i3).bind fun r323 =>
        some r323
      else
      bif proto0 == 3 then
        (charset_letter.f K ((s2.getD i3.toNat 0).toNat : Int) true).bind fun r324 =>
        bif r324 then some true
        else
        (strings_IndexByte.f K ([95, 45, 58] : List UInt8) ((s2.getD i3.toNat 0).toNat : Int)).bind fun r325 =>
        bif decide (r325 ≥ 0) then some true
        else
        bif ((s2.getD i3.toNat 0).toNat : Int) == 46 then
          bif what1 == 0 then
            (charset_point.f K s2 i3).bind fun r326 =>
            some r326
          else some false
        else some false
      else
      bif proto0 == 4 then
        (charset_letter.f K ((s2.getD i3.toNat 0).toNat : Int) true).bind fun r327 =>
        bif r327 then some true
        else
        (strings_IndexByte.f K ([95, 45, 46] : List UInt8) ((s2.getD i3.toNat 0).toNat : Int)).bind fun r328 =>
        some (decide (r328 ≥ 0))
      else some false
    else none
  | .inr t329 =>
    some t329
def charset_Legal.sig : Sig := ⟨[(.c (.int .i64)), (.c (.int .i64)), (.c .str), (.c (.int .i64))], [(.c .bool)]⟩
noncomputable def charset_Legal.con (K : Nat) : Con := (mkCon charset_Legal.sig (fun x => charset_Legal.f K x.1 x.2.1 x.2.2.1 x.2.2.2))
noncomputable def charset_Legal.ht : HT := .seq .nil (.join ⟨4, [], [], ⟨[], []⟩, [(.normal, ⟨[], []⟩), (.ret, ⟨[(8, .c (.v .bool))], []⟩)]⟩ (.seq .nil .nil))
noncomputable def charset_Legal.cx (K : Nat) : Cx := ⟨tt, [(34, charset_letter.con K), (35, charset_line.con K), (36, strings_IndexByte.con K), (37, charset_point.con K)], [], K, inlOf tt [(34, charset_letter.con K), (35, charset_line.con K), (36, strings_IndexByte.con K), (37, charset_point.con K)] [] K (getBody []) 0⟩
theorem charset_Legal.eq (K : Nat) (x : PL charset_Legal.sig.ps) : evalF (charset_Legal.cx K) charset_Legal.sig (bodyOf Try.f19) charset_Legal.ht x = charset_Legal.f K x.1 x.2.1 x.2.2.1 x.2.2.2 := by kernel_rfl
theorem charset_Legal.fok (K : Nat) : FOK Try.prog charset_Legal.sig (fun x => charset_Legal.f K x.1 x.2.1 x.2.2.1 x.2.2.2) 19 := fok_of_eval (tt := tt) (cons := [(34, charset_letter.con K), (35, charset_line.con K), (36, strings_IndexByte.con K), (37, charset_point.con K)]) (exts := []) (bodies := (getBody [])) (K := K) (d := 0) ⟨ttok, (getCon_cons (charset_letter.ok K) (getCon_cons (charset_line.ok K) (getCon_cons (strings_IndexByte.ok K) (getCon_cons (charset_point.ok K) (fun _ _ => getCon_nil))))), (fun _ _ => getExt_nil), (fun _ _ => getBody_nil)⟩ draw bok19 (charset_Legal.eq K)
theorem charset_Legal.ok (K : Nat) : ConOK Try.prog 19 (charset_Legal.con K) := con_ok bok19 (charset_Legal.fok K)

end Go.Proofs.Ytclmdnfkdpdacaa
