/- What each function of the program comes to, and that it does, part 2. -/
import Derived.Test.YtekeaempemiciaaGreatDoorFnA
import Derived.KernelRfl
set_option linter.unusedVariables false
namespace Go.Proofs.YtekeaempemiciaaGreatDoor
open Go Go.Rf Go.Proofs Go.RowKit

noncomputable def label_Compare_1.f (K : Nat) (x0 : List UInt8 × List UInt8) (y1 : List UInt8 × List UInt8) : Option Int :=
  (strings_Compare.f K x0.1 y1.1).bind fun r145 =>
  (strings_Compare.f K x0.2 y1.2).bind fun r146 =>
  (cmp_Or_int.f K ([r145, r146] : List Int)).bind fun r147 =>
  some r147
def label_Compare_1.sig : Sig := ⟨[(.agg (.pair .str .str)), (.agg (.pair .str .str))], [(.c (.int .i64))]⟩
noncomputable def label_Compare_1.con (K : Nat) : Con := (mkCon label_Compare_1.sig (fun x => label_Compare_1.f K x.1 x.2))
noncomputable def label_Compare_1.ht : HT := .nil
noncomputable def label_Compare_1.cx (K : Nat) : Cx := ⟨tt, [(158, strings_Compare.con K), (140, cmp_Or_int.con K)], [], K, inlOf tt [(158, strings_Compare.con K), (140, cmp_Or_int.con K)] [] K (getBody []) 0⟩
theorem label_Compare_1.eq (K : Nat) (x : PL label_Compare_1.sig.ps) : evalF (label_Compare_1.cx K) label_Compare_1.sig (bodyOf Tryz.f157) label_Compare_1.ht x = label_Compare_1.f K x.1 x.2 := by kernel_rfl
theorem label_Compare_1.fok (K : Nat) : FOK Tryz.prog label_Compare_1.sig (fun x => label_Compare_1.f K x.1 x.2) 157 := fok_of_eval (tt := tt) (cons := [(158, strings_Compare.con K), (140, cmp_Or_int.con K)]) (exts := []) (bodies := (getBody [])) (K := K) (d := 0) ⟨ttok, (getCon_cons (strings_Compare.ok K) (getCon_cons (cmp_Or_int.ok K) (fun _ _ => getCon_nil))), (fun _ _ => getExt_nil), (fun _ _ => getBody_nil)⟩ draw bok157 (label_Compare_1.eq K)
theorem label_Compare_1.ok (K : Nat) : ConOK Tryz.prog 157 (label_Compare_1.con K) := con_ok bok157 (label_Compare_1.fok K)

noncomputable def label_Compare.f (K : Nat) (a0 : List (List UInt8 × List UInt8)) (b1 : List (List UInt8 × List UInt8)) : Option Int :=
  ((loopN K (fun (s_ : Int) =>
    match s_ with
    | t151 =>
      bif decide (t151 < (a0.length : Int)) then
        bif idx t151 a0.length then
          bif decide (t151 ≥ (b1.length : Int)) then some (.inr (.inr 1))
          else
          bif idx t151 b1.length then
            (label_Compare_1.f K (a0.getD t151.toNat (([] : List UInt8), ([] : List UInt8))) (b1.getD t151.toNat (([] : List UInt8), ([] : List UInt8)))).bind fun r152 =>
            bif r152 != 0 then
              some (.inr (.inr r152))
            else some (.inl (IntKind.i64.wrap (t151 + 1)))
          else none
        else none
      else some (.inr (.inl ()))) 0 : Option (Unit ⊕ Int))).bind fun e_ =>
  match e_ with
  | .inl _ =>
    bif decide ((a0.length : Int) < (b1.length : Int)) then
      some (-1)
    else some 0
  | .inr t153 =>
    some t153
def label_Compare.sig : Sig := ⟨[(.c (.sl (.pair .str .str))), (.c (.sl (.pair .str .str)))], [(.c (.int .i64))]⟩
noncomputable def label_Compare.con (K : Nat) : Con := (mkCon label_Compare.sig (fun x => label_Compare.f K x.1 x.2))
noncomputable def label_Compare.ht : HT := .seq .nil (.seq (.calls [(2, .seq .nil (.seq (.seq .nil (.block (.loop ⟨13, [6, 7, 8, 9, 10], [], ⟨[(13, .c (.v (.int .i64)))], []⟩, [(.exit 0, ⟨[], []⟩), (.ret, ⟨[(6, .c (.v (.int .i64)))], []⟩)]⟩ .nil))) .nil))]) .nil)
noncomputable def label_Compare.cx (K : Nat) : Cx := ⟨tt, [(157, label_Compare_1.con K)], [], K, inlOf tt [(157, label_Compare_1.con K)] [] K (getBody [(156, bodyOf Tryz.f156)]) 1⟩
theorem label_Compare.eq (K : Nat) (x : PL label_Compare.sig.ps) : evalF (label_Compare.cx K) label_Compare.sig (bodyOf Tryz.f141) label_Compare.ht x = label_Compare.f K x.1 x.2 := by kernel_rfl
theorem label_Compare.fok (K : Nat) : FOK Tryz.prog label_Compare.sig (fun x => label_Compare.f K x.1 x.2) 141 := fok_of_eval (tt := tt) (cons := [(157, label_Compare_1.con K)]) (exts := []) (bodies := (getBody [(156, bodyOf Tryz.f156)])) (K := K) (d := 1) ⟨ttok, (getCon_cons (label_Compare_1.ok K) (fun _ _ => getCon_nil)), (fun _ _ => getExt_nil), (getBody_cons (gbody_mk bok156 rfl) (fun _ _ => getBody_nil))⟩ draw bok141 (label_Compare.eq K)
theorem label_Compare.ok (K : Nat) : ConOK Tryz.prog 141 (label_Compare.con K) := con_ok bok141 (label_Compare.fok K)

noncomputable def point_bools.f (K : Nat) (a0 : Bool) (b1 : Bool) : Option Int :=
  bif a0 == b1 then some 0
  else
  bif b1 then
    some (-1)
  else some 1
def point_bools.sig : Sig := ⟨[(.c .bool), (.c .bool)], [(.c (.int .i64))]⟩
noncomputable def point_bools.con (K : Nat) : Con := (mkCon point_bools.sig (fun x => point_bools.f K x.1 x.2))
noncomputable def point_bools.ht : HT := .nil
noncomputable def point_bools.cx (K : Nat) : Cx := ⟨tt, [], [], K, inlOf tt [] [] K (getBody []) 0⟩
theorem point_bools.eq (K : Nat) (x : PL point_bools.sig.ps) : evalF (point_bools.cx K) point_bools.sig (bodyOf Tryz.f142) point_bools.ht x = point_bools.f K x.1 x.2 := by kernel_rfl
theorem point_bools.fok (K : Nat) : FOK Tryz.prog point_bools.sig (fun x => point_bools.f K x.1 x.2) 142 := fok_of_eval (tt := tt) (cons := []) (exts := []) (bodies := (getBody [])) (K := K) (d := 0) ⟨ttok, (fun _ _ => getCon_nil), (fun _ _ => getExt_nil), (fun _ _ => getBody_nil)⟩ draw bok142 (point_bools.eq K)
theorem point_bools.ok (K : Nat) : ConOK Tryz.prog 142 (point_bools.con K) := con_ok bok142 (point_bools.fok K)

noncomputable def cmp_isNaN_int64.f (K : Nat) (x0 : Int) : Option Bool :=
  some (x0 != x0)
def cmp_isNaN_int64.sig : Sig := ⟨[(.c (.int .i64))], [(.c .bool)]⟩
noncomputable def cmp_isNaN_int64.con (K : Nat) : Con := (mkCon cmp_isNaN_int64.sig (fun x => cmp_isNaN_int64.f K x))
noncomputable def cmp_isNaN_int64.ht : HT := .nil
noncomputable def cmp_isNaN_int64.cx (K : Nat) : Cx := ⟨tt, [], [], K, inlOf tt [] [] K (getBody []) 0⟩
theorem cmp_isNaN_int64.eq (K : Nat) (x : PL cmp_isNaN_int64.sig.ps) : evalF (cmp_isNaN_int64.cx K) cmp_isNaN_int64.sig (bodyOf Tryz.f159) cmp_isNaN_int64.ht x = cmp_isNaN_int64.f K x := by kernel_rfl
theorem cmp_isNaN_int64.fok (K : Nat) : FOK Tryz.prog cmp_isNaN_int64.sig (fun x => cmp_isNaN_int64.f K x) 159 := fok_of_eval (tt := tt) (cons := []) (exts := []) (bodies := (getBody [])) (K := K) (d := 0) ⟨ttok, (fun _ _ => getCon_nil), (fun _ _ => getExt_nil), (fun _ _ => getBody_nil)⟩ draw bok159 (cmp_isNaN_int64.eq K)
theorem cmp_isNaN_int64.ok (K : Nat) : ConOK Tryz.prog 159 (cmp_isNaN_int64.con K) := con_ok bok159 (cmp_isNaN_int64.fok K)

noncomputable def cmp_Compare_int64.f (K : Nat) (x0 : Int) (y1 : Int) : Option Int :=
  (cmp_isNaN_int64.f K x0).bind fun r154 =>
  (cmp_isNaN_int64.f K y1).bind fun r155 =>
  bif r154 then
    bif r155 then
      some 0
    else some (-1)
  else
  bif r155 then some 1
  else
  bif decide (x0 < y1) then some (-1)
  else
  bif decide (x0 > y1) then
    some 1
  else some 0
def cmp_Compare_int64.sig : Sig := ⟨[(.c (.int .i64)), (.c (.int .i64))], [(.c (.int .i64))]⟩
noncomputable def cmp_Compare_int64.con (K : Nat) : Con := (mkCon cmp_Compare_int64.sig (fun x => cmp_Compare_int64.f K x.1 x.2))
noncomputable def cmp_Compare_int64.ht : HT := .nil
noncomputable def cmp_Compare_int64.cx (K : Nat) : Cx := ⟨tt, [(159, cmp_isNaN_int64.con K)], [], K, inlOf tt [(159, cmp_isNaN_int64.con K)] [] K (getBody []) 0⟩
theorem cmp_Compare_int64.eq (K : Nat) (x : PL cmp_Compare_int64.sig.ps) : evalF (cmp_Compare_int64.cx K) cmp_Compare_int64.sig (bodyOf Tryz.f143) cmp_Compare_int64.ht x = cmp_Compare_int64.f K x.1 x.2 := by kernel_rfl
theorem cmp_Compare_int64.fok (K : Nat) : FOK Tryz.prog cmp_Compare_int64.sig (fun x => cmp_Compare_int64.f K x.1 x.2) 143 := fok_of_eval (tt := tt) (cons := [(159, cmp_isNaN_int64.con K)]) (exts := []) (bodies := (getBody [])) (K := K) (d := 0) ⟨ttok, (getCon_cons (cmp_isNaN_int64.ok K) (fun _ _ => getCon_nil)), (fun _ _ => getExt_nil), (fun _ _ => getBody_nil)⟩ draw bok143 (cmp_Compare_int64.eq K)
theorem cmp_Compare_int64.ok (K : Nat) : ConOK Tryz.prog 143 (cmp_Compare_int64.con K) := con_ok bok143 (cmp_Compare_int64.fok K)

noncomputable def cmp_isNaN_int.f (K : Nat) (x0 : Int) : Option Bool :=
  some (x0 != x0)
def cmp_isNaN_int.sig : Sig := ⟨[(.c (.int .i64))], [(.c .bool)]⟩
noncomputable def cmp_isNaN_int.con (K : Nat) : Con := (mkCon cmp_isNaN_int.sig (fun x => cmp_isNaN_int.f K x))
noncomputable def cmp_isNaN_int.ht : HT := .nil
noncomputable def cmp_isNaN_int.cx (K : Nat) : Cx := ⟨tt, [], [], K, inlOf tt [] [] K (getBody []) 0⟩
theorem cmp_isNaN_int.eq (K : Nat) (x : PL cmp_isNaN_int.sig.ps) : evalF (cmp_isNaN_int.cx K) cmp_isNaN_int.sig (bodyOf Tryz.f160) cmp_isNaN_int.ht x = cmp_isNaN_int.f K x := by kernel_rfl
theorem cmp_isNaN_int.fok (K : Nat) : FOK Tryz.prog cmp_isNaN_int.sig (fun x => cmp_isNaN_int.f K x) 160 := fok_of_eval (tt := tt) (cons := []) (exts := []) (bodies := (getBody [])) (K := K) (d := 0) ⟨ttok, (fun _ _ => getCon_nil), (fun _ _ => getExt_nil), (fun _ _ => getBody_nil)⟩ draw bok160 (cmp_isNaN_int.eq K)
theorem cmp_isNaN_int.ok (K : Nat) : ConOK Tryz.prog 160 (cmp_isNaN_int.con K) := con_ok bok160 (cmp_isNaN_int.fok K)

noncomputable def cmp_Compare_int.f (K : Nat) (x0 : Int) (y1 : Int) : Option Int :=
  (cmp_isNaN_int.f K x0).bind fun r156 =>
  (cmp_isNaN_int.f K y1).bind fun r157 =>
  bif r156 then
    bif r157 then
      some 0
    else some (-1)
  else
  bif r157 then some 1
  else
  bif decide (x0 < y1) then some (-1)
  else
  bif decide (x0 > y1) then
    some 1
  else some 0
def cmp_Compare_int.sig : Sig := ⟨[(.c (.int .i64)), (.c (.int .i64))], [(.c (.int .i64))]⟩
noncomputable def cmp_Compare_int.con (K : Nat) : Con := (mkCon cmp_Compare_int.sig (fun x => cmp_Compare_int.f K x.1 x.2))
noncomputable def cmp_Compare_int.ht : HT := .nil
noncomputable def cmp_Compare_int.cx (K : Nat) : Cx := ⟨tt, [(160, cmp_isNaN_int.con K)], [], K, inlOf tt [(160, cmp_isNaN_int.con K)] [] K (getBody []) 0⟩
theorem cmp_Compare_int.eq (K : Nat) (x : PL cmp_Compare_int.sig.ps) : evalF (cmp_Compare_int.cx K) cmp_Compare_int.sig (bodyOf Tryz.f144) cmp_Compare_int.ht x = cmp_Compare_int.f K x.1 x.2 := by kernel_rfl
theorem cmp_Compare_int.fok (K : Nat) : FOK Tryz.prog cmp_Compare_int.sig (fun x => cmp_Compare_int.f K x.1 x.2) 144 := fok_of_eval (tt := tt) (cons := [(160, cmp_isNaN_int.con K)]) (exts := []) (bodies := (getBody [])) (K := K) (d := 0) ⟨ttok, (getCon_cons (cmp_isNaN_int.ok K) (fun _ _ => getCon_nil)), (fun _ _ => getExt_nil), (fun _ _ => getBody_nil)⟩ draw bok144 (cmp_Compare_int.eq K)
theorem cmp_Compare_int.ok (K : Nat) : ConOK Tryz.prog 144 (cmp_Compare_int.con K) := con_ok bok144 (cmp_Compare_int.fok K)

noncomputable def point_Compare.f (K : Nat) (p0 : List (List UInt8 × List UInt8) × Int × Bool × Int × Int × Int × Int × Bool × Int) (q1 : List (List UInt8 × List UInt8) × Int × Bool × Int × Int × Int × Int × Bool × Int) : Option Int :=
  (label_Compare.f K p0.1 q1.1).bind fun r158 =>
  (point_bools.f K p0.2.2.2.2.2.2.2.1 q1.2.2.2.2.2.2.2.1).bind fun r159 =>
  (cmp_Compare_int64.f K p0.2.2.2.2.2.2.2.2 q1.2.2.2.2.2.2.2.2).bind fun r160 =>
  (cmp_Compare_int.f K p0.2.1 q1.2.1).bind fun r161 =>
  (point_bools.f K p0.2.2.1 q1.2.2.1).bind fun r162 =>
  (sum_Compare.f K (p0.2.2.2.1, p0.2.2.2.2.1) (q1.2.2.2.1, q1.2.2.2.2.1)).bind fun r163 =>
  (cmp_Or_int.f K ([r158, r159, r160, r161, r162, r163] : List Int)).bind fun r164 =>
  some r164
def point_Compare.sig : Sig := ⟨[(.agg (.pair (.sl (.pair .str .str)) (.pair (.int .i64) (.pair .bool (.pair (.int .i64) (.pair (.int .i64) (.pair (.int .i64) (.pair (.int .i64) (.pair .bool (.int .i64)))))))))), (.agg (.pair (.sl (.pair .str .str)) (.pair (.int .i64) (.pair .bool (.pair (.int .i64) (.pair (.int .i64) (.pair (.int .i64) (.pair (.int .i64) (.pair .bool (.int .i64))))))))))], [(.c (.int .i64))]⟩
noncomputable def point_Compare.con (K : Nat) : Con := (mkCon point_Compare.sig (fun x => point_Compare.f K x.1 x.2))
noncomputable def point_Compare.ht : HT := .nil
noncomputable def point_Compare.cx (K : Nat) : Cx := ⟨tt, [(141, label_Compare.con K), (142, point_bools.con K), (143, cmp_Compare_int64.con K), (144, cmp_Compare_int.con K), (138, sum_Compare.con K), (140, cmp_Or_int.con K)], [], K, inlOf tt [(141, label_Compare.con K), (142, point_bools.con K), (143, cmp_Compare_int64.con K), (144, cmp_Compare_int.con K), (138, sum_Compare.con K), (140, cmp_Or_int.con K)] [] K (getBody []) 0⟩
theorem point_Compare.eq (K : Nat) (x : PL point_Compare.sig.ps) : evalF (point_Compare.cx K) point_Compare.sig (bodyOf Tryz.f118) point_Compare.ht x = point_Compare.f K x.1 x.2 := by kernel_rfl
theorem point_Compare.fok (K : Nat) : FOK Tryz.prog point_Compare.sig (fun x => point_Compare.f K x.1 x.2) 118 := fok_of_eval (tt := tt) (cons := [(141, label_Compare.con K), (142, point_bools.con K), (143, cmp_Compare_int64.con K), (144, cmp_Compare_int.con K), (138, sum_Compare.con K), (140, cmp_Or_int.con K)]) (exts := []) (bodies := (getBody [])) (K := K) (d := 0) ⟨ttok, (getCon_cons (label_Compare.ok K) (getCon_cons (point_bools.ok K) (getCon_cons (cmp_Compare_int64.ok K) (getCon_cons (cmp_Compare_int.ok K) (getCon_cons (sum_Compare.ok K) (getCon_cons (cmp_Or_int.ok K) (fun _ _ => getCon_nil))))))), (fun _ _ => getExt_nil), (fun _ _ => getBody_nil)⟩ draw bok118 (point_Compare.eq K)
theorem point_Compare.ok (K : Nat) : ConOK Tryz.prog 118 (point_Compare.con K) := con_ok bok118 (point_Compare.fok K)

noncomputable def family_rises.f (K : Nat) (l0 : List (List (List UInt8 × List UInt8) × Int × Bool × Int × Int × Int × Int × Bool × Int)) : Option Bool :=
  ((loopN K (fun (s_ : Int) =>
    match s_ with
    | i169 =>
      bif decide (i169 < (l0.length : Int)) then
        bif idx (IntKind.i64.wrap (i169 - 1)) l0.length then
          bif idx i169 l0.length then
            (point_Compare.f K ((l0.getD ((IntKind.i64.wrap (i169 - 1)).toNat) (([] : List (List UInt8 × List UInt8)), ((0 : Int), (false, ((0 : Int), ((0 : Int), ((0 : Int), ((0 : Int), (false, (0 : Int)))))))))).1, ((l0.getD ((IntKind.i64.wrap (i169 - 1)).toNat) (([] : List (List UInt8 × List UInt8)), ((0 : Int), (false, ((0 : Int), ((0 : Int), ((0 : Int), ((0 : Int), (false, (0 : Int)))))))))).2).1, (((l0.getD ((IntKind.i64.wrap (i169 - 1)).toNat) (([] : List (List UInt8 × List UInt8)), ((0 : Int), (false, ((0 : Int), ((0 : Int), ((0 : Int), ((0 : Int), (false, (0 : Int)))))))))).2).2).1, ((((l0.getD ((IntKind.i64.wrap (i169 - 1)).toNat) (([] : List (List UInt8 × List UInt8)), ((0 : Int), (false, ((0 : Int), ((0 : Int), ((0 : Int), ((0 : Int), (false, (0 : Int)))))))))).2).2).2).1, (((((l0.getD ((IntKind.i64.wrap (i169 - 1)).toNat) (([] : List (List UInt8 × List UInt8)), ((0 : Int), (false, ((0 : Int), ((0 : Int), ((0 : Int), ((0 : Int), (false, (0 : Int)))))))))).2).2).2).2).1, ((((((l0.getD ((IntKind.i64.wrap (i169 - 1)).toNat) (([] : List (List UInt8 × List UInt8)), ((0 : Int), (false, ((0 : Int), ((0 : Int), ((0 : Int), ((0 : Int), (false, (0 : Int)))))))))).2).2).2).2).2).1, (((((((l0.getD ((IntKind.i64.wrap (i169 - 1)).toNat) (([] : List (List UInt8 × List UInt8)), ((0 : Int), (false, ((0 : Int), ((0 : Int), ((0 : Int), ((0 : Int), (false, (0 : Int)))))))))).2).2).2).2).2).2).1, ((((((((l0.getD ((IntKind.i64.wrap (i169 - 1)).toNat) (([] : List (List UInt8 × List UInt8)), ((0 : Int), (false, ((0 : Int), ((0 : Int), ((0 : Int), ((0 : Int), (false, (0 : Int)))))))))).2).2).2).2).2).2).2).1, ((((((((l0.getD ((IntKind.i64.wrap (i169 - 1)).toNat) (([] : List (List UInt8 × List UInt8)), ((0 : Int), (false, ((0 : Int), ((0 : Int), ((0 : Int), ((0 : Int), (false, (0 : Int)))))))))).2).2).2).2).2).2).2).2) ((l0.getD i169.toNat (([] : List (List UInt8 × List UInt8)), ((0 : Int), (false, ((0 : Int), ((0 : Int), ((0 : Int), ((0 : Int), (false, (0 : Int)))))))))).1, ((l0.getD i169.toNat (([] : List (List UInt8 × List UInt8)), ((0 : Int), (false, ((0 : Int), ((0 : Int), ((0 : Int), ((0 : Int), (false, (0 : Int)))))))))).2).1, (((l0.getD i169.toNat (([] : List (List UInt8 × List UInt8)), ((0 : Int), (false, ((0 : Int), ((0 : Int), ((0 : Int), ((0 : Int), (false, (0 : Int)))))))))).2).2).1, ((((l0.getD i169.toNat (([] : List (List UInt8 × List UInt8)), ((0 : Int), (false, ((0 : Int), ((0 : Int), ((0 : Int), ((0 : Int), (false, (0 : Int)))))))))).2).2).2).1, (((((l0.getD i169.toNat (([] : List (List UInt8 × List UInt8)), ((0 : Int), (false, ((0 : Int), ((0 : Int), ((0 : Int), ((0 : Int), (false, (0 : Int)))))))))).2).2).2).2).1, ((((((l0.getD i169.toNat (([] : List (List UInt8 × List UInt8)), ((0 : Int), (false, ((0 : Int), ((0 : Int), ((0 : Int), ((0 : Int), (false, (0 : Int)))))))))).2).2).2).2).2).1, (((((((l0.getD i169.toNat (([] : List (List UInt8 × List UInt8)), ((0 : Int), (false, ((0 : Int), ((0 : Int), ((0 : Int), ((0 : Int), (false, (0 : Int)))))))))).2).2).2).2).2).2).1, ((((((((l0.getD i169.toNat (([] : List (List UInt8 × List UInt8)), ((0 : Int), (false, ((0 : Int), ((0 : Int), ((0 : Int), ((0 : Int), (false, (0 : Int)))))))))).2).2).2).2).2).2).2).1, ((((((((l0.getD i169.toNat (([] : List (List UInt8 × List UInt8)), ((0 : Int), (false, ((0 : Int), ((0 : Int), ((0 : Int), ((0 : Int), (false, (0 : Int)))))))))).2).2).2).2).2).2).2).2)).bind fun r170 =>
            bif decide (r170 ≥ 0) then
              some (.inr (.inr false))
            else some (.inl (IntKind.i64.wrap (i169 + 1)))
          else none
        else none
      else some (.inr (.inl ()))) 1 : Option (Unit ⊕ Bool))).bind fun e_ =>
  match e_ with
  | .inl _ =>
    some true
  | .inr t171 =>
    some t171
def family_rises.sig : Sig := ⟨[(.c (.sl (.pair (.sl (.pair .str .str)) (.pair (.int .i64) (.pair .bool (.pair (.int .i64) (.pair (.int .i64) (.pair (.int .i64) (.pair (.int .i64) (.pair .bool (.int .i64)))))))))))], [(.c .bool)]⟩
noncomputable def family_rises.con (K : Nat) : Con := (mkCon family_rises.sig (fun x => family_rises.f K x))
noncomputable def family_rises.ht : HT := .seq .nil (.seq (.seq .nil (.block (.loop ⟨1, [], [], ⟨[(3, .c (.v (.int .i64)))], []⟩, [(.exit 0, ⟨[], []⟩), (.ret, ⟨[(2, .c (.v .bool))], []⟩)]⟩ .nil))) .nil)
noncomputable def family_rises.cx (K : Nat) : Cx := ⟨tt, [(118, point_Compare.con K)], [], K, inlOf tt [(118, point_Compare.con K)] [] K (getBody []) 0⟩
theorem family_rises.eq (K : Nat) (x : PL family_rises.sig.ps) : evalF (family_rises.cx K) family_rises.sig (bodyOf Tryz.f86) family_rises.ht x = family_rises.f K x := by kernel_rfl
theorem family_rises.fok (K : Nat) : FOK Tryz.prog family_rises.sig (fun x => family_rises.f K x) 86 := fok_of_eval (tt := tt) (cons := [(118, point_Compare.con K)]) (exts := []) (bodies := (getBody [])) (K := K) (d := 0) ⟨ttok, (getCon_cons (point_Compare.ok K) (fun _ _ => getCon_nil)), (fun _ _ => getExt_nil), (fun _ _ => getBody_nil)⟩ draw bok86 (family_rises.eq K)
theorem family_rises.ok (K : Nat) : ConOK Tryz.prog 86 (family_rises.con K) := con_ok bok86 (family_rises.fok K)

noncomputable def family_Good.f (K : Nat) (f0 : List UInt8 × Int × List UInt8 × List UInt8 × List (List (List UInt8 × List UInt8) × Int × Bool × Int × Int × Int × Int × Bool × Int)) : Option Bool :=
  (((
      (label_Name.f K f0.1).bind fun r173 =>
      bif !r173 then some true
      else
      (family_Typed.f K f0.2.1).bind fun r174 =>
      bif r174 == ([] : List UInt8) then some true
      else
      (label_Value.f K f0.2.2.1).bind fun r175 =>
      bif !r175 then some true
      else
      (label_Value.f K f0.2.2.2.1).bind fun r176 =>
      some (!r176)) : Option Bool)).bind fun t177 =>
  bif t177 then some false
  else
  ((loopN K (fun (s_ : Int) =>
    match s_ with
    | t182 =>
      bif decide (t182 < (f0.2.2.2.2.length : Int)) then
        bif idx t182 f0.2.2.2.2.length then
          (point_Good.f K f0.2.1 ((f0.2.2.2.2.getD t182.toNat (([] : List (List UInt8 × List UInt8)), ((0 : Int), (false, ((0 : Int), ((0 : Int), ((0 : Int), ((0 : Int), (false, (0 : Int)))))))))).1, ((f0.2.2.2.2.getD t182.toNat (([] : List (List UInt8 × List UInt8)), ((0 : Int), (false, ((0 : Int), ((0 : Int), ((0 : Int), ((0 : Int), (false, (0 : Int)))))))))).2).1, (((f0.2.2.2.2.getD t182.toNat (([] : List (List UInt8 × List UInt8)), ((0 : Int), (false, ((0 : Int), ((0 : Int), ((0 : Int), ((0 : Int), (false, (0 : Int)))))))))).2).2).1, ((((f0.2.2.2.2.getD t182.toNat (([] : List (List UInt8 × List UInt8)), ((0 : Int), (false, ((0 : Int), ((0 : Int), ((0 : Int), ((0 : Int), (false, (0 : Int)))))))))).2).2).2).1, (((((f0.2.2.2.2.getD t182.toNat (([] : List (List UInt8 × List UInt8)), ((0 : Int), (false, ((0 : Int), ((0 : Int), ((0 : Int), ((0 : Int), (false, (0 : Int)))))))))).2).2).2).2).1, ((((((f0.2.2.2.2.getD t182.toNat (([] : List (List UInt8 × List UInt8)), ((0 : Int), (false, ((0 : Int), ((0 : Int), ((0 : Int), ((0 : Int), (false, (0 : Int)))))))))).2).2).2).2).2).1, (((((((f0.2.2.2.2.getD t182.toNat (([] : List (List UInt8 × List UInt8)), ((0 : Int), (false, ((0 : Int), ((0 : Int), ((0 : Int), ((0 : Int), (false, (0 : Int)))))))))).2).2).2).2).2).2).1, ((((((((f0.2.2.2.2.getD t182.toNat (([] : List (List UInt8 × List UInt8)), ((0 : Int), (false, ((0 : Int), ((0 : Int), ((0 : Int), ((0 : Int), (false, (0 : Int)))))))))).2).2).2).2).2).2).2).1, ((((((((f0.2.2.2.2.getD t182.toNat (([] : List (List UInt8 × List UInt8)), ((0 : Int), (false, ((0 : Int), ((0 : Int), ((0 : Int), ((0 : Int), (false, (0 : Int)))))))))).2).2).2).2).2).2).2).2)).bind fun r183 =>
          bif !r183 then
            some (.inr (.inr t182))
          else some (.inl (IntKind.i64.wrap (t182 + 1)))
        else none
      else some (.inr (.inl ()))) 0 : Option (Unit ⊕ Int))).bind fun e_ =>
  match e_ with
  | .inl _ =>
    (family_rises.f K f0.2.2.2.2).bind fun r184 =>
    some r184
  | .inr t185 =>
    bif !(decide (t185 ≥ 0)) then
      (family_rises.f K f0.2.2.2.2).bind fun r186 =>
      some r186
    else some false
def family_Good.sig : Sig := ⟨[(.agg (.pair .str (.pair (.int .i64) (.pair .str (.pair .str (.sl (.pair (.sl (.pair .str .str)) (.pair (.int .i64) (.pair .bool (.pair (.int .i64) (.pair (.int .i64) (.pair (.int .i64) (.pair (.int .i64) (.pair .bool (.int .i64)))))))))))))))], [(.c .bool)]⟩
noncomputable def family_Good.con (K : Nat) : Con := (mkCon family_Good.sig (fun x => family_Good.f K x))
noncomputable def family_Good.ht : HT := .seq .nil (.seq (.join ⟨3, [], [], ⟨[], []⟩, [(.normal, ⟨[(29, .c (.v .bool))], []⟩)]⟩ (.seq .nil .nil)) (.seq .nil (.seq (.calls [(3, .seq .nil (.seq (.calls [(2, .seq .nil (.seq (.seq .nil (.block (.loop ⟨8, [4, 5], [], ⟨[(8, .c (.v (.int .i64)))], []⟩, [(.exit 0, ⟨[], []⟩), (.ret, ⟨[(4, .c (.v (.int .i64)))], []⟩)]⟩ .nil))) .nil))]) .nil))]) .nil)))
noncomputable def family_Good.cx (K : Nat) : Cx := ⟨tt, [(81, label_Name.con K), (82, family_Typed.con K), (83, label_Value.con K), (85, point_Good.con K), (86, family_rises.con K)], [], K, inlOf tt [(81, label_Name.con K), (82, family_Typed.con K), (83, label_Value.con K), (85, point_Good.con K), (86, family_rises.con K)] [] K (getBody [(62, bodyOf Tryz.f62), (84, bodyOf Tryz.f84), (92, bodyOf Tryz.f92)]) 3⟩
theorem family_Good.eq (K : Nat) (x : PL family_Good.sig.ps) : evalF (family_Good.cx K) family_Good.sig (bodyOf Tryz.f53) family_Good.ht x = family_Good.f K x := by kernel_rfl
theorem family_Good.fok (K : Nat) : FOK Tryz.prog family_Good.sig (fun x => family_Good.f K x) 53 := fok_of_eval (tt := tt) (cons := [(81, label_Name.con K), (82, family_Typed.con K), (83, label_Value.con K), (85, point_Good.con K), (86, family_rises.con K)]) (exts := []) (bodies := (getBody [(62, bodyOf Tryz.f62), (84, bodyOf Tryz.f84), (92, bodyOf Tryz.f92)])) (K := K) (d := 3) ⟨ttok, (getCon_cons (label_Name.ok K) (getCon_cons (family_Typed.ok K) (getCon_cons (label_Value.ok K) (getCon_cons (point_Good.ok K) (getCon_cons (family_rises.ok K) (fun _ _ => getCon_nil)))))), (fun _ _ => getExt_nil), (getBody_cons (gbody_mk bok62 rfl) (getBody_cons (gbody_mk bok84 rfl) (getBody_cons (gbody_mk bok92 rfl) (fun _ _ => getBody_nil))))⟩ draw bok53 (family_Good.eq K)
theorem family_Good.ok (K : Nat) : ConOK Tryz.prog 53 (family_Good.con K) := con_ok bok53 (family_Good.fok K)

noncomputable def batch_Check_1.f (K : Nat) (f0 : List UInt8 × Int × List UInt8 × List UInt8 × List (List (List UInt8 × List UInt8) × Int × Bool × Int × Int × Int × Int × Bool × Int)) : Option Bool :=
  (family_Good.f K f0).bind fun r187 =>
  some (!r187)
def batch_Check_1.sig : Sig := ⟨[(.agg (.pair .str (.pair (.int .i64) (.pair .str (.pair .str (.sl (.pair (.sl (.pair .str .str)) (.pair (.int .i64) (.pair .bool (.pair (.int .i64) (.pair (.int .i64) (.pair (.int .i64) (.pair (.int .i64) (.pair .bool (.int .i64)))))))))))))))], [(.c .bool)]⟩
noncomputable def batch_Check_1.con (K : Nat) : Con := (mkCon batch_Check_1.sig (fun x => batch_Check_1.f K x))
noncomputable def batch_Check_1.ht : HT := .nil
noncomputable def batch_Check_1.cx (K : Nat) : Cx := ⟨tt, [(53, family_Good.con K)], [], K, inlOf tt [(53, family_Good.con K)] [] K (getBody []) 0⟩
theorem batch_Check_1.eq (K : Nat) (x : PL batch_Check_1.sig.ps) : evalF (batch_Check_1.cx K) batch_Check_1.sig (bodyOf Tryz.f52) batch_Check_1.ht x = batch_Check_1.f K x := by kernel_rfl
theorem batch_Check_1.fok (K : Nat) : FOK Tryz.prog batch_Check_1.sig (fun x => batch_Check_1.f K x) 52 := fok_of_eval (tt := tt) (cons := [(53, family_Good.con K)]) (exts := []) (bodies := (getBody [])) (K := K) (d := 0) ⟨ttok, (getCon_cons (family_Good.ok K) (fun _ _ => getCon_nil)), (fun _ _ => getExt_nil), (fun _ _ => getBody_nil)⟩ draw bok52 (batch_Check_1.eq K)
theorem batch_Check_1.ok (K : Nat) : ConOK Tryz.prog 52 (batch_Check_1.con K) := con_ok bok52 (batch_Check_1.fok K)

noncomputable def batch_Tenant.f (K : Nat) (s0 : List UInt8) : Option Bool :=
  ((loopN K (fun (s_ : Int) =>
    match s_ with
    | t192 =>
      bif decide (t192 < (s0.length : Int)) then
        bif idx t192 s0.length then
          (((
              bif decide (((s0.getD t192.toNat 0).toNat : Int) < 97) then
                bif decide (((s0.getD t192.toNat 0).toNat : Int) < 48) then some (((s0.getD t192.toNat 0).toNat : Int) != 45)
                else
                bif decide (((s0.getD t192.toNat 0).toNat : Int) > 57) then
                  some (((s0.getD t192.toNat 0).toNat : Int) != 45)
                else some false
              else
              bif decide (((s0.getD t192.toNat 0).toNat : Int) > 122) then
                bif decide (((s0.getD t192.toNat 0).toNat : Int) < 48) then some (((s0.getD t192.toNat 0).toNat : Int) != 45)
                else
                bif decide (((s0.getD t192.toNat 0).toNat : Int) > 57) then
                  some (((s0.getD t192.toNat 0).toNat : Int) != 45)
                else some false
              else some false) : Option Bool)).bind fun t193 =>
          bif t193 then
            some (.inr (.inr false))
          else some (.inl (IntKind.i64.wrap (t192 + 1)))
        else none
      else some (.inr (.inl ()))) 0 : Option (Unit ⊕ Bool))).bind fun e_ =>
  match e_ with
  | .inl _ =>
    bif !(s0 == ([] : List UInt8)) then
      some (decide ((s0.length : Int) ≤ 16))
    else some false
  | .inr t194 =>
    some t194
def batch_Tenant.sig : Sig := ⟨[(.c .str)], [(.c .bool)]⟩
noncomputable def batch_Tenant.con (K : Nat) : Con := (mkCon batch_Tenant.sig (fun x => batch_Tenant.f K x))
noncomputable def batch_Tenant.ht : HT := .seq .nil (.seq (.seq .nil (.block (.loop ⟨7, [2, 3, 4], [], ⟨[(7, .c (.v (.int .i64)))], []⟩, [(.exit 0, ⟨[], []⟩), (.ret, ⟨[(2, .c (.v .bool))], []⟩)]⟩ (.seq .nil (.seq .nil (.seq (.block (.seq .nil (.seq .nil (.join ⟨8, [], [], ⟨[], []⟩, [(.normal, ⟨[(30, .c (.v .bool))], []⟩)]⟩ (.seq .nil .nil))))) .nil)))))) .nil)
noncomputable def batch_Tenant.cx (K : Nat) : Cx := ⟨tt, [], [], K, inlOf tt [] [] K (getBody []) 0⟩
theorem batch_Tenant.eq (K : Nat) (x : PL batch_Tenant.sig.ps) : evalF (batch_Tenant.cx K) batch_Tenant.sig (bodyOf Tryz.f54) batch_Tenant.ht x = batch_Tenant.f K x := by kernel_rfl
theorem batch_Tenant.fok (K : Nat) : FOK Tryz.prog batch_Tenant.sig (fun x => batch_Tenant.f K x) 54 := fok_of_eval (tt := tt) (cons := []) (exts := []) (bodies := (getBody [])) (K := K) (d := 0) ⟨ttok, (fun _ _ => getCon_nil), (fun _ _ => getExt_nil), (fun _ _ => getBody_nil)⟩ draw bok54 (batch_Tenant.eq K)
theorem batch_Tenant.ok (K : Nat) : ConOK Tryz.prog 54 (batch_Tenant.con K) := con_ok bok54 (batch_Tenant.fok K)

noncomputable def batch_rises.f (K : Nat) (l0 : List (List UInt8 × Int × List UInt8 × List UInt8 × List (List (List UInt8 × List UInt8) × Int × Bool × Int × Int × Int × Int × Bool × Int))) : Option Bool :=
  ((loopN K (fun (s_ : Int) =>
    match s_ with
    | i197 =>
      bif decide (i197 < (l0.length : Int)) then
        bif idx (IntKind.i64.wrap (i197 - 1)) l0.length then
          bif idx i197 l0.length then
            bif !(Op.bytesLess ((l0.getD ((IntKind.i64.wrap (i197 - 1)).toNat) (([] : List UInt8), ((0 : Int), (([] : List UInt8), (([] : List UInt8), ([] : List (List (List UInt8 × List UInt8) × Int × Bool × Int × Int × Int × Int × Bool × Int))))))).1) ((l0.getD i197.toNat (([] : List UInt8), ((0 : Int), (([] : List UInt8), (([] : List UInt8), ([] : List (List (List UInt8 × List UInt8) × Int × Bool × Int × Int × Int × Int × Bool × Int))))))).1)) then
              some (.inr (.inr false))
            else some (.inl (IntKind.i64.wrap (i197 + 1)))
          else none
        else none
      else some (.inr (.inl ()))) 1 : Option (Unit ⊕ Bool))).bind fun e_ =>
  match e_ with
  | .inl _ =>
    some true
  | .inr t198 =>
    some t198
def batch_rises.sig : Sig := ⟨[(.c (.sl (.pair .str (.pair (.int .i64) (.pair .str (.pair .str (.sl (.pair (.sl (.pair .str .str)) (.pair (.int .i64) (.pair .bool (.pair (.int .i64) (.pair (.int .i64) (.pair (.int .i64) (.pair (.int .i64) (.pair .bool (.int .i64))))))))))))))))], [(.c .bool)]⟩
noncomputable def batch_rises.con (K : Nat) : Con := (mkCon batch_rises.sig (fun x => batch_rises.f K x))
noncomputable def batch_rises.ht : HT := .seq .nil (.seq (.seq .nil (.block (.loop ⟨1, [], [], ⟨[(3, .c (.v (.int .i64)))], []⟩, [(.exit 0, ⟨[], []⟩), (.ret, ⟨[(2, .c (.v .bool))], []⟩)]⟩ .nil))) .nil)
noncomputable def batch_rises.cx (K : Nat) : Cx := ⟨tt, [], [], K, inlOf tt [] [] K (getBody []) 0⟩
theorem batch_rises.eq (K : Nat) (x : PL batch_rises.sig.ps) : evalF (batch_rises.cx K) batch_rises.sig (bodyOf Tryz.f56) batch_rises.ht x = batch_rises.f K x := by kernel_rfl
theorem batch_rises.fok (K : Nat) : FOK Tryz.prog batch_rises.sig (fun x => batch_rises.f K x) 56 := fok_of_eval (tt := tt) (cons := []) (exts := []) (bodies := (getBody [])) (K := K) (d := 0) ⟨ttok, (fun _ _ => getCon_nil), (fun _ _ => getExt_nil), (fun _ _ => getBody_nil)⟩ draw bok56 (batch_rises.eq K)
theorem batch_rises.ok (K : Nat) : ConOK Tryz.prog 56 (batch_rises.con K) := con_ok bok56 (batch_rises.fok K)

noncomputable def batch_Points.f (K : Nat) (b0 : List UInt8 × List (List UInt8 × Int × List UInt8 × List UInt8 × List (List (List UInt8 × List UInt8) × Int × Bool × Int × Int × Int × Int × Bool × Int))) : Option Int :=
  ((loopN K (fun (s_ : Int × Int) =>
    match s_ with
    | (n201, t202) =>
      bif decide (t202 < (b0.2.length : Int)) then
        bif idx t202 b0.2.length then
          some (.inl (IntKind.i64.wrap (n201 + ((((((b0.2.getD t202.toNat (([] : List UInt8), ((0 : Int), (([] : List UInt8), (([] : List UInt8), ([] : List (List (List UInt8 × List UInt8) × Int × Bool × Int × Int × Int × Int × Bool × Int))))))).2).2).2).2).length : Int)), IntKind.i64.wrap (t202 + 1)))
        else none
      else some (.inr n201)) (0, 0) : Option Int)).bind fun n203 =>
  some n203
def batch_Points.sig : Sig := ⟨[(.agg (.pair .str (.sl (.pair .str (.pair (.int .i64) (.pair .str (.pair .str (.sl (.pair (.sl (.pair .str .str)) (.pair (.int .i64) (.pair .bool (.pair (.int .i64) (.pair (.int .i64) (.pair (.int .i64) (.pair (.int .i64) (.pair .bool (.int .i64)))))))))))))))))], [(.c (.int .i64))]⟩
noncomputable def batch_Points.con (K : Nat) : Con := (mkCon batch_Points.sig (fun x => batch_Points.f K x))
noncomputable def batch_Points.ht : HT := .seq .nil (.seq .nil (.seq (.seq .nil (.block (.loop ⟨9, [3, 5], [], ⟨[(3, .c (.v (.int .i64))), (9, .c (.v (.int .i64)))], []⟩, [(.exit 0, ⟨[(3, .c (.v (.int .i64)))], []⟩)]⟩ .nil))) .nil))
noncomputable def batch_Points.cx (K : Nat) : Cx := ⟨tt, [], [], K, inlOf tt [] [] K (getBody []) 0⟩
theorem batch_Points.eq (K : Nat) (x : PL batch_Points.sig.ps) : evalF (batch_Points.cx K) batch_Points.sig (bodyOf Tryz.f57) batch_Points.ht x = batch_Points.f K x := by kernel_rfl
theorem batch_Points.fok (K : Nat) : FOK Tryz.prog batch_Points.sig (fun x => batch_Points.f K x) 57 := fok_of_eval (tt := tt) (cons := []) (exts := []) (bodies := (getBody [])) (K := K) (d := 0) ⟨ttok, (fun _ _ => getCon_nil), (fun _ _ => getExt_nil), (fun _ _ => getBody_nil)⟩ draw bok57 (batch_Points.eq K)
theorem batch_Points.ok (K : Nat) : ConOK Tryz.prog 57 (batch_Points.con K) := con_ok bok57 (batch_Points.fok K)

noncomputable def batch_Check.f (K : Nat) (b0 : List UInt8 × List (List UInt8 × Int × List UInt8 × List UInt8 × List (List (List UInt8 × List UInt8) × Int × Bool × Int × Int × Int × Int × Bool × Int))) : Option Int :=
  (((
      (batch_Tenant.f K b0.1).bind fun r205 =>
      bif !r205 then some true
      else
      ((loopN K (fun (s_ : Int) =>
        match s_ with
        | t210 =>
          bif decide (t210 < (b0.2.length : Int)) then
            bif idx t210 b0.2.length then
              (batch_Check_1.f K ((b0.2.getD t210.toNat (([] : List UInt8), ((0 : Int), (([] : List UInt8), (([] : List UInt8), ([] : List (List (List UInt8 × List UInt8) × Int × Bool × Int × Int × Int × Int × Bool × Int))))))).1, ((b0.2.getD t210.toNat (([] : List UInt8), ((0 : Int), (([] : List UInt8), (([] : List UInt8), ([] : List (List (List UInt8 × List UInt8) × Int × Bool × Int × Int × Int × Int × Bool × Int))))))).2).1, (((b0.2.getD t210.toNat (([] : List UInt8), ((0 : Int), (([] : List UInt8), (([] : List UInt8), ([] : List (List (List UInt8 × List UInt8) × Int × Bool × Int × Int × Int × Int × Bool × Int))))))).2).2).1, ((((b0.2.getD t210.toNat (([] : List UInt8), ((0 : Int), (([] : List UInt8), (([] : List UInt8), ([] : List (List (List UInt8 × List UInt8) × Int × Bool × Int × Int × Int × Int × Bool × Int))))))).2).2).2).1, ((((b0.2.getD t210.toNat (([] : List UInt8), ((0 : Int), (([] : List UInt8), (([] : List UInt8), ([] : List (List (List UInt8 × List UInt8) × Int × Bool × Int × Int × Int × Int × Bool × Int))))))).2).2).2).2)).bind fun r211 =>
              bif r211 then
                some (.inr (.inr t210))
              else some (.inl (IntKind.i64.wrap (t210 + 1)))
            else none
          else some (.inr (.inl ()))) 0 : Option (Unit ⊕ Int))).bind fun e_ =>
      match e_ with
      | .inl _ =>
        (batch_rises.f K b0.2).bind fun r212 =>
        some (!r212)
      | .inr t213 =>
        bif decide (t213 ≥ 0) then some true
        else
        (batch_rises.f K b0.2).bind fun r214 =>
        some (!r214)) : Option Bool)).bind fun t215 =>
  bif t215 then some 19
  else
  bif decide ((b0.2.length : Int) > 30) then some 14
  else
  (batch_Points.f K b0).bind fun r216 =>
  bif decide (r216 > 120) then
    some 14
  else some 0
def batch_Check.sig : Sig := ⟨[(.agg (.pair .str (.sl (.pair .str (.pair (.int .i64) (.pair .str (.pair .str (.sl (.pair (.sl (.pair .str .str)) (.pair (.int .i64) (.pair .bool (.pair (.int .i64) (.pair (.int .i64) (.pair (.int .i64) (.pair (.int .i64) (.pair .bool (.int .i64)))))))))))))))))], [(.c (.int .i64))]⟩
noncomputable def batch_Check.con (K : Nat) : Con := (mkCon batch_Check.sig (fun x => batch_Check.f K x))
noncomputable def batch_Check.ht : HT := .seq .nil (.seq .nil (.seq (.block (.join ⟨3, [], [], ⟨[], []⟩, [(.normal, ⟨[(4, .c (.v .bool))], []⟩)]⟩ (.seq (.calls [(8, .seq .nil (.seq (.calls [(2, .seq .nil (.seq (.seq .nil (.block (.loop ⟨8, [4, 5], [], ⟨[(8, .c (.v (.int .i64)))], []⟩, [(.exit 0, ⟨[], []⟩), (.ret, ⟨[(4, .c (.v (.int .i64)))], []⟩)]⟩ .nil))) .nil))]) .nil))]) .nil))) .nil))
noncomputable def batch_Check.cx (K : Nat) : Cx := ⟨tt, [(54, batch_Tenant.con K), (52, batch_Check_1.con K), (56, batch_rises.con K), (57, batch_Points.con K)], [], K, inlOf tt [(54, batch_Tenant.con K), (52, batch_Check_1.con K), (56, batch_rises.con K), (57, batch_Points.con K)] [] K (getBody [(55, bodyOf Tryz.f55), (87, bodyOf Tryz.f87)]) 2⟩
theorem batch_Check.eq (K : Nat) (x : PL batch_Check.sig.ps) : evalF (batch_Check.cx K) batch_Check.sig (bodyOf Tryz.f38) batch_Check.ht x = batch_Check.f K x := by kernel_rfl
theorem batch_Check.fok (K : Nat) : FOK Tryz.prog batch_Check.sig (fun x => batch_Check.f K x) 38 := fok_of_eval (tt := tt) (cons := [(54, batch_Tenant.con K), (52, batch_Check_1.con K), (56, batch_rises.con K), (57, batch_Points.con K)]) (exts := []) (bodies := (getBody [(55, bodyOf Tryz.f55), (87, bodyOf Tryz.f87)])) (K := K) (d := 2) ⟨ttok, (getCon_cons (batch_Tenant.ok K) (getCon_cons (batch_Check_1.ok K) (getCon_cons (batch_rises.ok K) (getCon_cons (batch_Points.ok K) (fun _ _ => getCon_nil))))), (fun _ _ => getExt_nil), (getBody_cons (gbody_mk bok55 rfl) (getBody_cons (gbody_mk bok87 rfl) (fun _ _ => getBody_nil)))⟩ draw bok38 (batch_Check.eq K)
theorem batch_Check.ok (K : Nat) : ConOK Tryz.prog 38 (batch_Check.con K) := con_ok bok38 (batch_Check.fok K)

noncomputable def class_Kinds.f (K : Nat) (proto0 : Int) : Option (List Int) :=
  bif proto0 == 1 then some ([0, 1, 2, 3, 4] : List Int)
  else
  bif proto0 == 2 then some ([0, 1, 2] : List Int)
  else
  bif proto0 == 3 then some ([0] : List Int)
  else
  bif proto0 == 4 then
    some ([1, 2] : List Int)
  else some ([] : List Int)
def class_Kinds.sig : Sig := ⟨[(.c (.int .i64))], [(.c (.sl (.int .i64)))]⟩
noncomputable def class_Kinds.con (K : Nat) : Con := (mkCon class_Kinds.sig (fun x => class_Kinds.f K x))
noncomputable def class_Kinds.ht : HT := .nil
noncomputable def class_Kinds.cx (K : Nat) : Cx := ⟨tt, [], [], K, inlOf tt [] [] K (getBody []) 0⟩
theorem class_Kinds.eq (K : Nat) (x : PL class_Kinds.sig.ps) : evalF (class_Kinds.cx K) class_Kinds.sig (bodyOf Tryz.f59) class_Kinds.ht x = class_Kinds.f K x := by kernel_rfl
theorem class_Kinds.fok (K : Nat) : FOK Tryz.prog class_Kinds.sig (fun x => class_Kinds.f K x) 59 := fok_of_eval (tt := tt) (cons := []) (exts := []) (bodies := (getBody [])) (K := K) (d := 0) ⟨ttok, (fun _ _ => getCon_nil), (fun _ _ => getExt_nil), (fun _ _ => getBody_nil)⟩ draw bok59 (class_Kinds.eq K)
theorem class_Kinds.ok (K : Nat) : ConOK Tryz.prog 59 (class_Kinds.con K) := con_ok bok59 (class_Kinds.fok K)

noncomputable def stringslite_IndexByte.f (K : Nat) (s0 : List UInt8) (c1 : Int) : Option Int :=
  some (idxByte s0 c1)
def stringslite_IndexByte.sig : Sig := ⟨[(.c .str), (.c (.int .u8))], [(.c (.int .i64))]⟩
noncomputable def stringslite_IndexByte.con (K : Nat) : Con := (mkCon stringslite_IndexByte.sig (fun x => stringslite_IndexByte.f K x.1 x.2))
noncomputable def stringslite_IndexByte.ht : HT := .nil
noncomputable def stringslite_IndexByte.cx (K : Nat) : Cx := ⟨tt, [], [(125, .indexByte)], K, inlOf tt [] [(125, .indexByte)] K (getBody []) 0⟩
theorem stringslite_IndexByte.eq (K : Nat) (x : PL stringslite_IndexByte.sig.ps) : evalF (stringslite_IndexByte.cx K) stringslite_IndexByte.sig (bodyOf Tryz.f94) stringslite_IndexByte.ht x = stringslite_IndexByte.f K x.1 x.2 := by kernel_rfl
theorem stringslite_IndexByte.fok (K : Nat) : FOK Tryz.prog stringslite_IndexByte.sig (fun x => stringslite_IndexByte.f K x.1 x.2) 94 := fok_of_eval (tt := tt) (cons := []) (exts := [(125, .indexByte)]) (bodies := (getBody [])) (K := K) (d := 0) ⟨ttok, (fun _ _ => getCon_nil), (getExt_cons ext125 (fun _ _ => getExt_nil)), (fun _ _ => getBody_nil)⟩ draw bok94 (stringslite_IndexByte.eq K)
theorem stringslite_IndexByte.ok (K : Nat) : ConOK Tryz.prog 94 (stringslite_IndexByte.con K) := con_ok bok94 (stringslite_IndexByte.fok K)

noncomputable def strings_IndexByte.f (K : Nat) (s0 : List UInt8) (c1 : Int) : Option Int :=
  (stringslite_IndexByte.f K s0 c1).bind fun r217 =>
  some r217
def strings_IndexByte.sig : Sig := ⟨[(.c .str), (.c (.int .u8))], [(.c (.int .i64))]⟩
noncomputable def strings_IndexByte.con (K : Nat) : Con := (mkCon strings_IndexByte.sig (fun x => strings_IndexByte.f K x.1 x.2))
noncomputable def strings_IndexByte.ht : HT := .nil
noncomputable def strings_IndexByte.cx (K : Nat) : Cx := ⟨tt, [(94, stringslite_IndexByte.con K)], [], K, inlOf tt [(94, stringslite_IndexByte.con K)] [] K (getBody []) 0⟩
theorem strings_IndexByte.eq (K : Nat) (x : PL strings_IndexByte.sig.ps) : evalF (strings_IndexByte.cx K) strings_IndexByte.sig (bodyOf Tryz.f65) strings_IndexByte.ht x = strings_IndexByte.f K x.1 x.2 := by kernel_rfl
theorem strings_IndexByte.fok (K : Nat) : FOK Tryz.prog strings_IndexByte.sig (fun x => strings_IndexByte.f K x.1 x.2) 65 := fok_of_eval (tt := tt) (cons := [(94, stringslite_IndexByte.con K)]) (exts := []) (bodies := (getBody [])) (K := K) (d := 0) ⟨ttok, (getCon_cons (stringslite_IndexByte.ok K) (fun _ _ => getCon_nil)), (fun _ _ => getExt_nil), (fun _ _ => getBody_nil)⟩ draw bok65 (strings_IndexByte.eq K)
theorem strings_IndexByte.ok (K : Nat) : ConOK Tryz.prog 65 (strings_IndexByte.con K) := con_ok bok65 (strings_IndexByte.fok K)

noncomputable def charset_within.f (K : Nat) (c0 : Int) (classes1 : Int × Int × Int × Int × Int × Int) : Option Bool :=
  ((loopN K (fun (s_ : Int) =>
    match s_ with
    | t220 =>
      bif decide (t220 < 3) then
        bif idx t220 3 then
          bif decide (c0 ≥ ((([(classes1.1, classes1.2.1), (classes1.2.2.1, classes1.2.2.2.1), classes1.2.2.2.2] : List (Int × Int)).getD t220.toNat ((0 : Int), (0 : Int))).1)) then
            bif decide (c0 ≤ ((([(classes1.1, classes1.2.1), (classes1.2.2.1, classes1.2.2.2.1), classes1.2.2.2.2] : List (Int × Int)).getD t220.toNat ((0 : Int), (0 : Int))).2)) then
              some (.inr (.inr true))
            else some (.inl (IntKind.i64.wrap (t220 + 1)))
          else some (.inl (IntKind.i64.wrap (t220 + 1)))
        else none
      else some (.inr (.inl ()))) 0 : Option (Unit ⊕ Bool))).bind fun e_ =>
  match e_ with
  | .inl _ =>
    some false
  | .inr t221 =>
    some t221
def charset_within.sig : Sig := ⟨[(.c (.int .u8)), (.agg (.pair (.int .u8) (.pair (.int .u8) (.pair (.int .u8) (.pair (.int .u8) (.pair (.int .u8) (.int .u8)))))))], [(.c .bool)]⟩
noncomputable def charset_within.con (K : Nat) : Con := (mkCon charset_within.sig (fun x => charset_within.f K x.1 x.2))
noncomputable def charset_within.ht : HT := .seq .nil (.seq (.seq .nil (.block (.loop ⟨8, [4, 6], [], ⟨[(8, .c (.v (.int .i64)))], []⟩, [(.exit 0, ⟨[], []⟩), (.ret, ⟨[(4, .c (.v .bool))], []⟩)]⟩ .nil))) .nil)
noncomputable def charset_within.cx (K : Nat) : Cx := ⟨tt, [], [], K, inlOf tt [] [] K (getBody []) 0⟩
theorem charset_within.eq (K : Nat) (x : PL charset_within.sig.ps) : evalF (charset_within.cx K) charset_within.sig (bodyOf Tryz.f145) charset_within.ht x = charset_within.f K x.1 x.2 := by kernel_rfl
theorem charset_within.fok (K : Nat) : FOK Tryz.prog charset_within.sig (fun x => charset_within.f K x.1 x.2) 145 := fok_of_eval (tt := tt) (cons := []) (exts := []) (bodies := (getBody [])) (K := K) (d := 0) ⟨ttok, (fun _ _ => getCon_nil), (fun _ _ => getExt_nil), (fun _ _ => getBody_nil)⟩ draw bok145 (charset_within.eq K)
theorem charset_within.ok (K : Nat) : ConOK Tryz.prog 145 (charset_within.con K) := con_ok bok145 (charset_within.fok K)

noncomputable def charset_letter.f (K : Nat) (c0 : Int) (digits1 : Bool) : Option Bool :=
  bif digits1 then
    (charset_within.f K c0 (97, 122, 65, 90, 48, 57)).bind fun r222 =>
    some r222
  else
  (charset_within.f K c0 (97, 122, 65, 90, 97, 97)).bind fun r223 =>
  some r223
def charset_letter.sig : Sig := ⟨[(.c (.int .u8)), (.c .bool)], [(.c .bool)]⟩
noncomputable def charset_letter.con (K : Nat) : Con := (mkCon charset_letter.sig (fun x => charset_letter.f K x.1 x.2))
noncomputable def charset_letter.ht : HT := .nil
noncomputable def charset_letter.cx (K : Nat) : Cx := ⟨tt, [(145, charset_within.con K)], [], K, inlOf tt [(145, charset_within.con K)] [] K (getBody []) 0⟩
theorem charset_letter.eq (K : Nat) (x : PL charset_letter.sig.ps) : evalF (charset_letter.cx K) charset_letter.sig (bodyOf Tryz.f119) charset_letter.ht x = charset_letter.f K x.1 x.2 := by kernel_rfl
theorem charset_letter.fok (K : Nat) : FOK Tryz.prog charset_letter.sig (fun x => charset_letter.f K x.1 x.2) 119 := fok_of_eval (tt := tt) (cons := [(145, charset_within.con K)]) (exts := []) (bodies := (getBody [])) (K := K) (d := 0) ⟨ttok, (getCon_cons (charset_within.ok K) (fun _ _ => getCon_nil)), (fun _ _ => getExt_nil), (fun _ _ => getBody_nil)⟩ draw bok119 (charset_letter.eq K)
theorem charset_letter.ok (K : Nat) : ConOK Tryz.prog 119 (charset_letter.con K) := con_ok bok119 (charset_letter.fok K)

noncomputable def charset_line.f (K : Nat) (what0 : Int) (s1 : List UInt8) (i2 : Int) : Option Bool :=
  bif idx i2 s1.length then
    bif decide (((s1.getD i2.toNat 0).toNat : Int) ≥ 32) then
      bif decide (((s1.getD i2.toNat 0).toNat : Int) ≤ 126) then
        bif ((s1.getD i2.toNat 0).toNat : Int) != 92 then
          bif ((s1.getD i2.toNat 0).toNat : Int) != 35 then some true
          else
          bif decide (i2 > 0) then
            some true
          else some (what0 == 1)
        else some false
      else some false
    else some false
  else none
def charset_line.sig : Sig := ⟨[(.c (.int .i64)), (.c .str), (.c (.int .i64))], [(.c .bool)]⟩
noncomputable def charset_line.con (K : Nat) : Con := (mkCon charset_line.sig (fun x => charset_line.f K x.1 x.2.1 x.2.2))
noncomputable def charset_line.ht : HT := .nil
noncomputable def charset_line.cx (K : Nat) : Cx := ⟨tt, [], [], K, inlOf tt [] [] K (getBody []) 0⟩
theorem charset_line.eq (K : Nat) (x : PL charset_line.sig.ps) : evalF (charset_line.cx K) charset_line.sig (bodyOf Tryz.f120) charset_line.ht x = charset_line.f K x.1 x.2.1 x.2.2 := by kernel_rfl
theorem charset_line.fok (K : Nat) : FOK Tryz.prog charset_line.sig (fun x => charset_line.f K x.1 x.2.1 x.2.2) 120 := fok_of_eval (tt := tt) (cons := []) (exts := []) (bodies := (getBody [])) (K := K) (d := 0) ⟨ttok, (fun _ _ => getCon_nil), (fun _ _ => getExt_nil), (fun _ _ => getBody_nil)⟩ draw bok120 (charset_line.eq K)
theorem charset_line.ok (K : Nat) : ConOK Tryz.prog 120 (charset_line.con K) := con_ok bok120 (charset_line.fok K)

noncomputable def charset_point.f (K : Nat) (s0 : List UInt8) (i1 : Int) : Option Bool :=
  bif decide (i1 > 0) then
    bif decide (i1 < (IntKind.i64.wrap ((s0.length : Int) - 1))) then
      bif idx (IntKind.i64.wrap (i1 - 1)) s0.length then
        some (((s0.getD ((IntKind.i64.wrap (i1 - 1)).toNat) 0).toNat : Int) != 46)
      else none
    else some false
  else some false
def charset_point.sig : Sig := ⟨[(.c .str), (.c (.int .i64))], [(.c .bool)]⟩
noncomputable def charset_point.con (K : Nat) : Con := (mkCon charset_point.sig (fun x => charset_point.f K x.1 x.2))
noncomputable def charset_point.ht : HT := .nil
noncomputable def charset_point.cx (K : Nat) : Cx := ⟨tt, [], [], K, inlOf tt [] [] K (getBody []) 0⟩
theorem charset_point.eq (K : Nat) (x : PL charset_point.sig.ps) : evalF (charset_point.cx K) charset_point.sig (bodyOf Tryz.f121) charset_point.ht x = charset_point.f K x.1 x.2 := by kernel_rfl
theorem charset_point.fok (K : Nat) : FOK Tryz.prog charset_point.sig (fun x => charset_point.f K x.1 x.2) 121 := fok_of_eval (tt := tt) (cons := []) (exts := []) (bodies := (getBody [])) (K := K) (d := 0) ⟨ttok, (fun _ _ => getCon_nil), (fun _ _ => getExt_nil), (fun _ _ => getBody_nil)⟩ draw bok121 (charset_point.eq K)
theorem charset_point.ok (K : Nat) : ConOK Tryz.prog 121 (charset_point.con K) := con_ok bok121 (charset_point.fok K)

noncomputable def charset_Legal.f (K : Nat) (proto0 : Int) (what1 : Int) (s2 : List UInt8) (i3 : Int) : Option Bool :=
  (((
      bif decide (i3 < 0) then some (.inr false)
      else
      bif decide (i3 ≥ (s2.length : Int)) then some (.inr false)
      else
      bif what1 != 0 then
        bif what1 != 1 then
          some (.inr false)
        else some (.inl ())
      else some (.inl ())) : Option (Unit ⊕ Bool))).bind fun e_ =>
  match e_ with
  | .inl _ =>
    bif idx i3 s2.length then
      bif proto0 == 1 then
        (charset_letter.f K ((s2.getD i3.toNat 0).toNat : Int) (decide (i3 > 0))).bind fun r224 =>
        bif r224 then some true
        else
        bif ((s2.getD i3.toNat 0).toNat : Int) == 95 then some true
        else
        bif ((s2.getD i3.toNat 0).toNat : Int) == 58 then
          some (what1 == 0)
        else some false
      else
      bif proto0 == 2 then
        (charset_line.f K what1 s2 i3).bind fun r225 =>
        some r225
      else
      bif proto0 == 3 then
        (charset_letter.f K ((s2.getD i3.toNat 0).toNat : Int) true).bind fun r226 =>
        bif r226 then some true
        else
        (strings_IndexByte.f K ([95, 45, 58] : List UInt8) ((s2.getD i3.toNat 0).toNat : Int)).bind fun r227 =>
        bif decide (r227 ≥ 0) then some true
        else
        bif ((s2.getD i3.toNat 0).toNat : Int) == 46 then
          bif what1 == 0 then
            (charset_point.f K s2 i3).bind fun r228 =>
            some r228
          else some false
        else some false
      else
      bif proto0 == 4 then
        (charset_letter.f K ((s2.getD i3.toNat 0).toNat : Int) true).bind fun r229 =>
        bif r229 then some true
        else
        (strings_IndexByte.f K ([95, 45, 46] : List UInt8) ((s2.getD i3.toNat 0).toNat : Int)).bind fun r230 =>
        some (decide (r230 ≥ 0))
      else some false
    else none
  | .inr t231 =>
    some t231
def charset_Legal.sig : Sig := ⟨[(.c (.int .i64)), (.c (.int .i64)), (.c .str), (.c (.int .i64))], [(.c .bool)]⟩
noncomputable def charset_Legal.con (K : Nat) : Con := (mkCon charset_Legal.sig (fun x => charset_Legal.f K x.1 x.2.1 x.2.2.1 x.2.2.2))
noncomputable def charset_Legal.ht : HT := .seq .nil (.join ⟨4, [], [], ⟨[], []⟩, [(.normal, ⟨[], []⟩), (.ret, ⟨[(8, .c (.v .bool))], []⟩)]⟩ (.seq .nil .nil))
noncomputable def charset_Legal.cx (K : Nat) : Cx := ⟨tt, [(119, charset_letter.con K), (120, charset_line.con K), (65, strings_IndexByte.con K), (121, charset_point.con K)], [], K, inlOf tt [(119, charset_letter.con K), (120, charset_line.con K), (65, strings_IndexByte.con K), (121, charset_point.con K)] [] K (getBody []) 0⟩
theorem charset_Legal.eq (K : Nat) (x : PL charset_Legal.sig.ps) : evalF (charset_Legal.cx K) charset_Legal.sig (bodyOf Tryz.f90) charset_Legal.ht x = charset_Legal.f K x.1 x.2.1 x.2.2.1 x.2.2.2 := by kernel_rfl
theorem charset_Legal.fok (K : Nat) : FOK Tryz.prog charset_Legal.sig (fun x => charset_Legal.f K x.1 x.2.1 x.2.2.1 x.2.2.2) 90 := fok_of_eval (tt := tt) (cons := [(119, charset_letter.con K), (120, charset_line.con K), (65, strings_IndexByte.con K), (121, charset_point.con K)]) (exts := []) (bodies := (getBody [])) (K := K) (d := 0) ⟨ttok, (getCon_cons (charset_letter.ok K) (getCon_cons (charset_line.ok K) (getCon_cons (strings_IndexByte.ok K) (getCon_cons (charset_point.ok K) (fun _ _ => getCon_nil))))), (fun _ _ => getExt_nil), (fun _ _ => getBody_nil)⟩ draw bok90 (charset_Legal.eq K)
theorem charset_Legal.ok (K : Nat) : ConOK Tryz.prog 90 (charset_Legal.con K) := con_ok bok90 (charset_Legal.fok K)

noncomputable def charset_Bad.f (K : Nat) (proto0 : Int) (what1 : Int) (s2 : List UInt8) : Option Int :=
  ((loopN K (fun (s_ : Int) =>
    match s_ with
    | t236 =>
      bif decide (t236 < (s2.length : Int)) then
        (charset_Legal.f K proto0 what1 s2 t236).bind fun r237 =>
        bif !r237 then
          some (.inr (.inr t236))
        else some (.inl (IntKind.i64.wrap (t236 + 1)))
      else some (.inr (.inl ()))) 0 : Option (Unit ⊕ Int))).bind fun e_ =>
  match e_ with
  | .inl _ =>
    some (-1)
  | .inr t238 =>
    some t238
def charset_Bad.sig : Sig := ⟨[(.c (.int .i64)), (.c (.int .i64)), (.c .str)], [(.c (.int .i64))]⟩
noncomputable def charset_Bad.con (K : Nat) : Con := (mkCon charset_Bad.sig (fun x => charset_Bad.f K x.1 x.2.1 x.2.2))
noncomputable def charset_Bad.ht : HT := .seq .nil (.seq (.seq .nil (.block (.loop ⟨10, [6, 7], [], ⟨[(10, .c (.v (.int .i64)))], []⟩, [(.exit 0, ⟨[], []⟩), (.ret, ⟨[(6, .c (.v (.int .i64)))], []⟩)]⟩ .nil))) .nil)
noncomputable def charset_Bad.cx (K : Nat) : Cx := ⟨tt, [(90, charset_Legal.con K)], [], K, inlOf tt [(90, charset_Legal.con K)] [] K (getBody []) 0⟩
theorem charset_Bad.eq (K : Nat) (x : PL charset_Bad.sig.ps) : evalF (charset_Bad.cx K) charset_Bad.sig (bodyOf Tryz.f89) charset_Bad.ht x = charset_Bad.f K x.1 x.2.1 x.2.2 := by kernel_rfl
theorem charset_Bad.fok (K : Nat) : FOK Tryz.prog charset_Bad.sig (fun x => charset_Bad.f K x.1 x.2.1 x.2.2) 89 := fok_of_eval (tt := tt) (cons := [(90, charset_Legal.con K)]) (exts := []) (bodies := (getBody [])) (K := K) (d := 0) ⟨ttok, (getCon_cons (charset_Legal.ok K) (fun _ _ => getCon_nil)), (fun _ _ => getExt_nil), (fun _ _ => getBody_nil)⟩ draw bok89 (charset_Bad.eq K)
theorem charset_Bad.ok (K : Nat) : ConOK Tryz.prog 89 (charset_Bad.con K) := con_ok bok89 (charset_Bad.fok K)

noncomputable def charset_Is.f (K : Nat) (proto0 : Int) (what1 : Int) (s2 : List UInt8) : Option Bool :=
  bif !(s2 == ([] : List UInt8)) then
    bif decide ((s2.length : Int) ≤ 60) then
      (charset_Bad.f K proto0 what1 s2).bind fun r239 =>
      some (decide (r239 < 0))
    else some false
  else some false
def charset_Is.sig : Sig := ⟨[(.c (.int .i64)), (.c (.int .i64)), (.c .str)], [(.c .bool)]⟩
noncomputable def charset_Is.con (K : Nat) : Con := (mkCon charset_Is.sig (fun x => charset_Is.f K x.1 x.2.1 x.2.2))
noncomputable def charset_Is.ht : HT := .nil
noncomputable def charset_Is.cx (K : Nat) : Cx := ⟨tt, [(89, charset_Bad.con K)], [], K, inlOf tt [(89, charset_Bad.con K)] [] K (getBody []) 0⟩
theorem charset_Is.eq (K : Nat) (x : PL charset_Is.sig.ps) : evalF (charset_Is.cx K) charset_Is.sig (bodyOf Tryz.f60) charset_Is.ht x = charset_Is.f K x.1 x.2.1 x.2.2 := by kernel_rfl
theorem charset_Is.fok (K : Nat) : FOK Tryz.prog charset_Is.sig (fun x => charset_Is.f K x.1 x.2.1 x.2.2) 60 := fok_of_eval (tt := tt) (cons := [(89, charset_Bad.con K)]) (exts := []) (bodies := (getBody [])) (K := K) (d := 0) ⟨ttok, (getCon_cons (charset_Bad.ok K) (fun _ _ => getCon_nil)), (fun _ _ => getExt_nil), (fun _ _ => getBody_nil)⟩ draw bok60 (charset_Is.eq K)
theorem charset_Is.ok (K : Nat) : ConOK Tryz.prog 60 (charset_Is.con K) := con_ok bok60 (charset_Is.fok K)

noncomputable def stringslite_HasSuffix.f (K : Nat) (s0 : List UInt8) (suffix1 : List UInt8) : Option Bool :=
  bif decide ((s0.length : Int) ≥ (suffix1.length : Int)) then
    bif (decide (0 ≤ (IntKind.i64.wrap ((s0.length : Int) - (suffix1.length : Int))))) && (decide ((IntKind.i64.wrap ((s0.length : Int) - (suffix1.length : Int))) ≤ (s0.length : Int))) then
      some (((s0.take s0.length).drop ((IntKind.i64.wrap ((s0.length : Int) - (suffix1.length : Int))).toNat)) == suffix1)
    else none
  else some false
def stringslite_HasSuffix.sig : Sig := ⟨[(.c .str), (.c .str)], [(.c .bool)]⟩
noncomputable def stringslite_HasSuffix.con (K : Nat) : Con := (mkCon stringslite_HasSuffix.sig (fun x => stringslite_HasSuffix.f K x.1 x.2))
noncomputable def stringslite_HasSuffix.ht : HT := .nil
noncomputable def stringslite_HasSuffix.cx (K : Nat) : Cx := ⟨tt, [], [], K, inlOf tt [] [] K (getBody []) 0⟩
theorem stringslite_HasSuffix.eq (K : Nat) (x : PL stringslite_HasSuffix.sig.ps) : evalF (stringslite_HasSuffix.cx K) stringslite_HasSuffix.sig (bodyOf Tryz.f122) stringslite_HasSuffix.ht x = stringslite_HasSuffix.f K x.1 x.2 := by kernel_rfl
theorem stringslite_HasSuffix.fok (K : Nat) : FOK Tryz.prog stringslite_HasSuffix.sig (fun x => stringslite_HasSuffix.f K x.1 x.2) 122 := fok_of_eval (tt := tt) (cons := []) (exts := []) (bodies := (getBody [])) (K := K) (d := 0) ⟨ttok, (fun _ _ => getCon_nil), (fun _ _ => getExt_nil), (fun _ _ => getBody_nil)⟩ draw bok122 (stringslite_HasSuffix.eq K)
theorem stringslite_HasSuffix.ok (K : Nat) : ConOK Tryz.prog 122 (stringslite_HasSuffix.con K) := con_ok bok122 (stringslite_HasSuffix.fok K)

noncomputable def strings_HasSuffix.f (K : Nat) (s0 : List UInt8) (suffix1 : List UInt8) : Option Bool :=
  (stringslite_HasSuffix.f K s0 suffix1).bind fun r240 =>
  some r240
def strings_HasSuffix.sig : Sig := ⟨[(.c .str), (.c .str)], [(.c .bool)]⟩
noncomputable def strings_HasSuffix.con (K : Nat) : Con := (mkCon strings_HasSuffix.sig (fun x => strings_HasSuffix.f K x.1 x.2))
noncomputable def strings_HasSuffix.ht : HT := .nil
noncomputable def strings_HasSuffix.cx (K : Nat) : Cx := ⟨tt, [(122, stringslite_HasSuffix.con K)], [], K, inlOf tt [(122, stringslite_HasSuffix.con K)] [] K (getBody []) 0⟩
theorem strings_HasSuffix.eq (K : Nat) (x : PL strings_HasSuffix.sig.ps) : evalF (strings_HasSuffix.cx K) strings_HasSuffix.sig (bodyOf Tryz.f91) strings_HasSuffix.ht x = strings_HasSuffix.f K x.1 x.2 := by kernel_rfl
theorem strings_HasSuffix.fok (K : Nat) : FOK Tryz.prog strings_HasSuffix.sig (fun x => strings_HasSuffix.f K x.1 x.2) 91 := fok_of_eval (tt := tt) (cons := [(122, stringslite_HasSuffix.con K)]) (exts := []) (bodies := (getBody [])) (K := K) (d := 0) ⟨ttok, (getCon_cons (stringslite_HasSuffix.ok K) (fun _ _ => getCon_nil)), (fun _ _ => getExt_nil), (fun _ _ => getBody_nil)⟩ draw bok91 (strings_HasSuffix.eq K)
theorem strings_HasSuffix.ok (K : Nat) : ConOK Tryz.prog 91 (strings_HasSuffix.con K) := con_ok bok91 (strings_HasSuffix.fok K)

noncomputable def class_isUnit.f (K : Nat) (h0 : List UInt8 × Int × List UInt8 × List UInt8) : Option Bool :=
  ((loopN K (fun (s_ : Int) =>
    match s_ with
    | t245 =>
      bif decide (t245 < (h0.2.2.1.length : Int)) then
        bif decide (([95] : List UInt8).length + h0.2.2.1.length ≤ LIM) then
          (charset_Legal.f K 1 0 (([95] : List UInt8) ++ h0.2.2.1) (IntKind.i64.wrap (t245 + 1))).bind fun r246 =>
          bif !r246 then
            some (.inr (.inr false))
          else some (.inl (IntKind.i64.wrap (t245 + 1)))
        else none
      else some (.inr (.inl ()))) 0 : Option (Unit ⊕ Bool))).bind fun e_ =>
  match e_ with
  | .inl _ =>
    bif h0.2.2.1 == ([] : List UInt8) then some true
    else
    bif decide (([95] : List UInt8).length + h0.2.2.1.length ≤ LIM) then
      (strings_HasSuffix.f K h0.1 (([95] : List UInt8) ++ h0.2.2.1)).bind fun r247 =>
      some r247
    else none
  | .inr t248 =>
    some t248
def class_isUnit.sig : Sig := ⟨[(.agg (.pair .str (.pair (.int .i64) (.pair .str .str))))], [(.c .bool)]⟩
noncomputable def class_isUnit.con (K : Nat) : Con := (mkCon class_isUnit.sig (fun x => class_isUnit.f K x))
noncomputable def class_isUnit.ht : HT := .seq .nil (.seq (.seq .nil (.block (.loop ⟨7, [2, 3], [], ⟨[(7, .c (.v (.int .i64)))], []⟩, [(.exit 0, ⟨[], []⟩), (.ret, ⟨[(2, .c (.v .bool))], []⟩)]⟩ .nil))) .nil)
noncomputable def class_isUnit.cx (K : Nat) : Cx := ⟨tt, [(90, charset_Legal.con K), (91, strings_HasSuffix.con K)], [], K, inlOf tt [(90, charset_Legal.con K), (91, strings_HasSuffix.con K)] [] K (getBody []) 0⟩
theorem class_isUnit.eq (K : Nat) (x : PL class_isUnit.sig.ps) : evalF (class_isUnit.cx K) class_isUnit.sig (bodyOf Tryz.f61) class_isUnit.ht x = class_isUnit.f K x := by kernel_rfl
theorem class_isUnit.fok (K : Nat) : FOK Tryz.prog class_isUnit.sig (fun x => class_isUnit.f K x) 61 := fok_of_eval (tt := tt) (cons := [(90, charset_Legal.con K), (91, strings_HasSuffix.con K)]) (exts := []) (bodies := (getBody [])) (K := K) (d := 0) ⟨ttok, (getCon_cons (charset_Legal.ok K) (getCon_cons (strings_HasSuffix.ok K) (fun _ _ => getCon_nil))), (fun _ _ => getExt_nil), (fun _ _ => getBody_nil)⟩ draw bok61 (class_isUnit.eq K)
theorem class_isUnit.ok (K : Nat) : ConOK Tryz.prog 61 (class_isUnit.con K) := con_ok bok61 (class_isUnit.fok K)

end Go.Proofs.YtekeaempemiciaaGreatDoor
