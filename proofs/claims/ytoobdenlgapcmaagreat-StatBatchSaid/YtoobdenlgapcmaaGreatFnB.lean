/- What each function of the program comes to, and that it does, part 2. -/
import Derived.Test.YtoobdenlgapcmaaGreatFnA
import Derived.KernelRfl
set_option linter.unusedVariables false
namespace Go.Proofs.YtoobdenlgapcmaaGreat
open Go Go.Rf Go.Proofs Go.RowKit

noncomputable def label_Compare_1.f (K : Nat) (x0 : List UInt8 × List UInt8) (y1 : List UInt8 × List UInt8) : Option Int :=
  (strings_Compare.f K x0.1 y1.1).bind fun r145 =>
  (strings_Compare.f K x0.2 y1.2).bind fun r146 =>
  (cmp_Or_int.f K ([r145, r146] : List Int)).bind fun r147 =>
  some r147
def label_Compare_1.sig : Sig := ⟨[(.agg (.pair .str .str)), (.agg (.pair .str .str))], [(.c (.int .i64))]⟩
noncomputable def label_Compare_1.con (K : Nat) : Con := (mkCon label_Compare_1.sig (fun x => label_Compare_1.f K x.1 x.2))
noncomputable def label_Compare_1.ht : HT := .nil
noncomputable def label_Compare_1.cx (K : Nat) : Cx := ⟨tt, [(125, strings_Compare.con K), (112, cmp_Or_int.con K)], [], K, inlOf tt [(125, strings_Compare.con K), (112, cmp_Or_int.con K)] [] K (getBody []) 0⟩
theorem label_Compare_1.eq (K : Nat) (x : PL label_Compare_1.sig.ps) : evalF (label_Compare_1.cx K) label_Compare_1.sig (bodyOf Tryz.f124) label_Compare_1.ht x = label_Compare_1.f K x.1 x.2 := by kernel_rfl
theorem label_Compare_1.fok (K : Nat) : FOK Tryz.prog label_Compare_1.sig (fun x => label_Compare_1.f K x.1 x.2) 124 := fok_of_eval (tt := tt) (cons := [(125, strings_Compare.con K), (112, cmp_Or_int.con K)]) (exts := []) (bodies := (getBody [])) (K := K) (d := 0) ⟨ttok, (getCon_cons (strings_Compare.ok K) (getCon_cons (cmp_Or_int.ok K) (fun _ _ => getCon_nil))), (fun _ _ => getExt_nil), (fun _ _ => getBody_nil)⟩ draw bok124 (label_Compare_1.eq K)
theorem label_Compare_1.ok (K : Nat) : ConOK Tryz.prog 124 (label_Compare_1.con K) := con_ok bok124 (label_Compare_1.fok K)

noncomputable def label_Compare.f (K : Nat) (a0 : List (List UInt8 × List UInt8)) (b1 : List (List UInt8 × List UInt8)) : Option Int :=
  ((loopN K (fun (s_ : Int) =>
    match s_ with
    | t151 =>
      bif decide (t151 < (a0.length : Int)) then
        bif idx t151 a0.length then
          bif decide (t151 ≥ (b1.length : Int)) then some (.inr (.inr 1))
          else
          bif idx t151 b1.length then
            (label_Compare_1.f K (a0.getD t151.toNat (([] : List UInt8), ([] : List UInt8))) (b1.getD t151.toNat (([] : List UInt8), ([] : List UInt8)))).bind fun r152 =>
            bif r152 != 0 then
              some (.inr (.inr r152))
            else some (.inl (IntKind.i64.wrap (t151 + 1)))
          else none
        else none
      else some (.inr (.inl ()))) 0 : Option (Unit ⊕ Int))).bind fun e_ =>
  match e_ with
  | .inl _ =>
    bif decide ((a0.length : Int) < (b1.length : Int)) then
      some (-1)
    else some 0
  | .inr t153 =>
    some t153
def label_Compare.sig : Sig := ⟨[(.c (.sl (.pair .str .str))), (.c (.sl (.pair .str .str)))], [(.c (.int .i64))]⟩
noncomputable def label_Compare.con (K : Nat) : Con := (mkCon label_Compare.sig (fun x => label_Compare.f K x.1 x.2))
noncomputable def label_Compare.ht : HT := .seq .nil (.seq (.calls [(2, .seq .nil (.seq (.seq .nil (.block (.loop ⟨13, [6, 7, 8, 9, 10], [], ⟨[(13, .c (.v (.int .i64)))], []⟩, [(.exit 0, ⟨[], []⟩), (.ret, ⟨[(6, .c (.v (.int .i64)))], []⟩)]⟩ .nil))) .nil))]) .nil)
noncomputable def label_Compare.cx (K : Nat) : Cx := ⟨tt, [(124, label_Compare_1.con K)], [], K, inlOf tt [(124, label_Compare_1.con K)] [] K (getBody [(123, bodyOf Tryz.f123)]) 1⟩
theorem label_Compare.eq (K : Nat) (x : PL label_Compare.sig.ps) : evalF (label_Compare.cx K) label_Compare.sig (bodyOf Tryz.f113) label_Compare.ht x = label_Compare.f K x.1 x.2 := by kernel_rfl
theorem label_Compare.fok (K : Nat) : FOK Tryz.prog label_Compare.sig (fun x => label_Compare.f K x.1 x.2) 113 := fok_of_eval (tt := tt) (cons := [(124, label_Compare_1.con K)]) (exts := []) (bodies := (getBody [(123, bodyOf Tryz.f123)])) (K := K) (d := 1) ⟨ttok, (getCon_cons (label_Compare_1.ok K) (fun _ _ => getCon_nil)), (fun _ _ => getExt_nil), (getBody_cons (gbody_mk bok123 rfl) (fun _ _ => getBody_nil))⟩ draw bok113 (label_Compare.eq K)
theorem label_Compare.ok (K : Nat) : ConOK Tryz.prog 113 (label_Compare.con K) := con_ok bok113 (label_Compare.fok K)

noncomputable def point_bools.f (K : Nat) (a0 : Bool) (b1 : Bool) : Option Int :=
  bif a0 == b1 then some 0
  else
  bif b1 then
    some (-1)
  else some 1
def point_bools.sig : Sig := ⟨[(.c .bool), (.c .bool)], [(.c (.int .i64))]⟩
noncomputable def point_bools.con (K : Nat) : Con := (mkCon point_bools.sig (fun x => point_bools.f K x.1 x.2))
noncomputable def point_bools.ht : HT := .nil
noncomputable def point_bools.cx (K : Nat) : Cx := ⟨tt, [], [], K, inlOf tt [] [] K (getBody []) 0⟩
theorem point_bools.eq (K : Nat) (x : PL point_bools.sig.ps) : evalF (point_bools.cx K) point_bools.sig (bodyOf Tryz.f114) point_bools.ht x = point_bools.f K x.1 x.2 := by kernel_rfl
theorem point_bools.fok (K : Nat) : FOK Tryz.prog point_bools.sig (fun x => point_bools.f K x.1 x.2) 114 := fok_of_eval (tt := tt) (cons := []) (exts := []) (bodies := (getBody [])) (K := K) (d := 0) ⟨ttok, (fun _ _ => getCon_nil), (fun _ _ => getExt_nil), (fun _ _ => getBody_nil)⟩ draw bok114 (point_bools.eq K)
theorem point_bools.ok (K : Nat) : ConOK Tryz.prog 114 (point_bools.con K) := con_ok bok114 (point_bools.fok K)

noncomputable def cmp_isNaN_int64.f (K : Nat) (x0 : Int) : Option Bool :=
  some (x0 != x0)
def cmp_isNaN_int64.sig : Sig := ⟨[(.c (.int .i64))], [(.c .bool)]⟩
noncomputable def cmp_isNaN_int64.con (K : Nat) : Con := (mkCon cmp_isNaN_int64.sig (fun x => cmp_isNaN_int64.f K x))
noncomputable def cmp_isNaN_int64.ht : HT := .nil
noncomputable def cmp_isNaN_int64.cx (K : Nat) : Cx := ⟨tt, [], [], K, inlOf tt [] [] K (getBody []) 0⟩
theorem cmp_isNaN_int64.eq (K : Nat) (x : PL cmp_isNaN_int64.sig.ps) : evalF (cmp_isNaN_int64.cx K) cmp_isNaN_int64.sig (bodyOf Tryz.f126) cmp_isNaN_int64.ht x = cmp_isNaN_int64.f K x := by kernel_rfl
theorem cmp_isNaN_int64.fok (K : Nat) : FOK Tryz.prog cmp_isNaN_int64.sig (fun x => cmp_isNaN_int64.f K x) 126 := fok_of_eval (tt := tt) (cons := []) (exts := []) (bodies := (getBody [])) (K := K) (d := 0) ⟨ttok, (fun _ _ => getCon_nil), (fun _ _ => getExt_nil), (fun _ _ => getBody_nil)⟩ draw bok126 (cmp_isNaN_int64.eq K)
theorem cmp_isNaN_int64.ok (K : Nat) : ConOK Tryz.prog 126 (cmp_isNaN_int64.con K) := con_ok bok126 (cmp_isNaN_int64.fok K)

noncomputable def cmp_Compare_int64.f (K : Nat) (x0 : Int) (y1 : Int) : Option Int :=
  (cmp_isNaN_int64.f K x0).bind fun r154 =>
  (cmp_isNaN_int64.f K y1).bind fun r155 =>
  bif r154 then
    bif r155 then
      some 0
    else some (-1)
  else
  bif r155 then some 1
  else
  bif decide (x0 < y1) then some (-1)
  else
  bif decide (x0 > y1) then
    some 1
  else some 0
def cmp_Compare_int64.sig : Sig := ⟨[(.c (.int .i64)), (.c (.int .i64))], [(.c (.int .i64))]⟩
noncomputable def cmp_Compare_int64.con (K : Nat) : Con := (mkCon cmp_Compare_int64.sig (fun x => cmp_Compare_int64.f K x.1 x.2))
noncomputable def cmp_Compare_int64.ht : HT := .nil
noncomputable def cmp_Compare_int64.cx (K : Nat) : Cx := ⟨tt, [(126, cmp_isNaN_int64.con K)], [], K, inlOf tt [(126, cmp_isNaN_int64.con K)] [] K (getBody []) 0⟩
theorem cmp_Compare_int64.eq (K : Nat) (x : PL cmp_Compare_int64.sig.ps) : evalF (cmp_Compare_int64.cx K) cmp_Compare_int64.sig (bodyOf Tryz.f115) cmp_Compare_int64.ht x = cmp_Compare_int64.f K x.1 x.2 := by kernel_rfl
theorem cmp_Compare_int64.fok (K : Nat) : FOK Tryz.prog cmp_Compare_int64.sig (fun x => cmp_Compare_int64.f K x.1 x.2) 115 := fok_of_eval (tt := tt) (cons := [(126, cmp_isNaN_int64.con K)]) (exts := []) (bodies := (getBody [])) (K := K) (d := 0) ⟨ttok, (getCon_cons (cmp_isNaN_int64.ok K) (fun _ _ => getCon_nil)), (fun _ _ => getExt_nil), (fun _ _ => getBody_nil)⟩ draw bok115 (cmp_Compare_int64.eq K)
theorem cmp_Compare_int64.ok (K : Nat) : ConOK Tryz.prog 115 (cmp_Compare_int64.con K) := con_ok bok115 (cmp_Compare_int64.fok K)

noncomputable def cmp_isNaN_int.f (K : Nat) (x0 : Int) : Option Bool :=
  some (x0 != x0)
def cmp_isNaN_int.sig : Sig := ⟨[(.c (.int .i64))], [(.c .bool)]⟩
noncomputable def cmp_isNaN_int.con (K : Nat) : Con := (mkCon cmp_isNaN_int.sig (fun x => cmp_isNaN_int.f K x))
noncomputable def cmp_isNaN_int.ht : HT := .nil
noncomputable def cmp_isNaN_int.cx (K : Nat) : Cx := ⟨tt, [], [], K, inlOf tt [] [] K (getBody []) 0⟩
theorem cmp_isNaN_int.eq (K : Nat) (x : PL cmp_isNaN_int.sig.ps) : evalF (cmp_isNaN_int.cx K) cmp_isNaN_int.sig (bodyOf Tryz.f127) cmp_isNaN_int.ht x = cmp_isNaN_int.f K x := by kernel_rfl
theorem cmp_isNaN_int.fok (K : Nat) : FOK Tryz.prog cmp_isNaN_int.sig (fun x => cmp_isNaN_int.f K x) 127 := fok_of_eval (tt := tt) (cons := []) (exts := []) (bodies := (getBody [])) (K := K) (d := 0) ⟨ttok, (fun _ _ => getCon_nil), (fun _ _ => getExt_nil), (fun _ _ => getBody_nil)⟩ draw bok127 (cmp_isNaN_int.eq K)
theorem cmp_isNaN_int.ok (K : Nat) : ConOK Tryz.prog 127 (cmp_isNaN_int.con K) := con_ok bok127 (cmp_isNaN_int.fok K)

noncomputable def cmp_Compare_int.f (K : Nat) (x0 : Int) (y1 : Int) : Option Int :=
  (cmp_isNaN_int.f K x0).bind fun r156 =>
  (cmp_isNaN_int.f K y1).bind fun r157 =>
  bif r156 then
    bif r157 then
      some 0
    else some (-1)
  else
  bif r157 then some 1
  else
  bif decide (x0 < y1) then some (-1)
  else
  bif decide (x0 > y1) then
    some 1
  else some 0
def cmp_Compare_int.sig : Sig := ⟨[(.c (.int .i64)), (.c (.int .i64))], [(.c (.int .i64))]⟩
noncomputable def cmp_Compare_int.con (K : Nat) : Con := (mkCon cmp_Compare_int.sig (fun x => cmp_Compare_int.f K x.1 x.2))
noncomputable def cmp_Compare_int.ht : HT := .nil
noncomputable def cmp_Compare_int.cx (K : Nat) : Cx := ⟨tt, [(127, cmp_isNaN_int.con K)], [], K, inlOf tt [(127, cmp_isNaN_int.con K)] [] K (getBody []) 0⟩
theorem cmp_Compare_int.eq (K : Nat) (x : PL cmp_Compare_int.sig.ps) : evalF (cmp_Compare_int.cx K) cmp_Compare_int.sig (bodyOf Tryz.f116) cmp_Compare_int.ht x = cmp_Compare_int.f K x.1 x.2 := by kernel_rfl
theorem cmp_Compare_int.fok (K : Nat) : FOK Tryz.prog cmp_Compare_int.sig (fun x => cmp_Compare_int.f K x.1 x.2) 116 := fok_of_eval (tt := tt) (cons := [(127, cmp_isNaN_int.con K)]) (exts := []) (bodies := (getBody [])) (K := K) (d := 0) ⟨ttok, (getCon_cons (cmp_isNaN_int.ok K) (fun _ _ => getCon_nil)), (fun _ _ => getExt_nil), (fun _ _ => getBody_nil)⟩ draw bok116 (cmp_Compare_int.eq K)
theorem cmp_Compare_int.ok (K : Nat) : ConOK Tryz.prog 116 (cmp_Compare_int.con K) := con_ok bok116 (cmp_Compare_int.fok K)

noncomputable def point_Compare.f (K : Nat) (p0 : List (List UInt8 × List UInt8) × Int × Bool × Int × Int × Int × Int × Bool × Int) (q1 : List (List UInt8 × List UInt8) × Int × Bool × Int × Int × Int × Int × Bool × Int) : Option Int :=
  (label_Compare.f K p0.1 q1.1).bind fun r158 =>
  (point_bools.f K p0.2.2.2.2.2.2.2.1 q1.2.2.2.2.2.2.2.1).bind fun r159 =>
  (cmp_Compare_int64.f K p0.2.2.2.2.2.2.2.2 q1.2.2.2.2.2.2.2.2).bind fun r160 =>
  (cmp_Compare_int.f K p0.2.1 q1.2.1).bind fun r161 =>
  (point_bools.f K p0.2.2.1 q1.2.2.1).bind fun r162 =>
  (sum_Compare.f K (p0.2.2.2.1, p0.2.2.2.2.1) (q1.2.2.2.1, q1.2.2.2.2.1)).bind fun r163 =>
  (cmp_Or_int.f K ([r158, r159, r160, r161, r162, r163] : List Int)).bind fun r164 =>
  some r164
def point_Compare.sig : Sig := ⟨[(.agg (.pair (.sl (.pair .str .str)) (.pair (.int .i64) (.pair .bool (.pair (.int .i64) (.pair (.int .i64) (.pair (.int .i64) (.pair (.int .i64) (.pair .bool (.int .i64)))))))))), (.agg (.pair (.sl (.pair .str .str)) (.pair (.int .i64) (.pair .bool (.pair (.int .i64) (.pair (.int .i64) (.pair (.int .i64) (.pair (.int .i64) (.pair .bool (.int .i64))))))))))], [(.c (.int .i64))]⟩
noncomputable def point_Compare.con (K : Nat) : Con := (mkCon point_Compare.sig (fun x => point_Compare.f K x.1 x.2))
noncomputable def point_Compare.ht : HT := .nil
noncomputable def point_Compare.cx (K : Nat) : Cx := ⟨tt, [(113, label_Compare.con K), (114, point_bools.con K), (115, cmp_Compare_int64.con K), (116, cmp_Compare_int.con K), (35, sum_Compare.con K), (112, cmp_Or_int.con K)], [], K, inlOf tt [(113, label_Compare.con K), (114, point_bools.con K), (115, cmp_Compare_int64.con K), (116, cmp_Compare_int.con K), (35, sum_Compare.con K), (112, cmp_Or_int.con K)] [] K (getBody []) 0⟩
theorem point_Compare.eq (K : Nat) (x : PL point_Compare.sig.ps) : evalF (point_Compare.cx K) point_Compare.sig (bodyOf Tryz.f99) point_Compare.ht x = point_Compare.f K x.1 x.2 := by kernel_rfl
theorem point_Compare.fok (K : Nat) : FOK Tryz.prog point_Compare.sig (fun x => point_Compare.f K x.1 x.2) 99 := fok_of_eval (tt := tt) (cons := [(113, label_Compare.con K), (114, point_bools.con K), (115, cmp_Compare_int64.con K), (116, cmp_Compare_int.con K), (35, sum_Compare.con K), (112, cmp_Or_int.con K)]) (exts := []) (bodies := (getBody [])) (K := K) (d := 0) ⟨ttok, (getCon_cons (label_Compare.ok K) (getCon_cons (point_bools.ok K) (getCon_cons (cmp_Compare_int64.ok K) (getCon_cons (cmp_Compare_int.ok K) (getCon_cons (sum_Compare.ok K) (getCon_cons (cmp_Or_int.ok K) (fun _ _ => getCon_nil))))))), (fun _ _ => getExt_nil), (fun _ _ => getBody_nil)⟩ draw bok99 (point_Compare.eq K)
theorem point_Compare.ok (K : Nat) : ConOK Tryz.prog 99 (point_Compare.con K) := con_ok bok99 (point_Compare.fok K)

noncomputable def family_rises.f (K : Nat) (l0 : List (List (List UInt8 × List UInt8) × Int × Bool × Int × Int × Int × Int × Bool × Int)) : Option Bool :=
  ((loopN K (fun (s_ : Int) =>
    match s_ with
    | i169 =>
      bif decide (i169 < (l0.length : Int)) then
        bif idx (IntKind.i64.wrap (i169 - 1)) l0.length then
          bif idx i169 l0.length then
            (point_Compare.f K ((l0.getD ((IntKind.i64.wrap (i169 - 1)).toNat) (([] : List (List UInt8 × List UInt8)), ((0 : Int), (false, ((0 : Int), ((0 : Int), ((0 : Int), ((0 : Int), (false, (0 : Int)))))))))).1, ((l0.getD ((IntKind.i64.wrap (i169 - 1)).toNat) (([] : List (List UInt8 × List UInt8)), ((0 : Int), (false, ((0 : Int), ((0 : Int), ((0 : Int), ((0 : Int), (false, (0 : Int)))))))))).2).1, (((l0.getD ((IntKind.i64.wrap (i169 - 1)).toNat) (([] : List (List UInt8 × List UInt8)), ((0 : Int), (false, ((0 : Int), ((0 : Int), ((0 : Int), ((0 : Int), (false, (0 : Int)))))))))).2).2).1, ((((l0.getD ((IntKind.i64.wrap (i169 - 1)).toNat) (([] : List (List UInt8 × List UInt8)), ((0 : Int), (false, ((0 : Int), ((0 : Int), ((0 : Int), ((0 : Int), (false, (0 : Int)))))))))).2).2).2).1, (((((l0.getD ((IntKind.i64.wrap (i169 - 1)).toNat) (([] : List (List UInt8 × List UInt8)), ((0 : Int), (false, ((0 : Int), ((0 : Int), ((0 : Int), ((0 : Int), (false, (0 : Int)))))))))).2).2).2).2).1, ((((((l0.getD ((IntKind.i64.wrap (i169 - 1)).toNat) (([] : List (List UInt8 × List UInt8)), ((0 : Int), (false, ((0 : Int), ((0 : Int), ((0 : Int), ((0 : Int), (false, (0 : Int)))))))))).2).2).2).2).2).1, (((((((l0.getD ((IntKind.i64.wrap (i169 - 1)).toNat) (([] : List (List UInt8 × List UInt8)), ((0 : Int), (false, ((0 : Int), ((0 : Int), ((0 : Int), ((0 : Int), (false, (0 : Int)))))))))).2).2).2).2).2).2).1, ((((((((l0.getD ((IntKind.i64.wrap (i169 - 1)).toNat) (([] : List (List UInt8 × List UInt8)), ((0 : Int), (false, ((0 : Int), ((0 : Int), ((0 : Int), ((0 : Int), (false, (0 : Int)))))))))).2).2).2).2).2).2).2).1, ((((((((l0.getD ((IntKind.i64.wrap (i169 - 1)).toNat) (([] : List (List UInt8 × List UInt8)), ((0 : Int), (false, ((0 : Int), ((0 : Int), ((0 : Int), ((0 : Int), (false, (0 : Int)))))))))).2).2).2).2).2).2).2).2) ((l0.getD i169.toNat (([] : List (List UInt8 × List UInt8)), ((0 : Int), (false, ((0 : Int), ((0 : Int), ((0 : Int), ((0 : Int), (false, (0 : Int)))))))))).1, ((l0.getD i169.toNat (([] : List (List UInt8 × List UInt8)), ((0 : Int), (false, ((0 : Int), ((0 : Int), ((0 : Int), ((0 : Int), (false, (0 : Int)))))))))).2).1, (((l0.getD i169.toNat (([] : List (List UInt8 × List UInt8)), ((0 : Int), (false, ((0 : Int), ((0 : Int), ((0 : Int), ((0 : Int), (false, (0 : Int)))))))))).2).2).1, ((((l0.getD i169.toNat (([] : List (List UInt8 × List UInt8)), ((0 : Int), (false, ((0 : Int), ((0 : Int), ((0 : Int), ((0 : Int), (false, (0 : Int)))))))))).2).2).2).1, (((((l0.getD i169.toNat (([] : List (List UInt8 × List UInt8)), ((0 : Int), (false, ((0 : Int), ((0 : Int), ((0 : Int), ((0 : Int), (false, (0 : Int)))))))))).2).2).2).2).1, ((((((l0.getD i169.toNat (([] : List (List UInt8 × List UInt8)), ((0 : Int), (false, ((0 : Int), ((0 : Int), ((0 : Int), ((0 : Int), (false, (0 : Int)))))))))).2).2).2).2).2).1, (((((((l0.getD i169.toNat (([] : List (List UInt8 × List UInt8)), ((0 : Int), (false, ((0 : Int), ((0 : Int), ((0 : Int), ((0 : Int), (false, (0 : Int)))))))))).2).2).2).2).2).2).1, ((((((((l0.getD i169.toNat (([] : List (List UInt8 × List UInt8)), ((0 : Int), (false, ((0 : Int), ((0 : Int), ((0 : Int), ((0 : Int), (false, (0 : Int)))))))))).2).2).2).2).2).2).2).1, ((((((((l0.getD i169.toNat (([] : List (List UInt8 × List UInt8)), ((0 : Int), (false, ((0 : Int), ((0 : Int), ((0 : Int), ((0 : Int), (false, (0 : Int)))))))))).2).2).2).2).2).2).2).2)).bind fun r170 =>
            bif decide (r170 ≥ 0) then
              some (.inr (.inr false))
            else some (.inl (IntKind.i64.wrap (i169 + 1)))
          else none
        else none
      else some (.inr (.inl ()))) 1 : Option (Unit ⊕ Bool))).bind fun e_ =>
  match e_ with
  | .inl _ =>
    some true
  | .inr t171 =>
    some t171
def family_rises.sig : Sig := ⟨[(.c (.sl (.pair (.sl (.pair .str .str)) (.pair (.int .i64) (.pair .bool (.pair (.int .i64) (.pair (.int .i64) (.pair (.int .i64) (.pair (.int .i64) (.pair .bool (.int .i64)))))))))))], [(.c .bool)]⟩
noncomputable def family_rises.con (K : Nat) : Con := (mkCon family_rises.sig (fun x => family_rises.f K x))
noncomputable def family_rises.ht : HT := .seq .nil (.seq (.seq .nil (.block (.loop ⟨1, [], [], ⟨[(3, .c (.v (.int .i64)))], []⟩, [(.exit 0, ⟨[], []⟩), (.ret, ⟨[(2, .c (.v .bool))], []⟩)]⟩ .nil))) .nil)
noncomputable def family_rises.cx (K : Nat) : Cx := ⟨tt, [(99, point_Compare.con K)], [], K, inlOf tt [(99, point_Compare.con K)] [] K (getBody []) 0⟩
theorem family_rises.eq (K : Nat) (x : PL family_rises.sig.ps) : evalF (family_rises.cx K) family_rises.sig (bodyOf Tryz.f75) family_rises.ht x = family_rises.f K x := by kernel_rfl
theorem family_rises.fok (K : Nat) : FOK Tryz.prog family_rises.sig (fun x => family_rises.f K x) 75 := fok_of_eval (tt := tt) (cons := [(99, point_Compare.con K)]) (exts := []) (bodies := (getBody [])) (K := K) (d := 0) ⟨ttok, (getCon_cons (point_Compare.ok K) (fun _ _ => getCon_nil)), (fun _ _ => getExt_nil), (fun _ _ => getBody_nil)⟩ draw bok75 (family_rises.eq K)
theorem family_rises.ok (K : Nat) : ConOK Tryz.prog 75 (family_rises.con K) := con_ok bok75 (family_rises.fok K)

noncomputable def family_Good.f (K : Nat) (f0 : List UInt8 × Int × List UInt8 × List UInt8 × List (List (List UInt8 × List UInt8) × Int × Bool × Int × Int × Int × Int × Bool × Int)) : Option Bool :=
  (((
      (label_Name.f K f0.1).bind fun r173 =>
      bif !r173 then some true
      else
      (family_Typed.f K f0.2.1).bind fun r174 =>
      bif r174 == ([] : List UInt8) then some true
      else
      (label_Value.f K f0.2.2.1).bind fun r175 =>
      bif !r175 then some true
      else
      (label_Value.f K f0.2.2.2.1).bind fun r176 =>
      some (!r176)) : Option Bool)).bind fun t177 =>
  bif t177 then some false
  else
  ((loopN K (fun (s_ : Int) =>
    match s_ with
    | t182 =>
      bif decide (t182 < (f0.2.2.2.2.length : Int)) then
        bif idx t182 f0.2.2.2.2.length then
          (point_Good.f K f0.2.1 ((f0.2.2.2.2.getD t182.toNat (([] : List (List UInt8 × List UInt8)), ((0 : Int), (false, ((0 : Int), ((0 : Int), ((0 : Int), ((0 : Int), (false, (0 : Int)))))))))).1, ((f0.2.2.2.2.getD t182.toNat (([] : List (List UInt8 × List UInt8)), ((0 : Int), (false, ((0 : Int), ((0 : Int), ((0 : Int), ((0 : Int), (false, (0 : Int)))))))))).2).1, (((f0.2.2.2.2.getD t182.toNat (([] : List (List UInt8 × List UInt8)), ((0 : Int), (false, ((0 : Int), ((0 : Int), ((0 : Int), ((0 : Int), (false, (0 : Int)))))))))).2).2).1, ((((f0.2.2.2.2.getD t182.toNat (([] : List (List UInt8 × List UInt8)), ((0 : Int), (false, ((0 : Int), ((0 : Int), ((0 : Int), ((0 : Int), (false, (0 : Int)))))))))).2).2).2).1, (((((f0.2.2.2.2.getD t182.toNat (([] : List (List UInt8 × List UInt8)), ((0 : Int), (false, ((0 : Int), ((0 : Int), ((0 : Int), ((0 : Int), (false, (0 : Int)))))))))).2).2).2).2).1, ((((((f0.2.2.2.2.getD t182.toNat (([] : List (List UInt8 × List UInt8)), ((0 : Int), (false, ((0 : Int), ((0 : Int), ((0 : Int), ((0 : Int), (false, (0 : Int)))))))))).2).2).2).2).2).1, (((((((f0.2.2.2.2.getD t182.toNat (([] : List (List UInt8 × List UInt8)), ((0 : Int), (false, ((0 : Int), ((0 : Int), ((0 : Int), ((0 : Int), (false, (0 : Int)))))))))).2).2).2).2).2).2).1, ((((((((f0.2.2.2.2.getD t182.toNat (([] : List (List UInt8 × List UInt8)), ((0 : Int), (false, ((0 : Int), ((0 : Int), ((0 : Int), ((0 : Int), (false, (0 : Int)))))))))).2).2).2).2).2).2).2).1, ((((((((f0.2.2.2.2.getD t182.toNat (([] : List (List UInt8 × List UInt8)), ((0 : Int), (false, ((0 : Int), ((0 : Int), ((0 : Int), ((0 : Int), (false, (0 : Int)))))))))).2).2).2).2).2).2).2).2)).bind fun r183 =>
          bif !r183 then
            some (.inr (.inr t182))
          else some (.inl (IntKind.i64.wrap (t182 + 1)))
        else none
      else some (.inr (.inl ()))) 0 : Option (Unit ⊕ Int))).bind fun e_ =>
  match e_ with
  | .inl _ =>
    (family_rises.f K f0.2.2.2.2).bind fun r184 =>
    some r184
  | .inr t185 =>
    bif !(decide (t185 ≥ 0)) then
      (family_rises.f K f0.2.2.2.2).bind fun r186 =>
      some r186
    else some false
def family_Good.sig : Sig := ⟨[(.agg (.pair .str (.pair (.int .i64) (.pair .str (.pair .str (.sl (.pair (.sl (.pair .str .str)) (.pair (.int .i64) (.pair .bool (.pair (.int .i64) (.pair (.int .i64) (.pair (.int .i64) (.pair (.int .i64) (.pair .bool (.int .i64)))))))))))))))], [(.c .bool)]⟩
noncomputable def family_Good.con (K : Nat) : Con := (mkCon family_Good.sig (fun x => family_Good.f K x))
noncomputable def family_Good.ht : HT := .seq .nil (.seq (.join ⟨3, [], [], ⟨[], []⟩, [(.normal, ⟨[(29, .c (.v .bool))], []⟩)]⟩ (.seq .nil .nil)) (.seq .nil (.seq (.calls [(3, .seq .nil (.seq (.calls [(2, .seq .nil (.seq (.seq .nil (.block (.loop ⟨8, [4, 5], [], ⟨[(8, .c (.v (.int .i64)))], []⟩, [(.exit 0, ⟨[], []⟩), (.ret, ⟨[(4, .c (.v (.int .i64)))], []⟩)]⟩ .nil))) .nil))]) .nil))]) .nil)))
noncomputable def family_Good.cx (K : Nat) : Cx := ⟨tt, [(59, label_Name.con K), (72, family_Typed.con K), (56, label_Value.con K), (74, point_Good.con K), (75, family_rises.con K)], [], K, inlOf tt [(59, label_Name.con K), (72, family_Typed.con K), (56, label_Value.con K), (74, point_Good.con K), (75, family_rises.con K)] [] K (getBody [(52, bodyOf Tryz.f52), (73, bodyOf Tryz.f73), (79, bodyOf Tryz.f79)]) 3⟩
theorem family_Good.eq (K : Nat) (x : PL family_Good.sig.ps) : evalF (family_Good.cx K) family_Good.sig (bodyOf Tryz.f44) family_Good.ht x = family_Good.f K x := by kernel_rfl
theorem family_Good.fok (K : Nat) : FOK Tryz.prog family_Good.sig (fun x => family_Good.f K x) 44 := fok_of_eval (tt := tt) (cons := [(59, label_Name.con K), (72, family_Typed.con K), (56, label_Value.con K), (74, point_Good.con K), (75, family_rises.con K)]) (exts := []) (bodies := (getBody [(52, bodyOf Tryz.f52), (73, bodyOf Tryz.f73), (79, bodyOf Tryz.f79)])) (K := K) (d := 3) ⟨ttok, (getCon_cons (label_Name.ok K) (getCon_cons (family_Typed.ok K) (getCon_cons (label_Value.ok K) (getCon_cons (point_Good.ok K) (getCon_cons (family_rises.ok K) (fun _ _ => getCon_nil)))))), (fun _ _ => getExt_nil), (getBody_cons (gbody_mk bok52 rfl) (getBody_cons (gbody_mk bok73 rfl) (getBody_cons (gbody_mk bok79 rfl) (fun _ _ => getBody_nil))))⟩ draw bok44 (family_Good.eq K)
theorem family_Good.ok (K : Nat) : ConOK Tryz.prog 44 (family_Good.con K) := con_ok bok44 (family_Good.fok K)

noncomputable def batch_Check_1.f (K : Nat) (f0 : List UInt8 × Int × List UInt8 × List UInt8 × List (List (List UInt8 × List UInt8) × Int × Bool × Int × Int × Int × Int × Bool × Int)) : Option Bool :=
  (family_Good.f K f0).bind fun r187 =>
  some (!r187)
def batch_Check_1.sig : Sig := ⟨[(.agg (.pair .str (.pair (.int .i64) (.pair .str (.pair .str (.sl (.pair (.sl (.pair .str .str)) (.pair (.int .i64) (.pair .bool (.pair (.int .i64) (.pair (.int .i64) (.pair (.int .i64) (.pair (.int .i64) (.pair .bool (.int .i64)))))))))))))))], [(.c .bool)]⟩
noncomputable def batch_Check_1.con (K : Nat) : Con := (mkCon batch_Check_1.sig (fun x => batch_Check_1.f K x))
noncomputable def batch_Check_1.ht : HT := .nil
noncomputable def batch_Check_1.cx (K : Nat) : Cx := ⟨tt, [(44, family_Good.con K)], [], K, inlOf tt [(44, family_Good.con K)] [] K (getBody []) 0⟩
theorem batch_Check_1.eq (K : Nat) (x : PL batch_Check_1.sig.ps) : evalF (batch_Check_1.cx K) batch_Check_1.sig (bodyOf Tryz.f43) batch_Check_1.ht x = batch_Check_1.f K x := by kernel_rfl
theorem batch_Check_1.fok (K : Nat) : FOK Tryz.prog batch_Check_1.sig (fun x => batch_Check_1.f K x) 43 := fok_of_eval (tt := tt) (cons := [(44, family_Good.con K)]) (exts := []) (bodies := (getBody [])) (K := K) (d := 0) ⟨ttok, (getCon_cons (family_Good.ok K) (fun _ _ => getCon_nil)), (fun _ _ => getExt_nil), (fun _ _ => getBody_nil)⟩ draw bok43 (batch_Check_1.eq K)
theorem batch_Check_1.ok (K : Nat) : ConOK Tryz.prog 43 (batch_Check_1.con K) := con_ok bok43 (batch_Check_1.fok K)

noncomputable def batch_Tenant.f (K : Nat) (s0 : List UInt8) : Option Bool :=
  ((loopN K (fun (s_ : Int) =>
    match s_ with
    | t192 =>
      bif decide (t192 < (s0.length : Int)) then
        bif idx t192 s0.length then
          (((
              bif decide (((s0.getD t192.toNat 0).toNat : Int) < 97) then
                bif decide (((s0.getD t192.toNat 0).toNat : Int) < 48) then some (((s0.getD t192.toNat 0).toNat : Int) != 45)
                else
                bif decide (((s0.getD t192.toNat 0).toNat : Int) > 57) then
                  some (((s0.getD t192.toNat 0).toNat : Int) != 45)
                else some false
              else
              bif decide (((s0.getD t192.toNat 0).toNat : Int) > 122) then
                bif decide (((s0.getD t192.toNat 0).toNat : Int) < 48) then some (((s0.getD t192.toNat 0).toNat : Int) != 45)
                else
                bif decide (((s0.getD t192.toNat 0).toNat : Int) > 57) then
                  some (((s0.getD t192.toNat 0).toNat : Int) != 45)
                else some false
              else some false) : Option Bool)).bind fun t193 =>
          bif t193 then
            some (.inr (.inr false))
          else some (.inl (IntKind.i64.wrap (t192 + 1)))
        else none
      else some (.inr (.inl ()))) 0 : Option (Unit ⊕ Bool))).bind fun e_ =>
  match e_ with
  | .inl _ =>
    bif !(s0 == ([] : List UInt8)) then
      some (decide ((s0.length : Int) ≤ 16))
    else some false
  | .inr t194 =>
    some t194
def batch_Tenant.sig : Sig := ⟨[(.c .str)], [(.c .bool)]⟩
noncomputable def batch_Tenant.con (K : Nat) : Con := (mkCon batch_Tenant.sig (fun x => batch_Tenant.f K x))
noncomputable def batch_Tenant.ht : HT := .seq .nil (.seq (.seq .nil (.block (.loop ⟨7, [2, 3, 4], [], ⟨[(7, .c (.v (.int .i64)))], []⟩, [(.exit 0, ⟨[], []⟩), (.ret, ⟨[(2, .c (.v .bool))], []⟩)]⟩ (.seq .nil (.seq .nil (.seq (.block (.seq .nil (.seq .nil (.join ⟨8, [], [], ⟨[], []⟩, [(.normal, ⟨[(30, .c (.v .bool))], []⟩)]⟩ (.seq .nil .nil))))) .nil)))))) .nil)
noncomputable def batch_Tenant.cx (K : Nat) : Cx := ⟨tt, [], [], K, inlOf tt [] [] K (getBody []) 0⟩
theorem batch_Tenant.eq (K : Nat) (x : PL batch_Tenant.sig.ps) : evalF (batch_Tenant.cx K) batch_Tenant.sig (bodyOf Tryz.f45) batch_Tenant.ht x = batch_Tenant.f K x := by kernel_rfl
theorem batch_Tenant.fok (K : Nat) : FOK Tryz.prog batch_Tenant.sig (fun x => batch_Tenant.f K x) 45 := fok_of_eval (tt := tt) (cons := []) (exts := []) (bodies := (getBody [])) (K := K) (d := 0) ⟨ttok, (fun _ _ => getCon_nil), (fun _ _ => getExt_nil), (fun _ _ => getBody_nil)⟩ draw bok45 (batch_Tenant.eq K)
theorem batch_Tenant.ok (K : Nat) : ConOK Tryz.prog 45 (batch_Tenant.con K) := con_ok bok45 (batch_Tenant.fok K)

noncomputable def batch_rises.f (K : Nat) (l0 : List (List UInt8 × Int × List UInt8 × List UInt8 × List (List (List UInt8 × List UInt8) × Int × Bool × Int × Int × Int × Int × Bool × Int))) : Option Bool :=
  ((loopN K (fun (s_ : Int) =>
    match s_ with
    | i197 =>
      bif decide (i197 < (l0.length : Int)) then
        bif idx (IntKind.i64.wrap (i197 - 1)) l0.length then
          bif idx i197 l0.length then
            bif !(Op.bytesLess ((l0.getD ((IntKind.i64.wrap (i197 - 1)).toNat) (([] : List UInt8), ((0 : Int), (([] : List UInt8), (([] : List UInt8), ([] : List (List (List UInt8 × List UInt8) × Int × Bool × Int × Int × Int × Int × Bool × Int))))))).1) ((l0.getD i197.toNat (([] : List UInt8), ((0 : Int), (([] : List UInt8), (([] : List UInt8), ([] : List (List (List UInt8 × List UInt8) × Int × Bool × Int × Int × Int × Int × Bool × Int))))))).1)) then
              some (.inr (.inr false))
            else some (.inl (IntKind.i64.wrap (i197 + 1)))
          else none
        else none
      else some (.inr (.inl ()))) 1 : Option (Unit ⊕ Bool))).bind fun e_ =>
  match e_ with
  | .inl _ =>
    some true
  | .inr t198 =>
    some t198
def batch_rises.sig : Sig := ⟨[(.c (.sl (.pair .str (.pair (.int .i64) (.pair .str (.pair .str (.sl (.pair (.sl (.pair .str .str)) (.pair (.int .i64) (.pair .bool (.pair (.int .i64) (.pair (.int .i64) (.pair (.int .i64) (.pair (.int .i64) (.pair .bool (.int .i64))))))))))))))))], [(.c .bool)]⟩
noncomputable def batch_rises.con (K : Nat) : Con := (mkCon batch_rises.sig (fun x => batch_rises.f K x))
noncomputable def batch_rises.ht : HT := .seq .nil (.seq (.seq .nil (.block (.loop ⟨1, [], [], ⟨[(3, .c (.v (.int .i64)))], []⟩, [(.exit 0, ⟨[], []⟩), (.ret, ⟨[(2, .c (.v .bool))], []⟩)]⟩ .nil))) .nil)
noncomputable def batch_rises.cx (K : Nat) : Cx := ⟨tt, [], [], K, inlOf tt [] [] K (getBody []) 0⟩
theorem batch_rises.eq (K : Nat) (x : PL batch_rises.sig.ps) : evalF (batch_rises.cx K) batch_rises.sig (bodyOf Tryz.f47) batch_rises.ht x = batch_rises.f K x := by kernel_rfl
theorem batch_rises.fok (K : Nat) : FOK Tryz.prog batch_rises.sig (fun x => batch_rises.f K x) 47 := fok_of_eval (tt := tt) (cons := []) (exts := []) (bodies := (getBody [])) (K := K) (d := 0) ⟨ttok, (fun _ _ => getCon_nil), (fun _ _ => getExt_nil), (fun _ _ => getBody_nil)⟩ draw bok47 (batch_rises.eq K)
theorem batch_rises.ok (K : Nat) : ConOK Tryz.prog 47 (batch_rises.con K) := con_ok bok47 (batch_rises.fok K)

noncomputable def batch_Points.f (K : Nat) (b0 : List UInt8 × List (List UInt8 × Int × List UInt8 × List UInt8 × List (List (List UInt8 × List UInt8) × Int × Bool × Int × Int × Int × Int × Bool × Int))) : Option Int :=
  ((loopN K (fun (s_ : Int × Int) =>
    match s_ with
    | (n201, t202) =>
      bif decide (t202 < (b0.2.length : Int)) then
        bif idx t202 b0.2.length then
          some (.inl (IntKind.i64.wrap (n201 + ((((((b0.2.getD t202.toNat (([] : List UInt8), ((0 : Int), (([] : List UInt8), (([] : List UInt8), ([] : List (List (List UInt8 × List UInt8) × Int × Bool × Int × Int × Int × Int × Bool × Int))))))).2).2).2).2).length : Int)), IntKind.i64.wrap (t202 + 1)))
        else none
      else some (.inr n201)) (0, 0) : Option Int)).bind fun n203 =>
  some n203
def batch_Points.sig : Sig := ⟨[(.agg (.pair .str (.sl (.pair .str (.pair (.int .i64) (.pair .str (.pair .str (.sl (.pair (.sl (.pair .str .str)) (.pair (.int .i64) (.pair .bool (.pair (.int .i64) (.pair (.int .i64) (.pair (.int .i64) (.pair (.int .i64) (.pair .bool (.int .i64)))))))))))))))))], [(.c (.int .i64))]⟩
noncomputable def batch_Points.con (K : Nat) : Con := (mkCon batch_Points.sig (fun x => batch_Points.f K x))
noncomputable def batch_Points.ht : HT := .seq .nil (.seq .nil (.seq (.seq .nil (.block (.loop ⟨9, [3, 5], [], ⟨[(3, .c (.v (.int .i64))), (9, .c (.v (.int .i64)))], []⟩, [(.exit 0, ⟨[(3, .c (.v (.int .i64)))], []⟩)]⟩ .nil))) .nil))
noncomputable def batch_Points.cx (K : Nat) : Cx := ⟨tt, [], [], K, inlOf tt [] [] K (getBody []) 0⟩
theorem batch_Points.eq (K : Nat) (x : PL batch_Points.sig.ps) : evalF (batch_Points.cx K) batch_Points.sig (bodyOf Tryz.f48) batch_Points.ht x = batch_Points.f K x := by kernel_rfl
theorem batch_Points.fok (K : Nat) : FOK Tryz.prog batch_Points.sig (fun x => batch_Points.f K x) 48 := fok_of_eval (tt := tt) (cons := []) (exts := []) (bodies := (getBody [])) (K := K) (d := 0) ⟨ttok, (fun _ _ => getCon_nil), (fun _ _ => getExt_nil), (fun _ _ => getBody_nil)⟩ draw bok48 (batch_Points.eq K)
theorem batch_Points.ok (K : Nat) : ConOK Tryz.prog 48 (batch_Points.con K) := con_ok bok48 (batch_Points.fok K)

noncomputable def batch_Check.f (K : Nat) (b0 : List UInt8 × List (List UInt8 × Int × List UInt8 × List UInt8 × List (List (List UInt8 × List UInt8) × Int × Bool × Int × Int × Int × Int × Bool × Int))) : Option Int :=
  (((
      (batch_Tenant.f K b0.1).bind fun r205 =>
      bif !r205 then some true
      else
      ((loopN K (fun (s_ : Int) =>
        match s_ with
        | t210 =>
          bif decide (t210 < (b0.2.length : Int)) then
            bif idx t210 b0.2.length then
              (batch_Check_1.f K ((b0.2.getD t210.toNat (([] : List UInt8), ((0 : Int), (([] : List UInt8), (([] : List UInt8), ([] : List (List (List UInt8 × List UInt8) × Int × Bool × Int × Int × Int × Int × Bool × Int))))))).1, ((b0.2.getD t210.toNat (([] : List UInt8), ((0 : Int), (([] : List UInt8), (([] : List UInt8), ([] : List (List (List UInt8 × List UInt8) × Int × Bool × Int × Int × Int × Int × Bool × Int))))))).2).1, (((b0.2.getD t210.toNat (([] : List UInt8), ((0 : Int), (([] : List UInt8), (([] : List UInt8), ([] : List (List (List UInt8 × List UInt8) × Int × Bool × Int × Int × Int × Int × Bool × Int))))))).2).2).1, ((((b0.2.getD t210.toNat (([] : List UInt8), ((0 : Int), (([] : List UInt8), (([] : List UInt8), ([] : List (List (List UInt8 × List UInt8) × Int × Bool × Int × Int × Int × Int × Bool × Int))))))).2).2).2).1, ((((b0.2.getD t210.toNat (([] : List UInt8), ((0 : Int), (([] : List UInt8), (([] : List UInt8), ([] : List (List (List UInt8 × List UInt8) × Int × Bool × Int × Int × Int × Int × Bool × Int))))))).2).2).2).2)).bind fun r211 =>
              bif r211 then
                some (.inr (.inr t210))
              else some (.inl (IntKind.i64.wrap (t210 + 1)))
            else none
          else some (.inr (.inl ()))) 0 : Option (Unit ⊕ Int))).bind fun e_ =>
      match e_ with
      | .inl _ =>
        (batch_rises.f K b0.2).bind fun r212 =>
        some (!r212)
      | .inr t213 =>
        bif decide (t213 ≥ 0) then some true
        else
        (batch_rises.f K b0.2).bind fun r214 =>
        some (!r214)) : Option Bool)).bind fun t215 =>
  bif t215 then some 19
  else
  bif decide ((b0.2.length : Int) > 30) then some 14
  else
  (batch_Points.f K b0).bind fun r216 =>
  bif decide (r216 > 120) then
    some 14
  else some 0
def batch_Check.sig : Sig := ⟨[(.agg (.pair .str (.sl (.pair .str (.pair (.int .i64) (.pair .str (.pair .str (.sl (.pair (.sl (.pair .str .str)) (.pair (.int .i64) (.pair .bool (.pair (.int .i64) (.pair (.int .i64) (.pair (.int .i64) (.pair (.int .i64) (.pair .bool (.int .i64)))))))))))))))))], [(.c (.int .i64))]⟩
noncomputable def batch_Check.con (K : Nat) : Con := (mkCon batch_Check.sig (fun x => batch_Check.f K x))
noncomputable def batch_Check.ht : HT := .seq .nil (.seq .nil (.seq (.block (.join ⟨3, [], [], ⟨[], []⟩, [(.normal, ⟨[(4, .c (.v .bool))], []⟩)]⟩ (.seq (.calls [(8, .seq .nil (.seq (.calls [(2, .seq .nil (.seq (.seq .nil (.block (.loop ⟨8, [4, 5], [], ⟨[(8, .c (.v (.int .i64)))], []⟩, [(.exit 0, ⟨[], []⟩), (.ret, ⟨[(4, .c (.v (.int .i64)))], []⟩)]⟩ .nil))) .nil))]) .nil))]) .nil))) .nil))
noncomputable def batch_Check.cx (K : Nat) : Cx := ⟨tt, [(45, batch_Tenant.con K), (43, batch_Check_1.con K), (47, batch_rises.con K), (48, batch_Points.con K)], [], K, inlOf tt [(45, batch_Tenant.con K), (43, batch_Check_1.con K), (47, batch_rises.con K), (48, batch_Points.con K)] [] K (getBody [(46, bodyOf Tryz.f46), (76, bodyOf Tryz.f76)]) 2⟩
theorem batch_Check.eq (K : Nat) (x : PL batch_Check.sig.ps) : evalF (batch_Check.cx K) batch_Check.sig (bodyOf Tryz.f27) batch_Check.ht x = batch_Check.f K x := by kernel_rfl
theorem batch_Check.fok (K : Nat) : FOK Tryz.prog batch_Check.sig (fun x => batch_Check.f K x) 27 := fok_of_eval (tt := tt) (cons := [(45, batch_Tenant.con K), (43, batch_Check_1.con K), (47, batch_rises.con K), (48, batch_Points.con K)]) (exts := []) (bodies := (getBody [(46, bodyOf Tryz.f46), (76, bodyOf Tryz.f76)])) (K := K) (d := 2) ⟨ttok, (getCon_cons (batch_Tenant.ok K) (getCon_cons (batch_Check_1.ok K) (getCon_cons (batch_rises.ok K) (getCon_cons (batch_Points.ok K) (fun _ _ => getCon_nil))))), (fun _ _ => getExt_nil), (getBody_cons (gbody_mk bok46 rfl) (getBody_cons (gbody_mk bok76 rfl) (fun _ _ => getBody_nil)))⟩ draw bok27 (batch_Check.eq K)
theorem batch_Check.ok (K : Nat) : ConOK Tryz.prog 27 (batch_Check.con K) := con_ok bok27 (batch_Check.fok K)

noncomputable def charset_within.f (K : Nat) (c0 : Int) (classes1 : Int × Int × Int × Int × Int × Int) : Option Bool :=
  ((loopN K (fun (s_ : Int) =>
    match s_ with
    | t219 =>
      bif decide (t219 < 3) then
        bif idx t219 3 then
          bif decide (c0 ≥ ((([(classes1.1, classes1.2.1), (classes1.2.2.1, classes1.2.2.2.1), classes1.2.2.2.2] : List (Int × Int)).getD t219.toNat ((0 : Int), (0 : Int))).1)) then
            bif decide (c0 ≤ ((([(classes1.1, classes1.2.1), (classes1.2.2.1, classes1.2.2.2.1), classes1.2.2.2.2] : List (Int × Int)).getD t219.toNat ((0 : Int), (0 : Int))).2)) then
              some (.inr (.inr true))
            else some (.inl (IntKind.i64.wrap (t219 + 1)))
          else some (.inl (IntKind.i64.wrap (t219 + 1)))
        else none
      else some (.inr (.inl ()))) 0 : Option (Unit ⊕ Bool))).bind fun e_ =>
  match e_ with
  | .inl _ =>
    some false
  | .inr t220 =>
    some t220
def charset_within.sig : Sig := ⟨[(.c (.int .u8)), (.agg (.pair (.int .u8) (.pair (.int .u8) (.pair (.int .u8) (.pair (.int .u8) (.pair (.int .u8) (.int .u8)))))))], [(.c .bool)]⟩
noncomputable def charset_within.con (K : Nat) : Con := (mkCon charset_within.sig (fun x => charset_within.f K x.1 x.2))
noncomputable def charset_within.ht : HT := .seq .nil (.seq (.seq .nil (.block (.loop ⟨8, [4, 6], [], ⟨[(8, .c (.v (.int .i64)))], []⟩, [(.exit 0, ⟨[], []⟩), (.ret, ⟨[(4, .c (.v .bool))], []⟩)]⟩ .nil))) .nil)
noncomputable def charset_within.cx (K : Nat) : Cx := ⟨tt, [], [], K, inlOf tt [] [] K (getBody []) 0⟩
theorem charset_within.eq (K : Nat) (x : PL charset_within.sig.ps) : evalF (charset_within.cx K) charset_within.sig (bodyOf Tryz.f103) charset_within.ht x = charset_within.f K x.1 x.2 := by kernel_rfl
theorem charset_within.fok (K : Nat) : FOK Tryz.prog charset_within.sig (fun x => charset_within.f K x.1 x.2) 103 := fok_of_eval (tt := tt) (cons := []) (exts := []) (bodies := (getBody [])) (K := K) (d := 0) ⟨ttok, (fun _ _ => getCon_nil), (fun _ _ => getExt_nil), (fun _ _ => getBody_nil)⟩ draw bok103 (charset_within.eq K)
theorem charset_within.ok (K : Nat) : ConOK Tryz.prog 103 (charset_within.con K) := con_ok bok103 (charset_within.fok K)

noncomputable def charset_letter.f (K : Nat) (c0 : Int) (digits1 : Bool) : Option Bool :=
  bif digits1 then
    (charset_within.f K c0 (97, 122, 65, 90, 48, 57)).bind fun r221 =>
    some r221
  else
  (charset_within.f K c0 (97, 122, 65, 90, 97, 97)).bind fun r222 =>
  some r222
def charset_letter.sig : Sig := ⟨[(.c (.int .u8)), (.c .bool)], [(.c .bool)]⟩
noncomputable def charset_letter.con (K : Nat) : Con := (mkCon charset_letter.sig (fun x => charset_letter.f K x.1 x.2))
noncomputable def charset_letter.ht : HT := .nil
noncomputable def charset_letter.cx (K : Nat) : Cx := ⟨tt, [(103, charset_within.con K)], [], K, inlOf tt [(103, charset_within.con K)] [] K (getBody []) 0⟩
theorem charset_letter.eq (K : Nat) (x : PL charset_letter.sig.ps) : evalF (charset_letter.cx K) charset_letter.sig (bodyOf Tryz.f81) charset_letter.ht x = charset_letter.f K x.1 x.2 := by kernel_rfl
theorem charset_letter.fok (K : Nat) : FOK Tryz.prog charset_letter.sig (fun x => charset_letter.f K x.1 x.2) 81 := fok_of_eval (tt := tt) (cons := [(103, charset_within.con K)]) (exts := []) (bodies := (getBody [])) (K := K) (d := 0) ⟨ttok, (getCon_cons (charset_within.ok K) (fun _ _ => getCon_nil)), (fun _ _ => getExt_nil), (fun _ _ => getBody_nil)⟩ draw bok81 (charset_letter.eq K)
theorem charset_letter.ok (K : Nat) : ConOK Tryz.prog 81 (charset_letter.con K) := con_ok bok81 (charset_letter.fok K)

noncomputable def charset_line.f (K : Nat) (what0 : Int) (s1 : List UInt8) (i2 : Int) : Option Bool :=
  bif idx i2 s1.length then
    bif decide (((s1.getD i2.toNat 0).toNat : Int) ≥ 32) then
      bif decide (((s1.getD i2.toNat 0).toNat : Int) ≤ 126) then
        bif ((s1.getD i2.toNat 0).toNat : Int) != 92 then
          bif ((s1.getD i2.toNat 0).toNat : Int) != 35 then some true
          else
          bif decide (i2 > 0) then
            some true
          else some (what0 == 1)
        else some false
      else some false
    else some false
  else none
def charset_line.sig : Sig := ⟨[(.c (.int .i64)), (.c .str), (.c (.int .i64))], [(.c .bool)]⟩
noncomputable def charset_line.con (K : Nat) : Con := (mkCon charset_line.sig (fun x => charset_line.f K x.1 x.2.1 x.2.2))
noncomputable def charset_line.ht : HT := .nil
noncomputable def charset_line.cx (K : Nat) : Cx := ⟨tt, [], [], K, inlOf tt [] [] K (getBody []) 0⟩
theorem charset_line.eq (K : Nat) (x : PL charset_line.sig.ps) : evalF (charset_line.cx K) charset_line.sig (bodyOf Tryz.f82) charset_line.ht x = charset_line.f K x.1 x.2.1 x.2.2 := by kernel_rfl
theorem charset_line.fok (K : Nat) : FOK Tryz.prog charset_line.sig (fun x => charset_line.f K x.1 x.2.1 x.2.2) 82 := fok_of_eval (tt := tt) (cons := []) (exts := []) (bodies := (getBody [])) (K := K) (d := 0) ⟨ttok, (fun _ _ => getCon_nil), (fun _ _ => getExt_nil), (fun _ _ => getBody_nil)⟩ draw bok82 (charset_line.eq K)
theorem charset_line.ok (K : Nat) : ConOK Tryz.prog 82 (charset_line.con K) := con_ok bok82 (charset_line.fok K)

noncomputable def stringslite_IndexByte.f (K : Nat) (s0 : List UInt8) (c1 : Int) : Option Int :=
  some (idxByte s0 c1)
def stringslite_IndexByte.sig : Sig := ⟨[(.c .str), (.c (.int .u8))], [(.c (.int .i64))]⟩
noncomputable def stringslite_IndexByte.con (K : Nat) : Con := (mkCon stringslite_IndexByte.sig (fun x => stringslite_IndexByte.f K x.1 x.2))
noncomputable def stringslite_IndexByte.ht : HT := .nil
noncomputable def stringslite_IndexByte.cx (K : Nat) : Cx := ⟨tt, [], [(117, .indexByte)], K, inlOf tt [] [(117, .indexByte)] K (getBody []) 0⟩
theorem stringslite_IndexByte.eq (K : Nat) (x : PL stringslite_IndexByte.sig.ps) : evalF (stringslite_IndexByte.cx K) stringslite_IndexByte.sig (bodyOf Tryz.f104) stringslite_IndexByte.ht x = stringslite_IndexByte.f K x.1 x.2 := by kernel_rfl
theorem stringslite_IndexByte.fok (K : Nat) : FOK Tryz.prog stringslite_IndexByte.sig (fun x => stringslite_IndexByte.f K x.1 x.2) 104 := fok_of_eval (tt := tt) (cons := []) (exts := [(117, .indexByte)]) (bodies := (getBody [])) (K := K) (d := 0) ⟨ttok, (fun _ _ => getCon_nil), (getExt_cons ext117 (fun _ _ => getExt_nil)), (fun _ _ => getBody_nil)⟩ draw bok104 (stringslite_IndexByte.eq K)
theorem stringslite_IndexByte.ok (K : Nat) : ConOK Tryz.prog 104 (stringslite_IndexByte.con K) := con_ok bok104 (stringslite_IndexByte.fok K)

noncomputable def strings_IndexByte.f (K : Nat) (s0 : List UInt8) (c1 : Int) : Option Int :=
  (stringslite_IndexByte.f K s0 c1).bind fun r223 =>
  some r223
def strings_IndexByte.sig : Sig := ⟨[(.c .str), (.c (.int .u8))], [(.c (.int .i64))]⟩
noncomputable def strings_IndexByte.con (K : Nat) : Con := (mkCon strings_IndexByte.sig (fun x => strings_IndexByte.f K x.1 x.2))
noncomputable def strings_IndexByte.ht : HT := .nil
noncomputable def strings_IndexByte.cx (K : Nat) : Cx := ⟨tt, [(104, stringslite_IndexByte.con K)], [], K, inlOf tt [(104, stringslite_IndexByte.con K)] [] K (getBody []) 0⟩
theorem strings_IndexByte.eq (K : Nat) (x : PL strings_IndexByte.sig.ps) : evalF (strings_IndexByte.cx K) strings_IndexByte.sig (bodyOf Tryz.f83) strings_IndexByte.ht x = strings_IndexByte.f K x.1 x.2 := by kernel_rfl
theorem strings_IndexByte.fok (K : Nat) : FOK Tryz.prog strings_IndexByte.sig (fun x => strings_IndexByte.f K x.1 x.2) 83 := fok_of_eval (tt := tt) (cons := [(104, stringslite_IndexByte.con K)]) (exts := []) (bodies := (getBody [])) (K := K) (d := 0) ⟨ttok, (getCon_cons (stringslite_IndexByte.ok K) (fun _ _ => getCon_nil)), (fun _ _ => getExt_nil), (fun _ _ => getBody_nil)⟩ draw bok83 (strings_IndexByte.eq K)
theorem strings_IndexByte.ok (K : Nat) : ConOK Tryz.prog 83 (strings_IndexByte.con K) := con_ok bok83 (strings_IndexByte.fok K)

noncomputable def charset_point.f (K : Nat) (s0 : List UInt8) (i1 : Int) : Option Bool :=
  bif decide (i1 > 0) then
    bif decide (i1 < (IntKind.i64.wrap ((s0.length : Int) - 1))) then
      bif idx (IntKind.i64.wrap (i1 - 1)) s0.length then
        some (((s0.getD ((IntKind.i64.wrap (i1 - 1)).toNat) 0).toNat : Int) != 46)
      else none
    else some false
  else some false
def charset_point.sig : Sig := ⟨[(.c .str), (.c (.int .i64))], [(.c .bool)]⟩
noncomputable def charset_point.con (K : Nat) : Con := (mkCon charset_point.sig (fun x => charset_point.f K x.1 x.2))
noncomputable def charset_point.ht : HT := .nil
noncomputable def charset_point.cx (K : Nat) : Cx := ⟨tt, [], [], K, inlOf tt [] [] K (getBody []) 0⟩
theorem charset_point.eq (K : Nat) (x : PL charset_point.sig.ps) : evalF (charset_point.cx K) charset_point.sig (bodyOf Tryz.f84) charset_point.ht x = charset_point.f K x.1 x.2 := by kernel_rfl
theorem charset_point.fok (K : Nat) : FOK Tryz.prog charset_point.sig (fun x => charset_point.f K x.1 x.2) 84 := fok_of_eval (tt := tt) (cons := []) (exts := []) (bodies := (getBody [])) (K := K) (d := 0) ⟨ttok, (fun _ _ => getCon_nil), (fun _ _ => getExt_nil), (fun _ _ => getBody_nil)⟩ draw bok84 (charset_point.eq K)
theorem charset_point.ok (K : Nat) : ConOK Tryz.prog 84 (charset_point.con K) := con_ok bok84 (charset_point.fok K)

noncomputable def charset_Legal.f (K : Nat) (proto0 : Int) (what1 : Int) (s2 : List UInt8) (i3 : Int) : Option Bool :=
  (((
      bif decide (i3 < 0) then some (.inr false)
      else
      bif decide (i3 ≥ (s2.length : Int)) then some (.inr false)
      else
      bif what1 != 0 then
        bif what1 != 1 then
          some (.inr false)
        else some (.inl ())
      else some (.inl ())) : Option (Unit ⊕ Bool))).bind fun e_ =>
  match e_ with
  | .inl _ =>
    bif idx i3 s2.length then
      bif proto0 == 1 then
        (charset_letter.f K ((s2.getD i3.toNat 0).toNat : Int) (decide (i3 > 0))).bind fun r224 =>
        bif r224 then some true
        else
        bif ((s2.getD i3.toNat 0).toNat : Int) == 95 then some true
        else
        bif ((s2.getD i3.toNat 0).toNat : Int) == 58 then
          some (what1 == 0)
        else some false
      else
      bif proto0 == 2 then
        (charset_line.f K what1 s2 i3).bind fun r225 =>
        some r225
      else
      bif proto0 == 3 then
        (charset_letter.f K ((s2.getD i3.toNat 0).toNat : Int) true).bind fun r226 =>
        bif r226 then some true
        else
        (strings_IndexByte.f K ([95, 45, 58] : List UInt8) ((s2.getD i3.toNat 0).toNat : Int)).bind fun r227 =>
        bif decide (r227 ≥ 0) then some true
        else
        bif ((s2.getD i3.toNat 0).toNat : Int) == 46 then
          bif what1 == 0 then
            (charset_point.f K s2 i3).bind fun r228 =>
            some r228
          else some false
        else some false
      else
      bif proto0 == 4 then
        (charset_letter.f K ((s2.getD i3.toNat 0).toNat : Int) true).bind fun r229 =>
        bif r229 then some true
        else
        (strings_IndexByte.f K ([95, 45, 46] : List UInt8) ((s2.getD i3.toNat 0).toNat : Int)).bind fun r230 =>
        some (decide (r230 ≥ 0))
      else some false
    else none
  | .inr t231 =>
    some t231
def charset_Legal.sig : Sig := ⟨[(.c (.int .i64)), (.c (.int .i64)), (.c .str), (.c (.int .i64))], [(.c .bool)]⟩
noncomputable def charset_Legal.con (K : Nat) : Con := (mkCon charset_Legal.sig (fun x => charset_Legal.f K x.1 x.2.1 x.2.2.1 x.2.2.2))
noncomputable def charset_Legal.ht : HT := .seq .nil (.join ⟨4, [], [], ⟨[], []⟩, [(.normal, ⟨[], []⟩), (.ret, ⟨[(8, .c (.v .bool))], []⟩)]⟩ (.seq .nil .nil))
noncomputable def charset_Legal.cx (K : Nat) : Cx := ⟨tt, [(81, charset_letter.con K), (82, charset_line.con K), (83, strings_IndexByte.con K), (84, charset_point.con K)], [], K, inlOf tt [(81, charset_letter.con K), (82, charset_line.con K), (83, strings_IndexByte.con K), (84, charset_point.con K)] [] K (getBody []) 0⟩
theorem charset_Legal.eq (K : Nat) (x : PL charset_Legal.sig.ps) : evalF (charset_Legal.cx K) charset_Legal.sig (bodyOf Tryz.f55) charset_Legal.ht x = charset_Legal.f K x.1 x.2.1 x.2.2.1 x.2.2.2 := by kernel_rfl
theorem charset_Legal.fok (K : Nat) : FOK Tryz.prog charset_Legal.sig (fun x => charset_Legal.f K x.1 x.2.1 x.2.2.1 x.2.2.2) 55 := fok_of_eval (tt := tt) (cons := [(81, charset_letter.con K), (82, charset_line.con K), (83, strings_IndexByte.con K), (84, charset_point.con K)]) (exts := []) (bodies := (getBody [])) (K := K) (d := 0) ⟨ttok, (getCon_cons (charset_letter.ok K) (getCon_cons (charset_line.ok K) (getCon_cons (strings_IndexByte.ok K) (getCon_cons (charset_point.ok K) (fun _ _ => getCon_nil))))), (fun _ _ => getExt_nil), (fun _ _ => getBody_nil)⟩ draw bok55 (charset_Legal.eq K)
theorem charset_Legal.ok (K : Nat) : ConOK Tryz.prog 55 (charset_Legal.con K) := con_ok bok55 (charset_Legal.fok K)

noncomputable def charset_Bad.f (K : Nat) (proto0 : Int) (what1 : Int) (s2 : List UInt8) : Option Int :=
  ((loopN K (fun (s_ : Int) =>
    match s_ with
    | t236 =>
      bif decide (t236 < (s2.length : Int)) then
        (charset_Legal.f K proto0 what1 s2 t236).bind fun r237 =>
        bif !r237 then
          some (.inr (.inr t236))
        else some (.inl (IntKind.i64.wrap (t236 + 1)))
      else some (.inr (.inl ()))) 0 : Option (Unit ⊕ Int))).bind fun e_ =>
  match e_ with
  | .inl _ =>
    some (-1)
  | .inr t238 =>
    some t238
def charset_Bad.sig : Sig := ⟨[(.c (.int .i64)), (.c (.int .i64)), (.c .str)], [(.c (.int .i64))]⟩
noncomputable def charset_Bad.con (K : Nat) : Con := (mkCon charset_Bad.sig (fun x => charset_Bad.f K x.1 x.2.1 x.2.2))
noncomputable def charset_Bad.ht : HT := .seq .nil (.seq (.seq .nil (.block (.loop ⟨10, [6, 7], [], ⟨[(10, .c (.v (.int .i64)))], []⟩, [(.exit 0, ⟨[], []⟩), (.ret, ⟨[(6, .c (.v (.int .i64)))], []⟩)]⟩ .nil))) .nil)
noncomputable def charset_Bad.cx (K : Nat) : Cx := ⟨tt, [(55, charset_Legal.con K)], [], K, inlOf tt [(55, charset_Legal.con K)] [] K (getBody []) 0⟩
theorem charset_Bad.eq (K : Nat) (x : PL charset_Bad.sig.ps) : evalF (charset_Bad.cx K) charset_Bad.sig (bodyOf Tryz.f31) charset_Bad.ht x = charset_Bad.f K x.1 x.2.1 x.2.2 := by kernel_rfl
theorem charset_Bad.fok (K : Nat) : FOK Tryz.prog charset_Bad.sig (fun x => charset_Bad.f K x.1 x.2.1 x.2.2) 31 := fok_of_eval (tt := tt) (cons := [(55, charset_Legal.con K)]) (exts := []) (bodies := (getBody [])) (K := K) (d := 0) ⟨ttok, (getCon_cons (charset_Legal.ok K) (fun _ _ => getCon_nil)), (fun _ _ => getExt_nil), (fun _ _ => getBody_nil)⟩ draw bok31 (charset_Bad.eq K)
theorem charset_Bad.ok (K : Nat) : ConOK Tryz.prog 31 (charset_Bad.con K) := con_ok bok31 (charset_Bad.fok K)

noncomputable def charset_Is.f (K : Nat) (proto0 : Int) (what1 : Int) (s2 : List UInt8) : Option Bool :=
  bif !(s2 == ([] : List UInt8)) then
    bif decide ((s2.length : Int) ≤ 60) then
      (charset_Bad.f K proto0 what1 s2).bind fun r239 =>
      some (decide (r239 < 0))
    else some false
  else some false
def charset_Is.sig : Sig := ⟨[(.c (.int .i64)), (.c (.int .i64)), (.c .str)], [(.c .bool)]⟩
noncomputable def charset_Is.con (K : Nat) : Con := (mkCon charset_Is.sig (fun x => charset_Is.f K x.1 x.2.1 x.2.2))
noncomputable def charset_Is.ht : HT := .nil
noncomputable def charset_Is.cx (K : Nat) : Cx := ⟨tt, [(31, charset_Bad.con K)], [], K, inlOf tt [(31, charset_Bad.con K)] [] K (getBody []) 0⟩
theorem charset_Is.eq (K : Nat) (x : PL charset_Is.sig.ps) : evalF (charset_Is.cx K) charset_Is.sig (bodyOf Tryz.f14) charset_Is.ht x = charset_Is.f K x.1 x.2.1 x.2.2 := by kernel_rfl
theorem charset_Is.fok (K : Nat) : FOK Tryz.prog charset_Is.sig (fun x => charset_Is.f K x.1 x.2.1 x.2.2) 14 := fok_of_eval (tt := tt) (cons := [(31, charset_Bad.con K)]) (exts := []) (bodies := (getBody [])) (K := K) (d := 0) ⟨ttok, (getCon_cons (charset_Bad.ok K) (fun _ _ => getCon_nil)), (fun _ _ => getExt_nil), (fun _ _ => getBody_nil)⟩ draw bok14 (charset_Is.eq K)
theorem charset_Is.ok (K : Nat) : ConOK Tryz.prog 14 (charset_Is.con K) := con_ok bok14 (charset_Is.fok K)

noncomputable def class_Kinds.f (K : Nat) (proto0 : Int) : Option (List Int) :=
  bif proto0 == 1 then some ([0, 1, 2, 3, 4] : List Int)
  else
  bif proto0 == 2 then some ([0, 1, 2] : List Int)
  else
  bif proto0 == 3 then some ([0] : List Int)
  else
  bif proto0 == 4 then
    some ([1, 2] : List Int)
  else some ([] : List Int)
def class_Kinds.sig : Sig := ⟨[(.c (.int .i64))], [(.c (.sl (.int .i64)))]⟩
noncomputable def class_Kinds.con (K : Nat) : Con := (mkCon class_Kinds.sig (fun x => class_Kinds.f K x))
noncomputable def class_Kinds.ht : HT := .nil
noncomputable def class_Kinds.cx (K : Nat) : Cx := ⟨tt, [], [], K, inlOf tt [] [] K (getBody []) 0⟩
theorem class_Kinds.eq (K : Nat) (x : PL class_Kinds.sig.ps) : evalF (class_Kinds.cx K) class_Kinds.sig (bodyOf Tryz.f50) class_Kinds.ht x = class_Kinds.f K x := by kernel_rfl
theorem class_Kinds.fok (K : Nat) : FOK Tryz.prog class_Kinds.sig (fun x => class_Kinds.f K x) 50 := fok_of_eval (tt := tt) (cons := []) (exts := []) (bodies := (getBody [])) (K := K) (d := 0) ⟨ttok, (fun _ _ => getCon_nil), (fun _ _ => getExt_nil), (fun _ _ => getBody_nil)⟩ draw bok50 (class_Kinds.eq K)
theorem class_Kinds.ok (K : Nat) : ConOK Tryz.prog 50 (class_Kinds.con K) := con_ok bok50 (class_Kinds.fok K)

noncomputable def stringslite_HasSuffix.f (K : Nat) (s0 : List UInt8) (suffix1 : List UInt8) : Option Bool :=
  bif decide ((s0.length : Int) ≥ (suffix1.length : Int)) then
    bif (decide (0 ≤ (IntKind.i64.wrap ((s0.length : Int) - (suffix1.length : Int))))) && (decide ((IntKind.i64.wrap ((s0.length : Int) - (suffix1.length : Int))) ≤ (s0.length : Int))) then
      some (((s0.take s0.length).drop ((IntKind.i64.wrap ((s0.length : Int) - (suffix1.length : Int))).toNat)) == suffix1)
    else none
  else some false
def stringslite_HasSuffix.sig : Sig := ⟨[(.c .str), (.c .str)], [(.c .bool)]⟩
noncomputable def stringslite_HasSuffix.con (K : Nat) : Con := (mkCon stringslite_HasSuffix.sig (fun x => stringslite_HasSuffix.f K x.1 x.2))
noncomputable def stringslite_HasSuffix.ht : HT := .nil
noncomputable def stringslite_HasSuffix.cx (K : Nat) : Cx := ⟨tt, [], [], K, inlOf tt [] [] K (getBody []) 0⟩
theorem stringslite_HasSuffix.eq (K : Nat) (x : PL stringslite_HasSuffix.sig.ps) : evalF (stringslite_HasSuffix.cx K) stringslite_HasSuffix.sig (bodyOf Tryz.f100) stringslite_HasSuffix.ht x = stringslite_HasSuffix.f K x.1 x.2 := by kernel_rfl
theorem stringslite_HasSuffix.fok (K : Nat) : FOK Tryz.prog stringslite_HasSuffix.sig (fun x => stringslite_HasSuffix.f K x.1 x.2) 100 := fok_of_eval (tt := tt) (cons := []) (exts := []) (bodies := (getBody [])) (K := K) (d := 0) ⟨ttok, (fun _ _ => getCon_nil), (fun _ _ => getExt_nil), (fun _ _ => getBody_nil)⟩ draw bok100 (stringslite_HasSuffix.eq K)
theorem stringslite_HasSuffix.ok (K : Nat) : ConOK Tryz.prog 100 (stringslite_HasSuffix.con K) := con_ok bok100 (stringslite_HasSuffix.fok K)

noncomputable def strings_HasSuffix.f (K : Nat) (s0 : List UInt8) (suffix1 : List UInt8) : Option Bool :=
  (stringslite_HasSuffix.f K s0 suffix1).bind fun r240 =>
  some r240
def strings_HasSuffix.sig : Sig := ⟨[(.c .str), (.c .str)], [(.c .bool)]⟩
noncomputable def strings_HasSuffix.con (K : Nat) : Con := (mkCon strings_HasSuffix.sig (fun x => strings_HasSuffix.f K x.1 x.2))
noncomputable def strings_HasSuffix.ht : HT := .nil
noncomputable def strings_HasSuffix.cx (K : Nat) : Cx := ⟨tt, [(100, stringslite_HasSuffix.con K)], [], K, inlOf tt [(100, stringslite_HasSuffix.con K)] [] K (getBody []) 0⟩
theorem strings_HasSuffix.eq (K : Nat) (x : PL strings_HasSuffix.sig.ps) : evalF (strings_HasSuffix.cx K) strings_HasSuffix.sig (bodyOf Tryz.f78) strings_HasSuffix.ht x = strings_HasSuffix.f K x.1 x.2 := by kernel_rfl
theorem strings_HasSuffix.fok (K : Nat) : FOK Tryz.prog strings_HasSuffix.sig (fun x => strings_HasSuffix.f K x.1 x.2) 78 := fok_of_eval (tt := tt) (cons := [(100, stringslite_HasSuffix.con K)]) (exts := []) (bodies := (getBody [])) (K := K) (d := 0) ⟨ttok, (getCon_cons (stringslite_HasSuffix.ok K) (fun _ _ => getCon_nil)), (fun _ _ => getExt_nil), (fun _ _ => getBody_nil)⟩ draw bok78 (strings_HasSuffix.eq K)
theorem strings_HasSuffix.ok (K : Nat) : ConOK Tryz.prog 78 (strings_HasSuffix.con K) := con_ok bok78 (strings_HasSuffix.fok K)

noncomputable def class_isUnit.f (K : Nat) (h0 : List UInt8 × Int × List UInt8 × List UInt8) : Option Bool :=
  ((loopN K (fun (s_ : Int) =>
    match s_ with
    | t245 =>
      bif decide (t245 < (h0.2.2.1.length : Int)) then
        bif decide (([95] : List UInt8).length + h0.2.2.1.length ≤ LIM) then
          (charset_Legal.f K 1 0 (([95] : List UInt8) ++ h0.2.2.1) (IntKind.i64.wrap (t245 + 1))).bind fun r246 =>
          bif !r246 then
            some (.inr (.inr false))
          else some (.inl (IntKind.i64.wrap (t245 + 1)))
        else none
      else some (.inr (.inl ()))) 0 : Option (Unit ⊕ Bool))).bind fun e_ =>
  match e_ with
  | .inl _ =>
    bif h0.2.2.1 == ([] : List UInt8) then some true
    else
    bif decide (([95] : List UInt8).length + h0.2.2.1.length ≤ LIM) then
      (strings_HasSuffix.f K h0.1 (([95] : List UInt8) ++ h0.2.2.1)).bind fun r247 =>
      some r247
    else none
  | .inr t248 =>
    some t248
def class_isUnit.sig : Sig := ⟨[(.agg (.pair .str (.pair (.int .i64) (.pair .str .str))))], [(.c .bool)]⟩
noncomputable def class_isUnit.con (K : Nat) : Con := (mkCon class_isUnit.sig (fun x => class_isUnit.f K x))
noncomputable def class_isUnit.ht : HT := .seq .nil (.seq (.seq .nil (.block (.loop ⟨7, [2, 3], [], ⟨[(7, .c (.v (.int .i64)))], []⟩, [(.exit 0, ⟨[], []⟩), (.ret, ⟨[(2, .c (.v .bool))], []⟩)]⟩ .nil))) .nil)
noncomputable def class_isUnit.cx (K : Nat) : Cx := ⟨tt, [(55, charset_Legal.con K), (78, strings_HasSuffix.con K)], [], K, inlOf tt [(55, charset_Legal.con K), (78, strings_HasSuffix.con K)] [] K (getBody []) 0⟩
theorem class_isUnit.eq (K : Nat) (x : PL class_isUnit.sig.ps) : evalF (class_isUnit.cx K) class_isUnit.sig (bodyOf Tryz.f51) class_isUnit.ht x = class_isUnit.f K x := by kernel_rfl
theorem class_isUnit.fok (K : Nat) : FOK Tryz.prog class_isUnit.sig (fun x => class_isUnit.f K x) 51 := fok_of_eval (tt := tt) (cons := [(55, charset_Legal.con K), (78, strings_HasSuffix.con K)]) (exts := []) (bodies := (getBody [])) (K := K) (d := 0) ⟨ttok, (getCon_cons (charset_Legal.ok K) (getCon_cons (strings_HasSuffix.ok K) (fun _ _ => getCon_nil))), (fun _ _ => getExt_nil), (fun _ _ => getBody_nil)⟩ draw bok51 (class_isUnit.eq K)
theorem class_isUnit.ok (K : Nat) : ConOK Tryz.prog 51 (class_isUnit.con K) := con_ok bok51 (class_isUnit.fok K)

end Go.Proofs.YtoobdenlgapcmaaGreat
