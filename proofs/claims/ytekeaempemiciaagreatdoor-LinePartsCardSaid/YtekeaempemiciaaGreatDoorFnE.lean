/- What each function of the program comes to, and that it does, part 5. -/
import Derived.Test.YtekeaempemiciaaGreatDoorFnD
import Derived.KernelRfl
set_option linter.unusedVariables false
namespace Go.Proofs.YtekeaempemiciaaGreatDoor
open Go Go.Rf Go.Proofs Go.RowKit

noncomputable def polyglotref7_text.f (K : Nat) (a0 : List UInt8) (b1 : List UInt8) : Option Int :=
  bif Op.bytesLess a0 b1 then some (-1)
  else
  bif !(Op.bytesLess a0 b1 || a0 == b1) then
    some 1
  else some 0
def polyglotref7_text.sig : Sig := ⟨[(.c .str), (.c .str)], [(.c (.int .i64))]⟩
noncomputable def polyglotref7_text.con (K : Nat) : Con := (mkCon polyglotref7_text.sig (fun x => polyglotref7_text.f K x.1 x.2))
noncomputable def polyglotref7_text.ht : HT := .nil
noncomputable def polyglotref7_text.cx (K : Nat) : Cx := ⟨tt, [], [], K, inlOf tt [] [] K (getBody []) 0⟩
theorem polyglotref7_text.eq (K : Nat) (x : PL polyglotref7_text.sig.ps) : evalF (polyglotref7_text.cx K) polyglotref7_text.sig (bodyOf Tryz.f151) polyglotref7_text.ht x = polyglotref7_text.f K x.1 x.2 := by kernel_rfl
theorem polyglotref7_text.fok (K : Nat) : FOK Tryz.prog polyglotref7_text.sig (fun x => polyglotref7_text.f K x.1 x.2) 151 := fok_of_eval (tt := tt) (cons := []) (exts := []) (bodies := (getBody [])) (K := K) (d := 0) ⟨ttok, (fun _ _ => getCon_nil), (fun _ _ => getExt_nil), (fun _ _ => getBody_nil)⟩ draw bok151 (polyglotref7_text.eq K)
theorem polyglotref7_text.ok (K : Nat) : ConOK Tryz.prog 151 (polyglotref7_text.con K) := con_ok bok151 (polyglotref7_text.fok K)

noncomputable def polyglotref7_CompareLabels.f (K : Nat) (a0 : List (List UInt8 × List UInt8)) (b1 : List (List UInt8 × List UInt8)) : Option Int :=
  ((loopN K (fun (s_ : Int) =>
    match s_ with
    | i896 =>
      (((
          bif decide (i896 < (a0.length : Int)) then
            some (decide (i896 < (b1.length : Int)))
          else some false) : Option Bool)).bind fun t897 =>
      bif t897 then
        bif idx i896 a0.length then
          bif idx i896 b1.length then
            (polyglotref7_text.f K ((a0.getD i896.toNat (([] : List UInt8), ([] : List UInt8))).1) ((b1.getD i896.toNat (([] : List UInt8), ([] : List UInt8))).1)).bind fun r898 =>
            bif r898 != 0 then some (.inr (.inr r898))
            else
            bif idx i896 a0.length then
              bif idx i896 b1.length then
                (polyglotref7_text.f K ((a0.getD i896.toNat (([] : List UInt8), ([] : List UInt8))).2) ((b1.getD i896.toNat (([] : List UInt8), ([] : List UInt8))).2)).bind fun r899 =>
                bif r899 != 0 then
                  some (.inr (.inr r899))
                else some (.inl (IntKind.i64.wrap (i896 + 1)))
              else none
            else none
          else none
        else none
      else some (.inr (.inl ()))) 0 : Option (Unit ⊕ Int))).bind fun e_ =>
  match e_ with
  | .inl _ =>
    (polyglotref7_number.f K (a0.length : Int) (b1.length : Int)).bind fun r900 =>
    some r900
  | .inr t901 =>
    some t901
def polyglotref7_CompareLabels.sig : Sig := ⟨[(.c (.sl (.pair .str .str))), (.c (.sl (.pair .str .str)))], [(.c (.int .i64))]⟩
noncomputable def polyglotref7_CompareLabels.con (K : Nat) : Con := (mkCon polyglotref7_CompareLabels.sig (fun x => polyglotref7_CompareLabels.f K x.1 x.2))
noncomputable def polyglotref7_CompareLabels.ht : HT := .seq .nil (.seq (.seq .nil (.block (.loop ⟨2, [], [], ⟨[(5, .c (.v (.int .i64)))], []⟩, [(.exit 0, ⟨[], []⟩), (.ret, ⟨[(4, .c (.v (.int .i64)))], []⟩)]⟩ (.seq (.join ⟨6, [], [], ⟨[], []⟩, [(.normal, ⟨[(17, .c (.v .bool))], []⟩)]⟩ (.seq .nil .nil)) .nil)))) .nil)
noncomputable def polyglotref7_CompareLabels.cx (K : Nat) : Cx := ⟨tt, [(151, polyglotref7_text.con K), (135, polyglotref7_number.con K)], [], K, inlOf tt [(151, polyglotref7_text.con K), (135, polyglotref7_number.con K)] [] K (getBody []) 0⟩
theorem polyglotref7_CompareLabels.eq (K : Nat) (x : PL polyglotref7_CompareLabels.sig.ps) : evalF (polyglotref7_CompareLabels.cx K) polyglotref7_CompareLabels.sig (bodyOf Tryz.f133) polyglotref7_CompareLabels.ht x = polyglotref7_CompareLabels.f K x.1 x.2 := by kernel_rfl
theorem polyglotref7_CompareLabels.fok (K : Nat) : FOK Tryz.prog polyglotref7_CompareLabels.sig (fun x => polyglotref7_CompareLabels.f K x.1 x.2) 133 := fok_of_eval (tt := tt) (cons := [(151, polyglotref7_text.con K), (135, polyglotref7_number.con K)]) (exts := []) (bodies := (getBody [])) (K := K) (d := 0) ⟨ttok, (getCon_cons (polyglotref7_text.ok K) (getCon_cons (polyglotref7_number.ok K) (fun _ _ => getCon_nil))), (fun _ _ => getExt_nil), (fun _ _ => getBody_nil)⟩ draw bok133 (polyglotref7_CompareLabels.eq K)
theorem polyglotref7_CompareLabels.ok (K : Nat) : ConOK Tryz.prog 133 (polyglotref7_CompareLabels.con K) := con_ok bok133 (polyglotref7_CompareLabels.fok K)

noncomputable def polyglotref7_flag.f (K : Nat) (b0 : Bool) : Option Int :=
  bif b0 then
    some 1
  else some 0
def polyglotref7_flag.sig : Sig := ⟨[(.c .bool)], [(.c (.int .i64))]⟩
noncomputable def polyglotref7_flag.con (K : Nat) : Con := (mkCon polyglotref7_flag.sig (fun x => polyglotref7_flag.f K x))
noncomputable def polyglotref7_flag.ht : HT := .nil
noncomputable def polyglotref7_flag.cx (K : Nat) : Cx := ⟨tt, [], [], K, inlOf tt [] [] K (getBody []) 0⟩
theorem polyglotref7_flag.eq (K : Nat) (x : PL polyglotref7_flag.sig.ps) : evalF (polyglotref7_flag.cx K) polyglotref7_flag.sig (bodyOf Tryz.f134) polyglotref7_flag.ht x = polyglotref7_flag.f K x := by kernel_rfl
theorem polyglotref7_flag.fok (K : Nat) : FOK Tryz.prog polyglotref7_flag.sig (fun x => polyglotref7_flag.f K x) 134 := fok_of_eval (tt := tt) (cons := []) (exts := []) (bodies := (getBody [])) (K := K) (d := 0) ⟨ttok, (fun _ _ => getCon_nil), (fun _ _ => getExt_nil), (fun _ _ => getBody_nil)⟩ draw bok134 (polyglotref7_flag.eq K)
theorem polyglotref7_flag.ok (K : Nat) : ConOK Tryz.prog 134 (polyglotref7_flag.con K) := con_ok bok134 (polyglotref7_flag.fok K)

noncomputable def polyglotref7_ComparePoints.f (K : Nat) (p0 : List (List UInt8 × List UInt8) × Int × Bool × Int × Int × Int × Int × Bool × Int) (q1 : List (List UInt8 × List UInt8) × Int × Bool × Int × Int × Int × Int × Bool × Int) : Option Int :=
  (polyglotref7_CompareLabels.f K p0.1 q1.1).bind fun r902 =>
  bif r902 != 0 then some r902
  else
  (polyglotref7_flag.f K p0.2.2.2.2.2.2.2.1).bind fun r903 =>
  (polyglotref7_flag.f K q1.2.2.2.2.2.2.2.1).bind fun r904 =>
  (polyglotref7_flag.f K p0.2.2.1).bind fun r905 =>
  (polyglotref7_flag.f K q1.2.2.1).bind fun r906 =>
  ((loopN K (fun (s_ : Int) =>
    match s_ with
    | i911 =>
      bif decide (i911 < 4) then
        bif idx i911 4 then
          bif decide (i911.toNat < 4) then
            bif idx i911 4 then
              bif decide (i911.toNat < 4) then
                (polyglotref7_number.f K ((([(r903, r904), (p0.2.2.2.2.2.2.2.2, q1.2.2.2.2.2.2.2.2), (p0.2.1, q1.2.1), (r905, r906)] : List (Int × Int)).getD i911.toNat ((0 : Int), (0 : Int))).1) ((([(r903, r904), (p0.2.2.2.2.2.2.2.2, q1.2.2.2.2.2.2.2.2), (p0.2.1, q1.2.1), (r905, r906)] : List (Int × Int)).getD i911.toNat ((0 : Int), (0 : Int))).2)).bind fun r912 =>
                bif r912 != 0 then
                  some (.inr (.inr r912))
                else some (.inl (IntKind.i64.wrap (i911 + 1)))
              else none
            else none
          else none
        else none
      else some (.inr (.inl ()))) 0 : Option (Unit ⊕ Int))).bind fun e_ =>
  match e_ with
  | .inl _ =>
    (polyglotref1_Compare.f K (p0.2.2.2.1, p0.2.2.2.2.1) (q1.2.2.2.1, q1.2.2.2.2.1)).bind fun r913 =>
    some r913
  | .inr t914 =>
    some t914
def polyglotref7_ComparePoints.sig : Sig := ⟨[(.agg (.pair (.sl (.pair .str .str)) (.pair (.int .i64) (.pair .bool (.pair (.int .i64) (.pair (.int .i64) (.pair (.int .i64) (.pair (.int .i64) (.pair .bool (.int .i64)))))))))), (.agg (.pair (.sl (.pair .str .str)) (.pair (.int .i64) (.pair .bool (.pair (.int .i64) (.pair (.int .i64) (.pair (.int .i64) (.pair (.int .i64) (.pair .bool (.int .i64))))))))))], [(.c (.int .i64))]⟩
noncomputable def polyglotref7_ComparePoints.con (K : Nat) : Con := (mkCon polyglotref7_ComparePoints.sig (fun x => polyglotref7_ComparePoints.f K x.1 x.2))
noncomputable def polyglotref7_ComparePoints.ht : HT := .seq .nil (.seq .nil (.seq .nil (.seq (.seq .nil (.block (.loop ⟨7, [4], [], ⟨[(7, .c (.v (.int .i64)))], []⟩, [(.exit 0, ⟨[], []⟩), (.ret, ⟨[(4, .c (.v (.int .i64)))], []⟩)]⟩ .nil))) .nil)))
noncomputable def polyglotref7_ComparePoints.cx (K : Nat) : Cx := ⟨tt, [(133, polyglotref7_CompareLabels.con K), (134, polyglotref7_flag.con K), (135, polyglotref7_number.con K), (131, polyglotref1_Compare.con K)], [], K, inlOf tt [(133, polyglotref7_CompareLabels.con K), (134, polyglotref7_flag.con K), (135, polyglotref7_number.con K), (131, polyglotref1_Compare.con K)] [] K (getBody []) 0⟩
theorem polyglotref7_ComparePoints.eq (K : Nat) (x : PL polyglotref7_ComparePoints.sig.ps) : evalF (polyglotref7_ComparePoints.cx K) polyglotref7_ComparePoints.sig (bodyOf Tryz.f104) polyglotref7_ComparePoints.ht x = polyglotref7_ComparePoints.f K x.1 x.2 := by kernel_rfl
theorem polyglotref7_ComparePoints.fok (K : Nat) : FOK Tryz.prog polyglotref7_ComparePoints.sig (fun x => polyglotref7_ComparePoints.f K x.1 x.2) 104 := fok_of_eval (tt := tt) (cons := [(133, polyglotref7_CompareLabels.con K), (134, polyglotref7_flag.con K), (135, polyglotref7_number.con K), (131, polyglotref1_Compare.con K)]) (exts := []) (bodies := (getBody [])) (K := K) (d := 0) ⟨ttok, (getCon_cons (polyglotref7_CompareLabels.ok K) (getCon_cons (polyglotref7_flag.ok K) (getCon_cons (polyglotref7_number.ok K) (getCon_cons (polyglotref1_Compare.ok K) (fun _ _ => getCon_nil))))), (fun _ _ => getExt_nil), (fun _ _ => getBody_nil)⟩ draw bok104 (polyglotref7_ComparePoints.eq K)
theorem polyglotref7_ComparePoints.ok (K : Nat) : ConOK Tryz.prog 104 (polyglotref7_ComparePoints.con K) := con_ok bok104 (polyglotref7_ComparePoints.fok K)

noncomputable def polyglotref7_Family.f (K : Nat) (f0 : List UInt8 × Int × List UInt8 × List UInt8 × List (List (List UInt8 × List UInt8) × Int × Bool × Int × Int × Int × Int × Bool × Int)) : Option Bool :=
  (((
      (polyglotref7_Name.f K f0.1).bind fun r916 =>
      bif !r916 then some true
      else
      (polyglotref7_IsKind.f K f0.2.1).bind fun r917 =>
      bif !r917 then some true
      else
      (polyglotref7_Value.f K f0.2.2.1).bind fun r918 =>
      bif !r918 then some true
      else
      (polyglotref7_Value.f K f0.2.2.2.1).bind fun r919 =>
      some (!r919)) : Option Bool)).bind fun t920 =>
  bif t920 then some false
  else
  ((loopN K (fun (s_ : Int) =>
    match s_ with
    | i926 =>
      bif decide (i926 < (f0.2.2.2.2.length : Int)) then
        bif idx i926 f0.2.2.2.2.length then
          (polyglotref7_Point.f K f0.2.1 ((f0.2.2.2.2.getD i926.toNat (([] : List (List UInt8 × List UInt8)), ((0 : Int), (false, ((0 : Int), ((0 : Int), ((0 : Int), ((0 : Int), (false, (0 : Int)))))))))).1, ((f0.2.2.2.2.getD i926.toNat (([] : List (List UInt8 × List UInt8)), ((0 : Int), (false, ((0 : Int), ((0 : Int), ((0 : Int), ((0 : Int), (false, (0 : Int)))))))))).2).1, (((f0.2.2.2.2.getD i926.toNat (([] : List (List UInt8 × List UInt8)), ((0 : Int), (false, ((0 : Int), ((0 : Int), ((0 : Int), ((0 : Int), (false, (0 : Int)))))))))).2).2).1, ((((f0.2.2.2.2.getD i926.toNat (([] : List (List UInt8 × List UInt8)), ((0 : Int), (false, ((0 : Int), ((0 : Int), ((0 : Int), ((0 : Int), (false, (0 : Int)))))))))).2).2).2).1, (((((f0.2.2.2.2.getD i926.toNat (([] : List (List UInt8 × List UInt8)), ((0 : Int), (false, ((0 : Int), ((0 : Int), ((0 : Int), ((0 : Int), (false, (0 : Int)))))))))).2).2).2).2).1, ((((((f0.2.2.2.2.getD i926.toNat (([] : List (List UInt8 × List UInt8)), ((0 : Int), (false, ((0 : Int), ((0 : Int), ((0 : Int), ((0 : Int), (false, (0 : Int)))))))))).2).2).2).2).2).1, (((((((f0.2.2.2.2.getD i926.toNat (([] : List (List UInt8 × List UInt8)), ((0 : Int), (false, ((0 : Int), ((0 : Int), ((0 : Int), ((0 : Int), (false, (0 : Int)))))))))).2).2).2).2).2).2).1, ((((((((f0.2.2.2.2.getD i926.toNat (([] : List (List UInt8 × List UInt8)), ((0 : Int), (false, ((0 : Int), ((0 : Int), ((0 : Int), ((0 : Int), (false, (0 : Int)))))))))).2).2).2).2).2).2).2).1, ((((((((f0.2.2.2.2.getD i926.toNat (([] : List (List UInt8 × List UInt8)), ((0 : Int), (false, ((0 : Int), ((0 : Int), ((0 : Int), ((0 : Int), (false, (0 : Int)))))))))).2).2).2).2).2).2).2).2)).bind fun r927 =>
          bif !r927 then some (.inr (.inr false))
          else
          bif decide (i926 > 0) then
            bif idx (IntKind.i64.wrap (i926 - 1)) f0.2.2.2.2.length then
              bif idx i926 f0.2.2.2.2.length then
                (polyglotref7_ComparePoints.f K ((f0.2.2.2.2.getD ((IntKind.i64.wrap (i926 - 1)).toNat) (([] : List (List UInt8 × List UInt8)), ((0 : Int), (false, ((0 : Int), ((0 : Int), ((0 : Int), ((0 : Int), (false, (0 : Int)))))))))).1, ((f0.2.2.2.2.getD ((IntKind.i64.wrap (i926 - 1)).toNat) (([] : List (List UInt8 × List UInt8)), ((0 : Int), (false, ((0 : Int), ((0 : Int), ((0 : Int), ((0 : Int), (false, (0 : Int)))))))))).2).1, (((f0.2.2.2.2.getD ((IntKind.i64.wrap (i926 - 1)).toNat) (([] : List (List UInt8 × List UInt8)), ((0 : Int), (false, ((0 : Int), ((0 : Int), ((0 : Int), ((0 : Int), (false, (0 : Int)))))))))).2).2).1, ((((f0.2.2.2.2.getD ((IntKind.i64.wrap (i926 - 1)).toNat) (([] : List (List UInt8 × List UInt8)), ((0 : Int), (false, ((0 : Int), ((0 : Int), ((0 : Int), ((0 : Int), (false, (0 : Int)))))))))).2).2).2).1, (((((f0.2.2.2.2.getD ((IntKind.i64.wrap (i926 - 1)).toNat) (([] : List (List UInt8 × List UInt8)), ((0 : Int), (false, ((0 : Int), ((0 : Int), ((0 : Int), ((0 : Int), (false, (0 : Int)))))))))).2).2).2).2).1, ((((((f0.2.2.2.2.getD ((IntKind.i64.wrap (i926 - 1)).toNat) (([] : List (List UInt8 × List UInt8)), ((0 : Int), (false, ((0 : Int), ((0 : Int), ((0 : Int), ((0 : Int), (false, (0 : Int)))))))))).2).2).2).2).2).1, (((((((f0.2.2.2.2.getD ((IntKind.i64.wrap (i926 - 1)).toNat) (([] : List (List UInt8 × List UInt8)), ((0 : Int), (false, ((0 : Int), ((0 : Int), ((0 : Int), ((0 : Int), (false, (0 : Int)))))))))).2).2).2).2).2).2).1, ((((((((f0.2.2.2.2.getD ((IntKind.i64.wrap (i926 - 1)).toNat) (([] : List (List UInt8 × List UInt8)), ((0 : Int), (false, ((0 : Int), ((0 : Int), ((0 : Int), ((0 : Int), (false, (0 : Int)))))))))).2).2).2).2).2).2).2).1, ((((((((f0.2.2.2.2.getD ((IntKind.i64.wrap (i926 - 1)).toNat) (([] : List (List UInt8 × List UInt8)), ((0 : Int), (false, ((0 : Int), ((0 : Int), ((0 : Int), ((0 : Int), (false, (0 : Int)))))))))).2).2).2).2).2).2).2).2) ((f0.2.2.2.2.getD i926.toNat (([] : List (List UInt8 × List UInt8)), ((0 : Int), (false, ((0 : Int), ((0 : Int), ((0 : Int), ((0 : Int), (false, (0 : Int)))))))))).1, ((f0.2.2.2.2.getD i926.toNat (([] : List (List UInt8 × List UInt8)), ((0 : Int), (false, ((0 : Int), ((0 : Int), ((0 : Int), ((0 : Int), (false, (0 : Int)))))))))).2).1, (((f0.2.2.2.2.getD i926.toNat (([] : List (List UInt8 × List UInt8)), ((0 : Int), (false, ((0 : Int), ((0 : Int), ((0 : Int), ((0 : Int), (false, (0 : Int)))))))))).2).2).1, ((((f0.2.2.2.2.getD i926.toNat (([] : List (List UInt8 × List UInt8)), ((0 : Int), (false, ((0 : Int), ((0 : Int), ((0 : Int), ((0 : Int), (false, (0 : Int)))))))))).2).2).2).1, (((((f0.2.2.2.2.getD i926.toNat (([] : List (List UInt8 × List UInt8)), ((0 : Int), (false, ((0 : Int), ((0 : Int), ((0 : Int), ((0 : Int), (false, (0 : Int)))))))))).2).2).2).2).1, ((((((f0.2.2.2.2.getD i926.toNat (([] : List (List UInt8 × List UInt8)), ((0 : Int), (false, ((0 : Int), ((0 : Int), ((0 : Int), ((0 : Int), (false, (0 : Int)))))))))).2).2).2).2).2).1, (((((((f0.2.2.2.2.getD i926.toNat (([] : List (List UInt8 × List UInt8)), ((0 : Int), (false, ((0 : Int), ((0 : Int), ((0 : Int), ((0 : Int), (false, (0 : Int)))))))))).2).2).2).2).2).2).1, ((((((((f0.2.2.2.2.getD i926.toNat (([] : List (List UInt8 × List UInt8)), ((0 : Int), (false, ((0 : Int), ((0 : Int), ((0 : Int), ((0 : Int), (false, (0 : Int)))))))))).2).2).2).2).2).2).2).1, ((((((((f0.2.2.2.2.getD i926.toNat (([] : List (List UInt8 × List UInt8)), ((0 : Int), (false, ((0 : Int), ((0 : Int), ((0 : Int), ((0 : Int), (false, (0 : Int)))))))))).2).2).2).2).2).2).2).2)).bind fun r928 =>
                bif decide (r928 ≥ 0) then
                  some (.inr (.inr false))
                else some (.inl (IntKind.i64.wrap (i926 + 1)))
              else none
            else none
          else some (.inl (IntKind.i64.wrap (i926 + 1)))
        else none
      else some (.inr (.inl ()))) 0 : Option (Unit ⊕ Bool))).bind fun e_ =>
  match e_ with
  | .inl _ =>
    some true
  | .inr t929 =>
    some t929
def polyglotref7_Family.sig : Sig := ⟨[(.agg (.pair .str (.pair (.int .i64) (.pair .str (.pair .str (.sl (.pair (.sl (.pair .str .str)) (.pair (.int .i64) (.pair .bool (.pair (.int .i64) (.pair (.int .i64) (.pair (.int .i64) (.pair (.int .i64) (.pair .bool (.int .i64)))))))))))))))], [(.c .bool)]⟩
noncomputable def polyglotref7_Family.con (K : Nat) : Con := (mkCon polyglotref7_Family.sig (fun x => polyglotref7_Family.f K x))
noncomputable def polyglotref7_Family.ht : HT := .seq .nil (.seq (.join ⟨3, [], [], ⟨[], []⟩, [(.normal, ⟨[(29, .c (.v .bool))], []⟩)]⟩ (.seq .nil .nil)) (.seq (.seq .nil (.block (.loop ⟨2, [], [], ⟨[(3, .c (.v (.int .i64)))], []⟩, [(.exit 0, ⟨[], []⟩), (.ret, ⟨[(2, .c (.v .bool))], []⟩)]⟩ .nil))) .nil))
noncomputable def polyglotref7_Family.cx (K : Nat) : Cx := ⟨tt, [(100, polyglotref7_Name.con K), (101, polyglotref7_IsKind.con K), (102, polyglotref7_Value.con K), (103, polyglotref7_Point.con K), (104, polyglotref7_ComparePoints.con K)], [], K, inlOf tt [(100, polyglotref7_Name.con K), (101, polyglotref7_IsKind.con K), (102, polyglotref7_Value.con K), (103, polyglotref7_Point.con K), (104, polyglotref7_ComparePoints.con K)] [] K (getBody []) 0⟩
theorem polyglotref7_Family.eq (K : Nat) (x : PL polyglotref7_Family.sig.ps) : evalF (polyglotref7_Family.cx K) polyglotref7_Family.sig (bodyOf Tryz.f73) polyglotref7_Family.ht x = polyglotref7_Family.f K x := by kernel_rfl
theorem polyglotref7_Family.fok (K : Nat) : FOK Tryz.prog polyglotref7_Family.sig (fun x => polyglotref7_Family.f K x) 73 := fok_of_eval (tt := tt) (cons := [(100, polyglotref7_Name.con K), (101, polyglotref7_IsKind.con K), (102, polyglotref7_Value.con K), (103, polyglotref7_Point.con K), (104, polyglotref7_ComparePoints.con K)]) (exts := []) (bodies := (getBody [])) (K := K) (d := 0) ⟨ttok, (getCon_cons (polyglotref7_Name.ok K) (getCon_cons (polyglotref7_IsKind.ok K) (getCon_cons (polyglotref7_Value.ok K) (getCon_cons (polyglotref7_Point.ok K) (getCon_cons (polyglotref7_ComparePoints.ok K) (fun _ _ => getCon_nil)))))), (fun _ _ => getExt_nil), (fun _ _ => getBody_nil)⟩ draw bok73 (polyglotref7_Family.eq K)
theorem polyglotref7_Family.ok (K : Nat) : ConOK Tryz.prog 73 (polyglotref7_Family.con K) := con_ok bok73 (polyglotref7_Family.fok K)

noncomputable def polyglotref7_Points.f (K : Nat) (l0 : List (List UInt8 × Int × List UInt8 × List UInt8 × List (List (List UInt8 × List UInt8) × Int × Bool × Int × Int × Int × Int × Bool × Int))) : Option Int :=
  ((loopN K (fun (s_ : Int × Int) =>
    match s_ with
    | (n932, i933) =>
      bif decide (i933 < (l0.length : Int)) then
        bif idx i933 l0.length then
          some (.inl (IntKind.i64.wrap (n932 + ((((((l0.getD i933.toNat (([] : List UInt8), ((0 : Int), (([] : List UInt8), (([] : List UInt8), ([] : List (List (List UInt8 × List UInt8) × Int × Bool × Int × Int × Int × Int × Bool × Int))))))).2).2).2).2).length : Int)), IntKind.i64.wrap (i933 + 1)))
        else none
      else some (.inr n932)) (0, 0) : Option Int)).bind fun n934 =>
  some n934
def polyglotref7_Points.sig : Sig := ⟨[(.c (.sl (.pair .str (.pair (.int .i64) (.pair .str (.pair .str (.sl (.pair (.sl (.pair .str .str)) (.pair (.int .i64) (.pair .bool (.pair (.int .i64) (.pair (.int .i64) (.pair (.int .i64) (.pair (.int .i64) (.pair .bool (.int .i64))))))))))))))))], [(.c (.int .i64))]⟩
noncomputable def polyglotref7_Points.con (K : Nat) : Con := (mkCon polyglotref7_Points.sig (fun x => polyglotref7_Points.f K x))
noncomputable def polyglotref7_Points.ht : HT := .seq .nil (.seq .nil (.seq (.seq .nil (.block (.loop ⟨3, [], [], ⟨[(3, .c (.v (.int .i64))), (4, .c (.v (.int .i64)))], []⟩, [(.exit 0, ⟨[(3, .c (.v (.int .i64)))], []⟩)]⟩ .nil))) .nil))
noncomputable def polyglotref7_Points.cx (K : Nat) : Cx := ⟨tt, [], [], K, inlOf tt [] [] K (getBody []) 0⟩
theorem polyglotref7_Points.eq (K : Nat) (x : PL polyglotref7_Points.sig.ps) : evalF (polyglotref7_Points.cx K) polyglotref7_Points.sig (bodyOf Tryz.f74) polyglotref7_Points.ht x = polyglotref7_Points.f K x := by kernel_rfl
theorem polyglotref7_Points.fok (K : Nat) : FOK Tryz.prog polyglotref7_Points.sig (fun x => polyglotref7_Points.f K x) 74 := fok_of_eval (tt := tt) (cons := []) (exts := []) (bodies := (getBody [])) (K := K) (d := 0) ⟨ttok, (fun _ _ => getCon_nil), (fun _ _ => getExt_nil), (fun _ _ => getBody_nil)⟩ draw bok74 (polyglotref7_Points.eq K)
theorem polyglotref7_Points.ok (K : Nat) : ConOK Tryz.prog 74 (polyglotref7_Points.con K) := con_ok bok74 (polyglotref7_Points.fok K)

noncomputable def polyglotref7_Check.f (K : Nat) (b0 : List UInt8 × List (List UInt8 × Int × List UInt8 × List UInt8 × List (List (List UInt8 × List UInt8) × Int × Bool × Int × Int × Int × Int × Bool × Int))) : Option Int :=
  (polyglotref7_Tenant.f K b0.1).bind fun r935 =>
  bif !r935 then some 19
  else
  ((loopN K (fun (s_ : Int) =>
    match s_ with
    | i940 =>
      bif decide (i940 < (b0.2.length : Int)) then
        bif idx i940 b0.2.length then
          (polyglotref7_Family.f K ((b0.2.getD i940.toNat (([] : List UInt8), ((0 : Int), (([] : List UInt8), (([] : List UInt8), ([] : List (List (List UInt8 × List UInt8) × Int × Bool × Int × Int × Int × Int × Bool × Int))))))).1, ((b0.2.getD i940.toNat (([] : List UInt8), ((0 : Int), (([] : List UInt8), (([] : List UInt8), ([] : List (List (List UInt8 × List UInt8) × Int × Bool × Int × Int × Int × Int × Bool × Int))))))).2).1, (((b0.2.getD i940.toNat (([] : List UInt8), ((0 : Int), (([] : List UInt8), (([] : List UInt8), ([] : List (List (List UInt8 × List UInt8) × Int × Bool × Int × Int × Int × Int × Bool × Int))))))).2).2).1, ((((b0.2.getD i940.toNat (([] : List UInt8), ((0 : Int), (([] : List UInt8), (([] : List UInt8), ([] : List (List (List UInt8 × List UInt8) × Int × Bool × Int × Int × Int × Int × Bool × Int))))))).2).2).2).1, ((((b0.2.getD i940.toNat (([] : List UInt8), ((0 : Int), (([] : List UInt8), (([] : List UInt8), ([] : List (List (List UInt8 × List UInt8) × Int × Bool × Int × Int × Int × Int × Bool × Int))))))).2).2).2).2)).bind fun r941 =>
          bif !r941 then some (.inr (.inr 19))
          else
          bif decide (i940 > 0) then
            bif idx (IntKind.i64.wrap (i940 - 1)) b0.2.length then
              bif idx i940 b0.2.length then
                bif !(Op.bytesLess ((b0.2.getD ((IntKind.i64.wrap (i940 - 1)).toNat) (([] : List UInt8), ((0 : Int), (([] : List UInt8), (([] : List UInt8), ([] : List (List (List UInt8 × List UInt8) × Int × Bool × Int × Int × Int × Int × Bool × Int))))))).1) ((b0.2.getD i940.toNat (([] : List UInt8), ((0 : Int), (([] : List UInt8), (([] : List UInt8), ([] : List (List (List UInt8 × List UInt8) × Int × Bool × Int × Int × Int × Int × Bool × Int))))))).1)) then
                  some (.inr (.inr 19))
                else some (.inl (IntKind.i64.wrap (i940 + 1)))
              else none
            else none
          else some (.inl (IntKind.i64.wrap (i940 + 1)))
        else none
      else some (.inr (.inl ()))) 0 : Option (Unit ⊕ Int))).bind fun e_ =>
  match e_ with
  | .inl _ =>
    bif decide ((b0.2.length : Int) > 30) then some 14
    else
    (polyglotref7_Points.f K b0.2).bind fun r942 =>
    bif decide (r942 > 120) then
      some 14
    else some 0
  | .inr t943 =>
    some t943
def polyglotref7_Check.sig : Sig := ⟨[(.agg (.pair .str (.sl (.pair .str (.pair (.int .i64) (.pair .str (.pair .str (.sl (.pair (.sl (.pair .str .str)) (.pair (.int .i64) (.pair .bool (.pair (.int .i64) (.pair (.int .i64) (.pair (.int .i64) (.pair (.int .i64) (.pair .bool (.int .i64)))))))))))))))))], [(.c (.int .i64))]⟩
noncomputable def polyglotref7_Check.con (K : Nat) : Con := (mkCon polyglotref7_Check.sig (fun x => polyglotref7_Check.f K x))
noncomputable def polyglotref7_Check.ht : HT := .seq .nil (.seq .nil (.seq (.seq .nil (.block (.loop ⟨2, [], [], ⟨[(3, .c (.v (.int .i64)))], []⟩, [(.exit 0, ⟨[], []⟩), (.ret, ⟨[(2, .c (.v (.int .i64)))], []⟩)]⟩ .nil))) .nil))
noncomputable def polyglotref7_Check.cx (K : Nat) : Cx := ⟨tt, [(72, polyglotref7_Tenant.con K), (73, polyglotref7_Family.con K), (74, polyglotref7_Points.con K)], [], K, inlOf tt [(72, polyglotref7_Tenant.con K), (73, polyglotref7_Family.con K), (74, polyglotref7_Points.con K)] [] K (getBody []) 0⟩
theorem polyglotref7_Check.eq (K : Nat) (x : PL polyglotref7_Check.sig.ps) : evalF (polyglotref7_Check.cx K) polyglotref7_Check.sig (bodyOf Tryz.f47) polyglotref7_Check.ht x = polyglotref7_Check.f K x := by kernel_rfl
theorem polyglotref7_Check.fok (K : Nat) : FOK Tryz.prog polyglotref7_Check.sig (fun x => polyglotref7_Check.f K x) 47 := fok_of_eval (tt := tt) (cons := [(72, polyglotref7_Tenant.con K), (73, polyglotref7_Family.con K), (74, polyglotref7_Points.con K)]) (exts := []) (bodies := (getBody [])) (K := K) (d := 0) ⟨ttok, (getCon_cons (polyglotref7_Tenant.ok K) (getCon_cons (polyglotref7_Family.ok K) (getCon_cons (polyglotref7_Points.ok K) (fun _ _ => getCon_nil)))), (fun _ _ => getExt_nil), (fun _ _ => getBody_nil)⟩ draw bok47 (polyglotref7_Check.eq K)
theorem polyglotref7_Check.ok (K : Nat) : ConOK Tryz.prog 47 (polyglotref7_Check.con K) := con_ok bok47 (polyglotref7_Check.fok K)

noncomputable def polyglotref12_IsProto.f (K : Nat) (proto0 : Int) : Option Bool :=
  bif decide (proto0 ≥ 1) then
    some (decide (proto0 ≤ 4))
  else some false
def polyglotref12_IsProto.sig : Sig := ⟨[(.c (.int .i64))], [(.c .bool)]⟩
noncomputable def polyglotref12_IsProto.con (K : Nat) : Con := (mkCon polyglotref12_IsProto.sig (fun x => polyglotref12_IsProto.f K x))
noncomputable def polyglotref12_IsProto.ht : HT := .nil
noncomputable def polyglotref12_IsProto.cx (K : Nat) : Cx := ⟨tt, [], [], K, inlOf tt [] [] K (getBody []) 0⟩
theorem polyglotref12_IsProto.eq (K : Nat) (x : PL polyglotref12_IsProto.sig.ps) : evalF (polyglotref12_IsProto.cx K) polyglotref12_IsProto.sig (bodyOf Tryz.f48) polyglotref12_IsProto.ht x = polyglotref12_IsProto.f K x := by kernel_rfl
theorem polyglotref12_IsProto.fok (K : Nat) : FOK Tryz.prog polyglotref12_IsProto.sig (fun x => polyglotref12_IsProto.f K x) 48 := fok_of_eval (tt := tt) (cons := []) (exts := []) (bodies := (getBody [])) (K := K) (d := 0) ⟨ttok, (fun _ _ => getCon_nil), (fun _ _ => getExt_nil), (fun _ _ => getBody_nil)⟩ draw bok48 (polyglotref12_IsProto.eq K)
theorem polyglotref12_IsProto.ok (K : Nat) : ConOK Tryz.prog 48 (polyglotref12_IsProto.con K) := con_ok bok48 (polyglotref12_IsProto.fok K)

noncomputable def polyglotref12_Kinds.f (K : Nat) (proto0 : Int) : Option (List Int) :=
  bif proto0 == 1 then some ([0, 1, 2, 3, 4] : List Int)
  else
  bif proto0 == 2 then some ([0, 1, 2] : List Int)
  else
  bif proto0 == 3 then some ([0] : List Int)
  else
  bif proto0 == 4 then
    some ([1, 2] : List Int)
  else some ([] : List Int)
def polyglotref12_Kinds.sig : Sig := ⟨[(.c (.int .i64))], [(.c (.sl (.int .i64)))]⟩
noncomputable def polyglotref12_Kinds.con (K : Nat) : Con := (mkCon polyglotref12_Kinds.sig (fun x => polyglotref12_Kinds.f K x))
noncomputable def polyglotref12_Kinds.ht : HT := .nil
noncomputable def polyglotref12_Kinds.cx (K : Nat) : Cx := ⟨tt, [], [], K, inlOf tt [] [] K (getBody []) 0⟩
theorem polyglotref12_Kinds.eq (K : Nat) (x : PL polyglotref12_Kinds.sig.ps) : evalF (polyglotref12_Kinds.cx K) polyglotref12_Kinds.sig (bodyOf Tryz.f75) polyglotref12_Kinds.ht x = polyglotref12_Kinds.f K x := by kernel_rfl
theorem polyglotref12_Kinds.fok (K : Nat) : FOK Tryz.prog polyglotref12_Kinds.sig (fun x => polyglotref12_Kinds.f K x) 75 := fok_of_eval (tt := tt) (cons := []) (exts := []) (bodies := (getBody [])) (K := K) (d := 0) ⟨ttok, (fun _ _ => getCon_nil), (fun _ _ => getExt_nil), (fun _ _ => getBody_nil)⟩ draw bok75 (polyglotref12_Kinds.eq K)
theorem polyglotref12_Kinds.ok (K : Nat) : ConOK Tryz.prog 75 (polyglotref12_Kinds.con K) := con_ok bok75 (polyglotref12_Kinds.fok K)

noncomputable def polyglotref12_letter.f (K : Nat) (c0 : Int) : Option Bool :=
  bif decide (c0 ≥ 97) then
    bif decide (c0 ≤ 122) then some true
    else
    bif decide (c0 ≥ 65) then
      some (decide (c0 ≤ 90))
    else some false
  else
  bif decide (c0 ≥ 65) then
    some (decide (c0 ≤ 90))
  else some false
def polyglotref12_letter.sig : Sig := ⟨[(.c (.int .u8))], [(.c .bool)]⟩
noncomputable def polyglotref12_letter.con (K : Nat) : Con := (mkCon polyglotref12_letter.sig (fun x => polyglotref12_letter.f K x))
noncomputable def polyglotref12_letter.ht : HT := .nil
noncomputable def polyglotref12_letter.cx (K : Nat) : Cx := ⟨tt, [], [], K, inlOf tt [] [] K (getBody []) 0⟩
theorem polyglotref12_letter.eq (K : Nat) (x : PL polyglotref12_letter.sig.ps) : evalF (polyglotref12_letter.cx K) polyglotref12_letter.sig (bodyOf Tryz.f106) polyglotref12_letter.ht x = polyglotref12_letter.f K x := by kernel_rfl
theorem polyglotref12_letter.fok (K : Nat) : FOK Tryz.prog polyglotref12_letter.sig (fun x => polyglotref12_letter.f K x) 106 := fok_of_eval (tt := tt) (cons := []) (exts := []) (bodies := (getBody [])) (K := K) (d := 0) ⟨ttok, (fun _ _ => getCon_nil), (fun _ _ => getExt_nil), (fun _ _ => getBody_nil)⟩ draw bok106 (polyglotref12_letter.eq K)
theorem polyglotref12_letter.ok (K : Nat) : ConOK Tryz.prog 106 (polyglotref12_letter.con K) := con_ok bok106 (polyglotref12_letter.fok K)

noncomputable def polyglotref12_digit.f (K : Nat) (c0 : Int) : Option Bool :=
  bif decide (c0 ≥ 48) then
    some (decide (c0 ≤ 57))
  else some false
def polyglotref12_digit.sig : Sig := ⟨[(.c (.int .u8))], [(.c .bool)]⟩
noncomputable def polyglotref12_digit.con (K : Nat) : Con := (mkCon polyglotref12_digit.sig (fun x => polyglotref12_digit.f K x))
noncomputable def polyglotref12_digit.ht : HT := .nil
noncomputable def polyglotref12_digit.cx (K : Nat) : Cx := ⟨tt, [], [], K, inlOf tt [] [] K (getBody []) 0⟩
theorem polyglotref12_digit.eq (K : Nat) (x : PL polyglotref12_digit.sig.ps) : evalF (polyglotref12_digit.cx K) polyglotref12_digit.sig (bodyOf Tryz.f107) polyglotref12_digit.ht x = polyglotref12_digit.f K x := by kernel_rfl
theorem polyglotref12_digit.fok (K : Nat) : FOK Tryz.prog polyglotref12_digit.sig (fun x => polyglotref12_digit.f K x) 107 := fok_of_eval (tt := tt) (cons := []) (exts := []) (bodies := (getBody [])) (K := K) (d := 0) ⟨ttok, (fun _ _ => getCon_nil), (fun _ _ => getExt_nil), (fun _ _ => getBody_nil)⟩ draw bok107 (polyglotref12_digit.eq K)
theorem polyglotref12_digit.ok (K : Nat) : ConOK Tryz.prog 107 (polyglotref12_digit.con K) := con_ok bok107 (polyglotref12_digit.fok K)

noncomputable def polyglotref12_Legal.f (K : Nat) (t0 : Int) (o1 : Int) (A2 : List UInt8) (r3 : Int) : Option Bool :=
  (((
      bif decide (r3 < 0) then some (.inr false)
      else
      bif decide (r3 ≥ (A2.length : Int)) then some (.inr false)
      else
      bif o1 != 0 then
        bif o1 != 1 then
          some (.inr false)
        else some (.inl ())
      else some (.inl ())) : Option (Unit ⊕ Bool))).bind fun e_ =>
  match e_ with
  | .inl _ =>
    bif idx r3 A2.length then
      bif t0 == 1 then
        (((
            (polyglotref12_letter.f K ((A2.getD r3.toNat 0).toNat : Int)).bind fun r945 =>
            bif r945 then some true
            else
            bif ((A2.getD r3.toNat 0).toNat : Int) == 95 then some true
            else
            bif decide (r3 > 0) then
              (polyglotref12_digit.f K ((A2.getD r3.toNat 0).toNat : Int)).bind fun r946 =>
              bif r946 then some true
              else
              bif o1 == 0 then
                some (((A2.getD r3.toNat 0).toNat : Int) == 58)
              else some false
            else
            bif o1 == 0 then
              some (((A2.getD r3.toNat 0).toNat : Int) == 58)
            else some false) : Option Bool)).bind fun t947 =>
        some t947
      else
      bif t0 == 2 then
        (((
            bif decide (((A2.getD r3.toNat 0).toNat : Int) ≥ 32) then
              bif decide (((A2.getD r3.toNat 0).toNat : Int) ≤ 126) then
                bif ((A2.getD r3.toNat 0).toNat : Int) != 92 then
                  bif r3 == 0 then
                    bif ((A2.getD r3.toNat 0).toNat : Int) == 35 then
                      some (!(o1 == 0))
                    else some true
                  else some true
                else some false
              else some false
            else some false) : Option Bool)).bind fun t948 =>
        some t948
      else
      bif t0 == 3 then
        bif ((A2.getD r3.toNat 0).toNat : Int) == 46 then
          (((
              bif o1 == 0 then
                bif decide (r3 > 0) then
                  bif decide (r3 < (IntKind.i64.wrap ((A2.length : Int) - 1))) then
                    bif idx (IntKind.i64.wrap (r3 - 1)) A2.length then
                      some (((A2.getD ((IntKind.i64.wrap (r3 - 1)).toNat) 0).toNat : Int) != 46)
                    else none
                  else some false
                else some false
              else some false) : Option Bool)).bind fun t949 =>
          some t949
        else
        (polyglotref12_letter.f K ((A2.getD r3.toNat 0).toNat : Int)).bind fun r950 =>
        bif r950 then some true
        else
        (polyglotref12_digit.f K ((A2.getD r3.toNat 0).toNat : Int)).bind fun r951 =>
        bif r951 then some true
        else
        bif ((A2.getD r3.toNat 0).toNat : Int) == 95 then some true
        else
        bif ((A2.getD r3.toNat 0).toNat : Int) == 45 then
          some true
        else some (((A2.getD r3.toNat 0).toNat : Int) == 58)
      else
      bif t0 == 4 then
        (polyglotref12_letter.f K ((A2.getD r3.toNat 0).toNat : Int)).bind fun r952 =>
        bif r952 then some true
        else
        (polyglotref12_digit.f K ((A2.getD r3.toNat 0).toNat : Int)).bind fun r953 =>
        bif r953 then some true
        else
        bif ((A2.getD r3.toNat 0).toNat : Int) == 95 then some true
        else
        bif ((A2.getD r3.toNat 0).toNat : Int) == 45 then
          some true
        else some (((A2.getD r3.toNat 0).toNat : Int) == 46)
      else some false
    else none
  | .inr t954 =>
    some t954
def polyglotref12_Legal.sig : Sig := ⟨[(.c (.int .i64)), (.c (.int .i64)), (.c .str), (.c (.int .i64))], [(.c .bool)]⟩
noncomputable def polyglotref12_Legal.con (K : Nat) : Con := (mkCon polyglotref12_Legal.sig (fun x => polyglotref12_Legal.f K x.1 x.2.1 x.2.2.1 x.2.2.2))
noncomputable def polyglotref12_Legal.ht : HT := .seq .nil (.join ⟨4, [], [], ⟨[], []⟩, [(.normal, ⟨[], []⟩), (.ret, ⟨[(8, .c (.v .bool))], []⟩)]⟩ (.seq .nil (.seq .nil (.seq (.seq .nil (.block (.seq .nil (.cond (.join ⟨0, [], [], ⟨[], []⟩, [(.normal, ⟨[(8, .c (.v .bool))], []⟩)]⟩ (.seq .nil .nil)) (.seq .nil (.cond (.join ⟨0, [], [], ⟨[], []⟩, [(.normal, ⟨[(8, .c (.v .bool))], []⟩)]⟩ (.seq .nil .nil)) (.seq .nil (.cond (.seq (.seq .nil (.cond (.join ⟨0, [], [], ⟨[], []⟩, [(.normal, ⟨[(8, .c (.v .bool))], []⟩)]⟩ (.seq .nil .nil)) .nil)) .nil) .nil)))))))) .nil))))
noncomputable def polyglotref12_Legal.cx (K : Nat) : Cx := ⟨tt, [(106, polyglotref12_letter.con K), (107, polyglotref12_digit.con K)], [], K, inlOf tt [(106, polyglotref12_letter.con K), (107, polyglotref12_digit.con K)] [] K (getBody []) 0⟩
theorem polyglotref12_Legal.eq (K : Nat) (x : PL polyglotref12_Legal.sig.ps) : evalF (polyglotref12_Legal.cx K) polyglotref12_Legal.sig (bodyOf Tryz.f136) polyglotref12_Legal.ht x = polyglotref12_Legal.f K x.1 x.2.1 x.2.2.1 x.2.2.2 := by kernel_rfl
theorem polyglotref12_Legal.fok (K : Nat) : FOK Tryz.prog polyglotref12_Legal.sig (fun x => polyglotref12_Legal.f K x.1 x.2.1 x.2.2.1 x.2.2.2) 136 := fok_of_eval (tt := tt) (cons := [(106, polyglotref12_letter.con K), (107, polyglotref12_digit.con K)]) (exts := []) (bodies := (getBody [])) (K := K) (d := 0) ⟨ttok, (getCon_cons (polyglotref12_letter.ok K) (getCon_cons (polyglotref12_digit.ok K) (fun _ _ => getCon_nil))), (fun _ _ => getExt_nil), (fun _ _ => getBody_nil)⟩ draw bok136 (polyglotref12_Legal.eq K)
theorem polyglotref12_Legal.ok (K : Nat) : ConOK Tryz.prog 136 (polyglotref12_Legal.con K) := con_ok bok136 (polyglotref12_Legal.fok K)

noncomputable def polyglotref12_Bad.f (K : Nat) (proto0 : Int) (what1 : Int) (s2 : List UInt8) : Option Int :=
  ((loopN K (fun (s_ : Int) =>
    match s_ with
    | i959 =>
      bif decide (i959 < (s2.length : Int)) then
        (polyglotref12_Legal.f K proto0 what1 s2 i959).bind fun r960 =>
        bif !r960 then
          some (.inr (.inr i959))
        else some (.inl (IntKind.i64.wrap (i959 + 1)))
      else some (.inr (.inl ()))) 0 : Option (Unit ⊕ Int))).bind fun e_ =>
  match e_ with
  | .inl _ =>
    some (-1)
  | .inr t961 =>
    some t961
def polyglotref12_Bad.sig : Sig := ⟨[(.c (.int .i64)), (.c (.int .i64)), (.c .str)], [(.c (.int .i64))]⟩
noncomputable def polyglotref12_Bad.con (K : Nat) : Con := (mkCon polyglotref12_Bad.sig (fun x => polyglotref12_Bad.f K x.1 x.2.1 x.2.2))
noncomputable def polyglotref12_Bad.ht : HT := .seq .nil (.seq (.seq .nil (.block (.loop ⟨3, [], [], ⟨[(7, .c (.v (.int .i64)))], []⟩, [(.exit 0, ⟨[], []⟩), (.ret, ⟨[(6, .c (.v (.int .i64)))], []⟩)]⟩ .nil))) .nil)
noncomputable def polyglotref12_Bad.cx (K : Nat) : Cx := ⟨tt, [(136, polyglotref12_Legal.con K)], [], K, inlOf tt [(136, polyglotref12_Legal.con K)] [] K (getBody []) 0⟩
theorem polyglotref12_Bad.eq (K : Nat) (x : PL polyglotref12_Bad.sig.ps) : evalF (polyglotref12_Bad.cx K) polyglotref12_Bad.sig (bodyOf Tryz.f105) polyglotref12_Bad.ht x = polyglotref12_Bad.f K x.1 x.2.1 x.2.2 := by kernel_rfl
theorem polyglotref12_Bad.fok (K : Nat) : FOK Tryz.prog polyglotref12_Bad.sig (fun x => polyglotref12_Bad.f K x.1 x.2.1 x.2.2) 105 := fok_of_eval (tt := tt) (cons := [(136, polyglotref12_Legal.con K)]) (exts := []) (bodies := (getBody [])) (K := K) (d := 0) ⟨ttok, (getCon_cons (polyglotref12_Legal.ok K) (fun _ _ => getCon_nil)), (fun _ _ => getExt_nil), (fun _ _ => getBody_nil)⟩ draw bok105 (polyglotref12_Bad.eq K)
theorem polyglotref12_Bad.ok (K : Nat) : ConOK Tryz.prog 105 (polyglotref12_Bad.con K) := con_ok bok105 (polyglotref12_Bad.fok K)

noncomputable def polyglotref12_Is.f (K : Nat) (proto0 : Int) (what1 : Int) (s2 : List UInt8) : Option Bool :=
  bif decide ((s2.length : Int) ≥ 1) then
    bif decide ((s2.length : Int) ≤ 60) then
      bif decide (proto0 ≥ 1) then
        bif decide (proto0 ≤ 4) then
          bif what1 == 0 then
            (polyglotref12_Bad.f K proto0 what1 s2).bind fun r962 =>
            some (decide (r962 < 0))
          else
          bif what1 == 1 then
            (polyglotref12_Bad.f K proto0 what1 s2).bind fun r963 =>
            some (decide (r963 < 0))
          else some false
        else some false
      else some false
    else some false
  else some false
def polyglotref12_Is.sig : Sig := ⟨[(.c (.int .i64)), (.c (.int .i64)), (.c .str)], [(.c .bool)]⟩
noncomputable def polyglotref12_Is.con (K : Nat) : Con := (mkCon polyglotref12_Is.sig (fun x => polyglotref12_Is.f K x.1 x.2.1 x.2.2))
noncomputable def polyglotref12_Is.ht : HT := .nil
noncomputable def polyglotref12_Is.cx (K : Nat) : Cx := ⟨tt, [(105, polyglotref12_Bad.con K)], [], K, inlOf tt [(105, polyglotref12_Bad.con K)] [] K (getBody []) 0⟩
theorem polyglotref12_Is.eq (K : Nat) (x : PL polyglotref12_Is.sig.ps) : evalF (polyglotref12_Is.cx K) polyglotref12_Is.sig (bodyOf Tryz.f76) polyglotref12_Is.ht x = polyglotref12_Is.f K x.1 x.2.1 x.2.2 := by kernel_rfl
theorem polyglotref12_Is.fok (K : Nat) : FOK Tryz.prog polyglotref12_Is.sig (fun x => polyglotref12_Is.f K x.1 x.2.1 x.2.2) 76 := fok_of_eval (tt := tt) (cons := [(105, polyglotref12_Bad.con K)]) (exts := []) (bodies := (getBody [])) (K := K) (d := 0) ⟨ttok, (getCon_cons (polyglotref12_Bad.ok K) (fun _ _ => getCon_nil)), (fun _ _ => getExt_nil), (fun _ _ => getBody_nil)⟩ draw bok76 (polyglotref12_Is.eq K)
theorem polyglotref12_Is.ok (K : Nat) : ConOK Tryz.prog 76 (polyglotref12_Is.con K) := con_ok bok76 (polyglotref12_Is.fok K)

noncomputable def polyglotref12_unit.f (K : Nat) (h0 : List UInt8 × Int × List UInt8 × List UInt8) : Option Bool :=
  ((loopN K (fun (s_ : Int) =>
    match s_ with
    | i976 =>
      bif decide (i976 < (h0.2.2.1.length : Int)) then
        bif idx i976 h0.2.2.1.length then
          (((
              (polyglotref12_letter.f K ((h0.2.2.1.getD i976.toNat 0).toNat : Int)).bind fun r979 =>
              bif !r979 then
                (polyglotref12_digit.f K ((h0.2.2.1.getD i976.toNat 0).toNat : Int)).bind fun r980 =>
                bif !r980 then
                  bif ((h0.2.2.1.getD i976.toNat 0).toNat : Int) != 95 then
                    some (((h0.2.2.1.getD i976.toNat 0).toNat : Int) != 58)
                  else some false
                else some false
              else some false) : Option Bool)).bind fun t981 =>
          bif t981 then
            some (.inr (.inr false))
          else some (.inl (IntKind.i64.wrap (i976 + 1)))
        else none
      else some (.inr (.inl ()))) 0 : Option (Unit ⊕ Bool))).bind fun e_ =>
  match e_ with
  | .inl _ =>
    bif h0.2.2.1 == ([] : List UInt8) then some true
    else
    bif decide ((IntKind.i64.wrap ((h0.1.length : Int) - (h0.2.2.1.length : Int))) ≥ 1) then
      bif idx (IntKind.i64.wrap ((IntKind.i64.wrap ((h0.1.length : Int) - (h0.2.2.1.length : Int))) - 1)) h0.1.length then
        bif ((h0.1.getD ((IntKind.i64.wrap ((IntKind.i64.wrap ((h0.1.length : Int) - (h0.2.2.1.length : Int))) - 1)).toNat) 0).toNat : Int) == 95 then
          bif (decide (0 ≤ (IntKind.i64.wrap ((h0.1.length : Int) - (h0.2.2.1.length : Int))))) && (decide ((IntKind.i64.wrap ((h0.1.length : Int) - (h0.2.2.1.length : Int))) ≤ (h0.1.length : Int))) then
            some (((h0.1.take h0.1.length).drop ((IntKind.i64.wrap ((h0.1.length : Int) - (h0.2.2.1.length : Int))).toNat)) == h0.2.2.1)
          else none
        else some false
      else none
    else some false
  | .inr t982 =>
    some t982
def polyglotref12_unit.sig : Sig := ⟨[(.agg (.pair .str (.pair (.int .i64) (.pair .str .str))))], [(.c .bool)]⟩
noncomputable def polyglotref12_unit.con (K : Nat) : Con := (mkCon polyglotref12_unit.sig (fun x => polyglotref12_unit.f K x))
noncomputable def polyglotref12_unit.ht : HT := .seq .nil (.seq (.seq .nil (.block (.loop ⟨2, [], [], ⟨[(3, .c (.v (.int .i64)))], []⟩, [(.exit 0, ⟨[], []⟩), (.ret, ⟨[(2, .c (.v .bool))], []⟩)]⟩ (.seq .nil (.seq (.block (.seq .nil (.join ⟨4, [], [], ⟨[], []⟩, [(.normal, ⟨[(32, .c (.v .bool))], []⟩)]⟩ (.seq .nil .nil)))) .nil))))) .nil)
noncomputable def polyglotref12_unit.cx (K : Nat) : Cx := ⟨tt, [(106, polyglotref12_letter.con K), (107, polyglotref12_digit.con K)], [], K, inlOf tt [(106, polyglotref12_letter.con K), (107, polyglotref12_digit.con K)] [] K (getBody []) 0⟩
theorem polyglotref12_unit.eq (K : Nat) (x : PL polyglotref12_unit.sig.ps) : evalF (polyglotref12_unit.cx K) polyglotref12_unit.sig (bodyOf Tryz.f77) polyglotref12_unit.ht x = polyglotref12_unit.f K x := by kernel_rfl
theorem polyglotref12_unit.fok (K : Nat) : FOK Tryz.prog polyglotref12_unit.sig (fun x => polyglotref12_unit.f K x) 77 := fok_of_eval (tt := tt) (cons := [(106, polyglotref12_letter.con K), (107, polyglotref12_digit.con K)]) (exts := []) (bodies := (getBody [])) (K := K) (d := 0) ⟨ttok, (getCon_cons (polyglotref12_letter.ok K) (getCon_cons (polyglotref12_digit.ok K) (fun _ _ => getCon_nil))), (fun _ _ => getExt_nil), (fun _ _ => getBody_nil)⟩ draw bok77 (polyglotref12_unit.eq K)
theorem polyglotref12_unit.ok (K : Nat) : ConOK Tryz.prog 77 (polyglotref12_unit.con K) := con_ok bok77 (polyglotref12_unit.fok K)

noncomputable def polyglotref12_Value.f (K : Nat) (proto0 : Int) (v1 : List UInt8) : Option Bool :=
  bif proto0 == 1 then
    (polyglotref7_Value.f K v1).bind fun r983 =>
    some r983
  else
  (((
      (polyglotref12_IsProto.f K proto0).bind fun r985 =>
      bif !r985 then some true
      else
      bif decide ((v1.length : Int) < 1) then
        some true
      else some (decide ((v1.length : Int) > 60))) : Option Bool)).bind fun t986 =>
  bif t986 then some false
  else
  ((loopN K (fun (s_ : Int) =>
    match s_ with
    | i1005 =>
      bif decide (i1005 < (v1.length : Int)) then
        (((
            bif idx i1005 v1.length then
              (((
                  bif proto0 == 2 then
                    bif decide (((v1.getD i1005.toNat 0).toNat : Int) < 32) then some true
                    else
                    bif ((v1.getD i1005.toNat 0).toNat : Int) == 127 then
                      some true
                    else some (((v1.getD i1005.toNat 0).toNat : Int) == 92)
                  else some false) : Option Bool)).bind fun t1010 =>
              bif t1010 then some (.inr false)
              else
              (((
                  bif proto0 != 2 then
                    bif decide (((v1.getD i1005.toNat 0).toNat : Int) < 33) then
                      some true
                    else some (decide (((v1.getD i1005.toNat 0).toNat : Int) > 126))
                  else some false) : Option Bool)).bind fun t1011 =>
              bif t1011 then some (.inr false)
              else
              (((
                  bif proto0 == 3 then
                    bif ((v1.getD i1005.toNat 0).toNat : Int) == 59 then some true
                    else
                    bif proto0 == 4 then
                      bif ((v1.getD i1005.toNat 0).toNat : Int) == 44 then
                        some true
                      else some (((v1.getD i1005.toNat 0).toNat : Int) == 124)
                    else some false
                  else
                  bif proto0 == 4 then
                    bif ((v1.getD i1005.toNat 0).toNat : Int) == 44 then
                      some true
                    else some (((v1.getD i1005.toNat 0).toNat : Int) == 124)
                  else some false) : Option Bool)).bind fun t1012 =>
              bif t1012 then
                some (.inr false)
              else some (.inl ())
            else none) : Option (Unit ⊕ Bool))).bind fun e_ =>
        match e_ with
        | .inl _ =>
          some (.inl (IntKind.i64.wrap (i1005 + 1)))
        | .inr t1013 =>
          some (.inr (.inr t1013))
      else some (.inr (.inl ()))) 0 : Option (Unit ⊕ Bool))).bind fun e_ =>
  match e_ with
  | .inl _ =>
    (polyglotref1_Bad.f K v1).bind fun r1014 =>
    some (decide (r1014 < 0))
  | .inr t1015 =>
    some t1015
def polyglotref12_Value.sig : Sig := ⟨[(.c (.int .i64)), (.c .str)], [(.c .bool)]⟩
noncomputable def polyglotref12_Value.con (K : Nat) : Con := (mkCon polyglotref12_Value.sig (fun x => polyglotref12_Value.f K x.1 x.2))
noncomputable def polyglotref12_Value.ht : HT := .seq .nil (.seq .nil (.seq (.join ⟨5, [], [], ⟨[], []⟩, [(.normal, ⟨[(23, .c (.v .bool))], []⟩)]⟩ (.seq .nil .nil)) (.seq (.seq .nil (.block (.loop ⟨2, [], [], ⟨[(5, .c (.v (.int .i64)))], []⟩, [(.exit 0, ⟨[], []⟩), (.ret, ⟨[(4, .c (.v .bool))], []⟩)]⟩ (.seq .nil (.join ⟨6, [4], [], ⟨[], []⟩, [(.normal, ⟨[], []⟩), (.ret, ⟨[(4, .c (.v .bool))], []⟩)]⟩ (.seq (.block (.seq .nil (.block (.join ⟨7, [], [], ⟨[], []⟩, [(.normal, ⟨[(33, .c (.v .bool))], []⟩)]⟩ (.seq .nil (.cond .nil (.join ⟨7, [], [], ⟨[], []⟩, [(.normal, ⟨[(48, .c (.v .bool))], []⟩)]⟩ (.seq .nil (.cond .nil (.join ⟨6, [], [], ⟨[], []⟩, [(.normal, ⟨[(59, .c (.v .bool))], []⟩)]⟩ (.seq .nil .nil))))))))))) .nil)))))) .nil)))
noncomputable def polyglotref12_Value.cx (K : Nat) : Cx := ⟨tt, [(102, polyglotref7_Value.con K), (48, polyglotref12_IsProto.con K), (128, polyglotref1_Bad.con K)], [], K, inlOf tt [(102, polyglotref7_Value.con K), (48, polyglotref12_IsProto.con K), (128, polyglotref1_Bad.con K)] [] K (getBody []) 0⟩
theorem polyglotref12_Value.eq (K : Nat) (x : PL polyglotref12_Value.sig.ps) : evalF (polyglotref12_Value.cx K) polyglotref12_Value.sig (bodyOf Tryz.f108) polyglotref12_Value.ht x = polyglotref12_Value.f K x.1 x.2 := by kernel_rfl
theorem polyglotref12_Value.fok (K : Nat) : FOK Tryz.prog polyglotref12_Value.sig (fun x => polyglotref12_Value.f K x.1 x.2) 108 := fok_of_eval (tt := tt) (cons := [(102, polyglotref7_Value.con K), (48, polyglotref12_IsProto.con K), (128, polyglotref1_Bad.con K)]) (exts := []) (bodies := (getBody [])) (K := K) (d := 0) ⟨ttok, (getCon_cons (polyglotref7_Value.ok K) (getCon_cons (polyglotref12_IsProto.ok K) (getCon_cons (polyglotref1_Bad.ok K) (fun _ _ => getCon_nil)))), (fun _ _ => getExt_nil), (fun _ _ => getBody_nil)⟩ draw bok108 (polyglotref12_Value.eq K)
theorem polyglotref12_Value.ok (K : Nat) : ConOK Tryz.prog 108 (polyglotref12_Value.con K) := con_ok bok108 (polyglotref12_Value.fok K)

noncomputable def polyglotref12_labels.f (K : Nat) (proto0 : Int) (l1 : List (List UInt8 × List UInt8)) (values2 : Bool) : Option Bool :=
  ((loopN K (fun (s_ : Int) =>
    match s_ with
    | n1021 =>
      bif decide (n1021 < (l1.length : Int)) then
        bif idx n1021 l1.length then
          (polyglotref12_Is.f K proto0 1 ((l1.getD n1021.toNat (([] : List UInt8), ([] : List UInt8))).1)).bind fun r1022 =>
          bif !r1022 then some (.inr (.inr false))
          else
          bif values2 then
            bif idx n1021 l1.length then
              (polyglotref12_Value.f K proto0 ((l1.getD n1021.toNat (([] : List UInt8), ([] : List UInt8))).2)).bind fun r1023 =>
              bif !r1023 then
                some (.inr (.inr false))
              else some (.inl (IntKind.i64.wrap (n1021 + 1)))
            else none
          else some (.inl (IntKind.i64.wrap (n1021 + 1)))
        else none
      else some (.inr (.inl ()))) 0 : Option (Unit ⊕ Bool))).bind fun e_ =>
  match e_ with
  | .inl _ =>
    some true
  | .inr t1024 =>
    some t1024
def polyglotref12_labels.sig : Sig := ⟨[(.c (.int .i64)), (.c (.sl (.pair .str .str))), (.c .bool)], [(.c .bool)]⟩
noncomputable def polyglotref12_labels.con (K : Nat) : Con := (mkCon polyglotref12_labels.sig (fun x => polyglotref12_labels.f K x.1 x.2.1 x.2.2))
noncomputable def polyglotref12_labels.ht : HT := .seq .nil (.seq (.seq .nil (.block (.loop ⟨3, [], [], ⟨[(7, .c (.v (.int .i64)))], []⟩, [(.exit 0, ⟨[], []⟩), (.ret, ⟨[(6, .c (.v .bool))], []⟩)]⟩ .nil))) .nil)
noncomputable def polyglotref12_labels.cx (K : Nat) : Cx := ⟨tt, [(76, polyglotref12_Is.con K), (108, polyglotref12_Value.con K)], [], K, inlOf tt [(76, polyglotref12_Is.con K), (108, polyglotref12_Value.con K)] [] K (getBody []) 0⟩
theorem polyglotref12_labels.eq (K : Nat) (x : PL polyglotref12_labels.sig.ps) : evalF (polyglotref12_labels.cx K) polyglotref12_labels.sig (bodyOf Tryz.f78) polyglotref12_labels.ht x = polyglotref12_labels.f K x.1 x.2.1 x.2.2 := by kernel_rfl
theorem polyglotref12_labels.fok (K : Nat) : FOK Tryz.prog polyglotref12_labels.sig (fun x => polyglotref12_labels.f K x.1 x.2.1 x.2.2) 78 := fok_of_eval (tt := tt) (cons := [(76, polyglotref12_Is.con K), (108, polyglotref12_Value.con K)]) (exts := []) (bodies := (getBody [])) (K := K) (d := 0) ⟨ttok, (getCon_cons (polyglotref12_Is.ok K) (getCon_cons (polyglotref12_Value.ok K) (fun _ _ => getCon_nil))), (fun _ _ => getExt_nil), (fun _ _ => getBody_nil)⟩ draw bok78 (polyglotref12_labels.eq K)
theorem polyglotref12_labels.ok (K : Nat) : ConOK Tryz.prog 78 (polyglotref12_labels.con K) := con_ok bok78 (polyglotref12_labels.fok K)

noncomputable def polyglotref12_family.f (K : Nat) (proto0 : Int) (f1 : List UInt8 × Int × List UInt8 × List UInt8 × List (List (List UInt8 × List UInt8) × Int × Bool × Int × Int × Int × Int × Bool × Int)) : Option Bool :=
  (polyglotref12_Kinds.f K proto0).bind fun r1025 =>
  ((loopN K (fun (s_ : Bool × Int) =>
    match s_ with
    | (in1028, t1029) =>
      bif decide (t1029 < (r1025.length : Int)) then
        bif idx t1029 r1025.length then
          bif in1028 then
            some (.inl (true, IntKind.i64.wrap (t1029 + 1)))
          else some (.inl ((r1025.getD t1029.toNat (0 : Int)) == f1.2.1, IntKind.i64.wrap (t1029 + 1)))
        else none
      else some (.inr in1028)) (false, 0) : Option Bool)).bind fun in1030 =>
  (((
      (((
          bif !in1030 then some true
          else
          (polyglotref12_Is.f K proto0 0 f1.1).bind fun r1037 =>
          bif !r1037 then some true
          else
          bif proto0 == 1 then
            (polyglotref12_unit.f K (f1.1, f1.2.1, f1.2.2.1, f1.2.2.2.1)).bind fun r1038 =>
            bif !r1038 then some true
            else
            bif proto0 != 1 then
              bif !(f1.2.2.1 == ([] : List UInt8)) then some true
              else
              bif !(f1.2.2.2.1 == ([] : List UInt8)) then
                some true
              else some ((f1.2.2.2.2.length : Int) == 0)
            else some false
          else
          bif proto0 != 1 then
            bif !(f1.2.2.1 == ([] : List UInt8)) then some true
            else
            bif !(f1.2.2.2.1 == ([] : List UInt8)) then
              some true
            else some ((f1.2.2.2.2.length : Int) == 0)
          else some false) : Option Bool)).bind fun t1039 =>
      bif t1039 then
        some (.inr false)
      else some (.inl ())) : Option (Unit ⊕ Bool))).bind fun e_ =>
  match e_ with
  | .inl _ =>
    ((loopN K (fun (s_ : Int) =>
      match s_ with
      | k1048 =>
        bif decide (k1048 < (f1.2.2.2.2.length : Int)) then
          bif idx k1048 f1.2.2.2.2.length then
            (((
                (polyglotref12_labels.f K proto0 ((f1.2.2.2.2.getD k1048.toNat (([] : List (List UInt8 × List UInt8)), ((0 : Int), (false, ((0 : Int), ((0 : Int), ((0 : Int), ((0 : Int), (false, (0 : Int)))))))))).1) true).bind fun r1050 =>
                bif !r1050 then some true
                else
                bif proto0 == 3 then
                  bif !(((((((((f1.2.2.2.2.getD k1048.toNat (([] : List (List UInt8 × List UInt8)), ((0 : Int), (false, ((0 : Int), ((0 : Int), ((0 : Int), ((0 : Int), (false, (0 : Int)))))))))).2).2).2).2).2).2).2).1) then some true
                  else
                  bif (Int.tmod (((((((((f1.2.2.2.2.getD k1048.toNat (([] : List (List UInt8 × List UInt8)), ((0 : Int), (false, ((0 : Int), ((0 : Int), ((0 : Int), ((0 : Int), (false, (0 : Int)))))))))).2).2).2).2).2).2).2).2) 1000) != 0 then some true
                  else
                  bif proto0 == 4 then
                    bif ((((((((f1.2.2.2.2.getD k1048.toNat (([] : List (List UInt8 × List UInt8)), ((0 : Int), (false, ((0 : Int), ((0 : Int), ((0 : Int), ((0 : Int), (false, (0 : Int)))))))))).2).2).2).2).2).2).2).1 then
                      some true
                    else some (decide ((((((((f1.2.2.2.2.getD k1048.toNat (([] : List (List UInt8 × List UInt8)), ((0 : Int), (false, ((0 : Int), ((0 : Int), ((0 : Int), ((0 : Int), (false, (0 : Int)))))))))).2).2).2).2).2).1) < 0))
                  else some false
                else
                bif proto0 == 4 then
                  bif ((((((((f1.2.2.2.2.getD k1048.toNat (([] : List (List UInt8 × List UInt8)), ((0 : Int), (false, ((0 : Int), ((0 : Int), ((0 : Int), ((0 : Int), (false, (0 : Int)))))))))).2).2).2).2).2).2).2).1 then
                    some true
                  else some (decide ((((((((f1.2.2.2.2.getD k1048.toNat (([] : List (List UInt8 × List UInt8)), ((0 : Int), (false, ((0 : Int), ((0 : Int), ((0 : Int), ((0 : Int), (false, (0 : Int)))))))))).2).2).2).2).2).1) < 0))
                else some false) : Option Bool)).bind fun t1051 =>
            bif t1051 then
              some (.inr (.inr false))
            else some (.inl (IntKind.i64.wrap (k1048 + 1)))
          else none
        else some (.inr (.inl ()))) 0 : Option (Unit ⊕ Bool))).bind fun e_ =>
    match e_ with
    | .inl _ =>
      some true
    | .inr t1052 =>
      some t1052
  | .inr t1053 =>
    some t1053
def polyglotref12_family.sig : Sig := ⟨[(.c (.int .i64)), (.agg (.pair .str (.pair (.int .i64) (.pair .str (.pair .str (.sl (.pair (.sl (.pair .str .str)) (.pair (.int .i64) (.pair .bool (.pair (.int .i64) (.pair (.int .i64) (.pair (.int .i64) (.pair (.int .i64) (.pair .bool (.int .i64)))))))))))))))], [(.c .bool)]⟩
noncomputable def polyglotref12_family.con (K : Nat) : Con := (mkCon polyglotref12_family.sig (fun x => polyglotref12_family.f K x.1 x.2))
noncomputable def polyglotref12_family.ht : HT := .seq .nil (.seq .nil (.seq (.seq .nil (.block (.loop ⟨13, [5, 7], [], ⟨[(5, .c (.v .bool)), (13, .c (.v (.int .i64)))], []⟩, [(.exit 0, ⟨[(5, .c (.v .bool))], []⟩)]⟩ .nil))) (.join ⟨4, [], [], ⟨[], []⟩, [(.normal, ⟨[], []⟩), (.ret, ⟨[(4, .c (.v .bool))], []⟩)]⟩ (.seq (.join ⟨5, [], [], ⟨[], []⟩, [(.normal, ⟨[(67, .c (.v .bool))], []⟩)]⟩ (.seq .nil .nil)) (.seq (.seq .nil (.block (.loop ⟨4, [], [], ⟨[(8, .c (.v (.int .i64)))], []⟩, [(.exit 2, ⟨[], []⟩), (.ret, ⟨[(4, .c (.v .bool))], []⟩)]⟩ (.seq .nil (.seq (.block (.seq .nil (.join ⟨9, [], [], ⟨[], []⟩, [(.normal, ⟨[(113, .c (.v .bool))], []⟩)]⟩ (.seq .nil .nil)))) .nil))))) .nil)))))
noncomputable def polyglotref12_family.cx (K : Nat) : Cx := ⟨tt, [(75, polyglotref12_Kinds.con K), (76, polyglotref12_Is.con K), (77, polyglotref12_unit.con K), (78, polyglotref12_labels.con K)], [], K, inlOf tt [(75, polyglotref12_Kinds.con K), (76, polyglotref12_Is.con K), (77, polyglotref12_unit.con K), (78, polyglotref12_labels.con K)] [] K (getBody []) 0⟩
theorem polyglotref12_family.eq (K : Nat) (x : PL polyglotref12_family.sig.ps) : evalF (polyglotref12_family.cx K) polyglotref12_family.sig (bodyOf Tryz.f49) polyglotref12_family.ht x = polyglotref12_family.f K x.1 x.2 := by kernel_rfl
theorem polyglotref12_family.fok (K : Nat) : FOK Tryz.prog polyglotref12_family.sig (fun x => polyglotref12_family.f K x.1 x.2) 49 := fok_of_eval (tt := tt) (cons := [(75, polyglotref12_Kinds.con K), (76, polyglotref12_Is.con K), (77, polyglotref12_unit.con K), (78, polyglotref12_labels.con K)]) (exts := []) (bodies := (getBody [])) (K := K) (d := 0) ⟨ttok, (getCon_cons (polyglotref12_Kinds.ok K) (getCon_cons (polyglotref12_Is.ok K) (getCon_cons (polyglotref12_unit.ok K) (getCon_cons (polyglotref12_labels.ok K) (fun _ _ => getCon_nil))))), (fun _ _ => getExt_nil), (fun _ _ => getBody_nil)⟩ draw bok49 (polyglotref12_family.eq K)
theorem polyglotref12_family.ok (K : Nat) : ConOK Tryz.prog 49 (polyglotref12_family.con K) := con_ok bok49 (polyglotref12_family.fok K)

end Go.Proofs.YtekeaempemiciaaGreatDoor
