/- What each function of the program comes to, and that it does, part 4. -/
import Derived.Test.YtekeaempemiciaaGreatDoorFnC
import Derived.KernelRfl
set_option linter.unusedVariables false
namespace Go.Proofs.YtekeaempemiciaaGreatDoor
open Go Go.Rf Go.Proofs Go.RowKit

noncomputable def polyglotlaw22_known.f (K : Nat) : Option Bool :=
  (lineprint_Print.f K (([116] : List UInt8), ([(([97, 32, 98] : List UInt8), 1, ([] : List UInt8), ([] : List UInt8), ([(([(([99, 44] : List UInt8), ([100, 61] : List UInt8))] : List (List UInt8 × List UInt8)), (0 : Int), false, (0 : Int), (0 : Int), 15, 1, true, 1500)] : List (List (List UInt8 × List UInt8) × Int × Bool × Int × Int × Int × Int × Bool × Int)))] : List (List UInt8 × Int × List UInt8 × List UInt8 × List (List (List UInt8 × List UInt8) × Int × Bool × Int × Int × Int × Int × Bool × Int)))) 1).bind fun (r694, r695) =>
  (lineprint_Print.f K (([116] : List UInt8), ([(([97, 32, 98] : List UInt8), 1, ([] : List UInt8), ([] : List UInt8), ([(([(([99, 44] : List UInt8), ([100, 61] : List UInt8))] : List (List UInt8 × List UInt8)), (0 : Int), false, (0 : Int), (0 : Int), 15, 1, true, 1500)] : List (List (List UInt8 × List UInt8) × Int × Bool × Int × Int × Int × Int × Bool × Int)))] : List (List UInt8 × Int × List UInt8 × List UInt8 × List (List (List UInt8 × List UInt8) × Int × Bool × Int × Int × Int × Int × Bool × Int)))) 0).bind fun (r696, r697) =>
  (lineprint_Print.f K (([116] : List UInt8), ([] : List (List UInt8 × Int × List UInt8 × List UInt8 × List (List (List UInt8 × List UInt8) × Int × Bool × Int × Int × Int × Int × Bool × Int)))) 0).bind fun (r698, r699) =>
  (lineprint_Print.f K (([] : List UInt8), ([] : List (List UInt8 × Int × List UInt8 × List UInt8 × List (List (List UInt8 × List UInt8) × Int × Bool × Int × Int × Int × Int × Bool × Int)))) 0).bind fun (r700, r701) =>
  bif r695 == 0 then
    bif r694 == ([97, 92, 32, 98, 44, 99, 92, 44, 61, 100, 92, 61, 32, 103, 97, 117, 103, 101, 61, 49, 46, 53, 32, 49, 53, 48, 48, 10] : List UInt8) then
      bif r697 == 15 then
        bif r698 == ([] : List UInt8) then
          bif r699 == 0 then
            bif r701 == 15 then
              (lineprint_Field.f K 2).bind fun r702 =>
              bif r702 == ([99, 111, 117, 110, 116, 101, 114] : List UInt8) then
                (lineprint_Field.f K 4).bind fun r703 =>
                some (r703 == ([] : List UInt8))
              else some false
            else some false
          else some false
        else some false
      else some false
    else some false
  else some false
def polyglotlaw22_known.sig : Sig := ⟨[], [(.c .bool)]⟩
noncomputable def polyglotlaw22_known.con (K : Nat) : Con := (mkCon polyglotlaw22_known.sig (fun _ => polyglotlaw22_known.f K))
noncomputable def polyglotlaw22_known.ht : HT := .nil
noncomputable def polyglotlaw22_known.cx (K : Nat) : Cx := ⟨tt, [(7, lineprint_Print.con K), (9, lineprint_Field.con K)], [], K, inlOf tt [(7, lineprint_Print.con K), (9, lineprint_Field.con K)] [] K (getBody []) 0⟩
theorem polyglotlaw22_known.eq (K : Nat) (x : PL polyglotlaw22_known.sig.ps) : evalF (polyglotlaw22_known.cx K) polyglotlaw22_known.sig (bodyOf Tryz.f5) polyglotlaw22_known.ht x = polyglotlaw22_known.f K := by kernel_rfl
theorem polyglotlaw22_known.fok (K : Nat) : FOK Tryz.prog polyglotlaw22_known.sig (fun _ => polyglotlaw22_known.f K) 5 := fok_of_eval (tt := tt) (cons := [(7, lineprint_Print.con K), (9, lineprint_Field.con K)]) (exts := []) (bodies := (getBody [])) (K := K) (d := 0) ⟨ttok, (getCon_cons (lineprint_Print.ok K) (getCon_cons (lineprint_Field.ok K) (fun _ _ => getCon_nil))), (fun _ _ => getExt_nil), (fun _ _ => getBody_nil)⟩ draw bok5 (polyglotlaw22_known.eq K)
theorem polyglotlaw22_known.ok (K : Nat) : ConOK Tryz.prog 5 (polyglotlaw22_known.con K) := con_ok bok5 (polyglotlaw22_known.fok K)

noncomputable def polyglothelp_Wide.f (K : Nat) (b0 : List UInt8 × List (List UInt8 × Int × List UInt8 × List UInt8 × List (List (List UInt8 × List UInt8) × Int × Bool × Int × Int × Int × Int × Bool × Int))) : Option Bool :=
  (((
      bif decide ((b0.2.length : Int) > 40) then
        some true
      else some (decide ((b0.1.length : Int) > 100))) : Option Bool)).bind fun t704 =>
  bif t704 then some true
  else
  ((loopN K (fun (s_ : Int × Int) =>
    match s_ with
    | (n723, i724) =>
      bif decide (i724 < (b0.2.length : Int)) then
        bif idx i724 b0.2.length then
          (((
              bif decide ((IntKind.i64.wrap (n723 + ((((((b0.2.getD i724.toNat (([] : List UInt8), ((0 : Int), (([] : List UInt8), (([] : List UInt8), ([] : List (List (List UInt8 × List UInt8) × Int × Bool × Int × Int × Int × Int × Bool × Int))))))).2).2).2).2).length : Int))) > 130) then some true
              else
              bif decide (((((((b0.2.getD i724.toNat (([] : List UInt8), ((0 : Int), (([] : List UInt8), (([] : List UInt8), ([] : List (List (List UInt8 × List UInt8) × Int × Bool × Int × Int × Int × Int × Bool × Int))))))).2).2).2).2).length : Int) > 130) then some true
              else
              bif decide ((((b0.2.getD i724.toNat (([] : List UInt8), ((0 : Int), (([] : List UInt8), (([] : List UInt8), ([] : List (List (List UInt8 × List UInt8) × Int × Bool × Int × Int × Int × Int × Bool × Int))))))).1).length : Int) > 100) then some true
              else
              bif decide ((((((b0.2.getD i724.toNat (([] : List UInt8), ((0 : Int), (([] : List UInt8), (([] : List UInt8), ([] : List (List (List UInt8 × List UInt8) × Int × Bool × Int × Int × Int × Int × Bool × Int))))))).2).2).1).length : Int) > 100) then
                some true
              else some (decide (((((((b0.2.getD i724.toNat (([] : List UInt8), ((0 : Int), (([] : List UInt8), (([] : List UInt8), ([] : List (List (List UInt8 × List UInt8) × Int × Bool × Int × Int × Int × Int × Bool × Int))))))).2).2).2).1).length : Int) > 100))) : Option Bool)).bind fun t725 =>
          bif t725 then some (.inr (.inr true))
          else
          ((loopN K (fun (s_ : Int) =>
            match s_ with
            | k732 =>
              bif decide (k732 < ((((((b0.2.getD i724.toNat (([] : List UInt8), ((0 : Int), (([] : List UInt8), (([] : List UInt8), ([] : List (List (List UInt8 × List UInt8) × Int × Bool × Int × Int × Int × Int × Bool × Int))))))).2).2).2).2).length : Int)) then
                bif idx k732 ((((((b0.2.getD i724.toNat (([] : List UInt8), ((0 : Int), (([] : List UInt8), (([] : List UInt8), ([] : List (List (List UInt8 × List UInt8) × Int × Bool × Int × Int × Int × Int × Bool × Int))))))).2).2).2).2).length) then
                  bif decide (((((((((b0.2.getD i724.toNat (([] : List UInt8), ((0 : Int), (([] : List UInt8), (([] : List UInt8), ([] : List (List (List UInt8 × List UInt8) × Int × Bool × Int × Int × Int × Int × Bool × Int))))))).2).2).2).2).getD k732.toNat (([] : List (List UInt8 × List UInt8)), ((0 : Int), (false, ((0 : Int), ((0 : Int), ((0 : Int), ((0 : Int), (false, (0 : Int)))))))))).1).length : Int) > 12) then some (.inr (.inr true))
                  else
                  ((loopN K (fun (s_ : Int) =>
                    match s_ with
                    | j735 =>
                      bif idx k732 ((((((b0.2.getD i724.toNat (([] : List UInt8), ((0 : Int), (([] : List UInt8), (([] : List UInt8), ([] : List (List (List UInt8 × List UInt8) × Int × Bool × Int × Int × Int × Int × Bool × Int))))))).2).2).2).2).length) then
                        bif decide (j735 < ((((((((b0.2.getD i724.toNat (([] : List UInt8), ((0 : Int), (([] : List UInt8), (([] : List UInt8), ([] : List (List (List UInt8 × List UInt8) × Int × Bool × Int × Int × Int × Int × Bool × Int))))))).2).2).2).2).getD k732.toNat (([] : List (List UInt8 × List UInt8)), ((0 : Int), (false, ((0 : Int), ((0 : Int), ((0 : Int), ((0 : Int), (false, (0 : Int)))))))))).1).length : Int)) then
                          bif idx k732 ((((((b0.2.getD i724.toNat (([] : List UInt8), ((0 : Int), (([] : List UInt8), (([] : List UInt8), ([] : List (List (List UInt8 × List UInt8) × Int × Bool × Int × Int × Int × Int × Bool × Int))))))).2).2).2).2).length) then
                            bif idx j735 ((((((((b0.2.getD i724.toNat (([] : List UInt8), ((0 : Int), (([] : List UInt8), (([] : List UInt8), ([] : List (List (List UInt8 × List UInt8) × Int × Bool × Int × Int × Int × Int × Bool × Int))))))).2).2).2).2).getD k732.toNat (([] : List (List UInt8 × List UInt8)), ((0 : Int), (false, ((0 : Int), ((0 : Int), ((0 : Int), ((0 : Int), (false, (0 : Int)))))))))).1).length) then
                              bif decide (((((((((((b0.2.getD i724.toNat (([] : List UInt8), ((0 : Int), (([] : List UInt8), (([] : List UInt8), ([] : List (List (List UInt8 × List UInt8) × Int × Bool × Int × Int × Int × Int × Bool × Int))))))).2).2).2).2).getD k732.toNat (([] : List (List UInt8 × List UInt8)), ((0 : Int), (false, ((0 : Int), ((0 : Int), ((0 : Int), ((0 : Int), (false, (0 : Int)))))))))).1).getD j735.toNat (([] : List UInt8), ([] : List UInt8))).1).length : Int) > 100) then some (.inr (.inr true))
                              else
                              bif decide (((((((((((b0.2.getD i724.toNat (([] : List UInt8), ((0 : Int), (([] : List UInt8), (([] : List UInt8), ([] : List (List (List UInt8 × List UInt8) × Int × Bool × Int × Int × Int × Int × Bool × Int))))))).2).2).2).2).getD k732.toNat (([] : List (List UInt8 × List UInt8)), ((0 : Int), (false, ((0 : Int), ((0 : Int), ((0 : Int), ((0 : Int), (false, (0 : Int)))))))))).1).getD j735.toNat (([] : List UInt8), ([] : List UInt8))).2).length : Int) > 100) then
                                some (.inr (.inr true))
                              else some (.inl (IntKind.i64.wrap (j735 + 1)))
                            else none
                          else none
                        else some (.inr (.inl ()))
                      else none) 0 : Option (Unit ⊕ Bool))).bind fun e_ =>
                  match e_ with
                  | .inl _ =>
                    some (.inl (IntKind.i64.wrap (k732 + 1)))
                  | .inr t736 =>
                    some (.inr (.inr t736))
                else none
              else some (.inr (.inl ()))) 0 : Option (Unit ⊕ Bool))).bind fun e_ =>
          match e_ with
          | .inl _ =>
            some (.inl (IntKind.i64.wrap (n723 + ((((((b0.2.getD i724.toNat (([] : List UInt8), ((0 : Int), (([] : List UInt8), (([] : List UInt8), ([] : List (List (List UInt8 × List UInt8) × Int × Bool × Int × Int × Int × Int × Bool × Int))))))).2).2).2).2).length : Int)), IntKind.i64.wrap (i724 + 1)))
          | .inr t737 =>
            some (.inr (.inr t737))
        else none
      else some (.inr (.inl ()))) (0, 0) : Option (Unit ⊕ Bool))).bind fun e_ =>
  match e_ with
  | .inl _ =>
    some false
  | .inr t738 =>
    some t738
def polyglothelp_Wide.sig : Sig := ⟨[(.agg (.pair .str (.sl (.pair .str (.pair (.int .i64) (.pair .str (.pair .str (.sl (.pair (.sl (.pair .str .str)) (.pair (.int .i64) (.pair .bool (.pair (.int .i64) (.pair (.int .i64) (.pair (.int .i64) (.pair (.int .i64) (.pair .bool (.int .i64)))))))))))))))))], [(.c .bool)]⟩
noncomputable def polyglothelp_Wide.con (K : Nat) : Con := (mkCon polyglothelp_Wide.sig (fun x => polyglothelp_Wide.f K x))
noncomputable def polyglothelp_Wide.ht : HT := .seq .nil (.seq (.join ⟨3, [], [], ⟨[], []⟩, [(.normal, ⟨[(18, .c (.v .bool))], []⟩)]⟩ (.seq .nil .nil)) (.seq .nil (.seq (.seq .nil (.block (.loop ⟨2, [], [], ⟨[(3, .c (.v (.int .i64))), (4, .c (.v (.int .i64)))], []⟩, [(.exit 0, ⟨[], []⟩), (.ret, ⟨[(2, .c (.v .bool))], []⟩)]⟩ (.seq .nil (.seq (.block (.seq .nil (.seq (.seq .nil (.join ⟨6, [], [], ⟨[], []⟩, [(.normal, ⟨[(64, .c (.v .bool))], []⟩)]⟩ (.seq .nil .nil))) (.seq .nil (.block (.loop ⟨6, [2], [], ⟨[(6, .c (.v (.int .i64)))], []⟩, [(.exit 2, ⟨[], []⟩), (.ret, ⟨[(2, .c (.v .bool))], []⟩)]⟩ (.seq .nil (.seq (.block (.seq .nil (.seq .nil (.block (.loop ⟨7, [2], [], ⟨[(7, .c (.v (.int .i64)))], []⟩, [(.exit 4, ⟨[], []⟩), (.ret, ⟨[(2, .c (.v .bool))], []⟩)]⟩ .nil))))) .nil)))))))) .nil))))) .nil)))
noncomputable def polyglothelp_Wide.cx (K : Nat) : Cx := ⟨tt, [], [], K, inlOf tt [] [] K (getBody []) 0⟩
theorem polyglothelp_Wide.eq (K : Nat) (x : PL polyglothelp_Wide.sig.ps) : evalF (polyglothelp_Wide.cx K) polyglothelp_Wide.sig (bodyOf Tryz.f6) polyglothelp_Wide.ht x = polyglothelp_Wide.f K x := by kernel_rfl
theorem polyglothelp_Wide.fok (K : Nat) : FOK Tryz.prog polyglothelp_Wide.sig (fun x => polyglothelp_Wide.f K x) 6 := fok_of_eval (tt := tt) (cons := []) (exts := []) (bodies := (getBody [])) (K := K) (d := 0) ⟨ttok, (fun _ _ => getCon_nil), (fun _ _ => getExt_nil), (fun _ _ => getBody_nil)⟩ draw bok6 (polyglothelp_Wide.eq K)
theorem polyglothelp_Wide.ok (K : Nat) : ConOK Tryz.prog 6 (polyglothelp_Wide.con K) := con_ok bok6 (polyglothelp_Wide.fok K)

noncomputable def polyglotref20_Field.f (K : Nat) (kind0 : Int) : Option (List UInt8) :=
  bif kind0 == 0 then some ([118, 97, 108, 117, 101] : List UInt8)
  else
  bif kind0 == 1 then some ([103, 97, 117, 103, 101] : List UInt8)
  else
  bif kind0 == 2 then
    some ([99, 111, 117, 110, 116, 101, 114] : List UInt8)
  else some ([] : List UInt8)
def polyglotref20_Field.sig : Sig := ⟨[(.c (.int .i64))], [(.c .str)]⟩
noncomputable def polyglotref20_Field.con (K : Nat) : Con := (mkCon polyglotref20_Field.sig (fun x => polyglotref20_Field.f K x))
noncomputable def polyglotref20_Field.ht : HT := .nil
noncomputable def polyglotref20_Field.cx (K : Nat) : Cx := ⟨tt, [], [], K, inlOf tt [] [] K (getBody []) 0⟩
theorem polyglotref20_Field.eq (K : Nat) (x : PL polyglotref20_Field.sig.ps) : evalF (polyglotref20_Field.cx K) polyglotref20_Field.sig (bodyOf Tryz.f10) polyglotref20_Field.ht x = polyglotref20_Field.f K x := by kernel_rfl
theorem polyglotref20_Field.fok (K : Nat) : FOK Tryz.prog polyglotref20_Field.sig (fun x => polyglotref20_Field.f K x) 10 := fok_of_eval (tt := tt) (cons := []) (exts := []) (bodies := (getBody [])) (K := K) (d := 0) ⟨ttok, (fun _ _ => getCon_nil), (fun _ _ => getExt_nil), (fun _ _ => getBody_nil)⟩ draw bok10 (polyglotref20_Field.eq K)
theorem polyglotref20_Field.ok (K : Nat) : ConOK Tryz.prog 10 (polyglotref20_Field.con K) := con_ok bok10 (polyglotref20_Field.fok K)

noncomputable def polyglotref7_Tenant.f (K : Nat) (s0 : List UInt8) : Option Bool :=
  ((loopN K (fun (s_ : Int) =>
    match s_ with
    | i749 =>
      bif decide (i749 < (s0.length : Int)) then
        (((
            (((
                bif idx i749 s0.length then
                  bif decide (((s0.getD i749.toNat 0).toNat : Int) ≥ 97) then
                    bif idx i749 s0.length then
                      bif decide (((s0.getD i749.toNat 0).toNat : Int) ≤ 122) then some false
                      else
                      bif idx i749 s0.length then
                        bif decide (((s0.getD i749.toNat 0).toNat : Int) ≥ 48) then
                          bif idx i749 s0.length then
                            bif decide (((s0.getD i749.toNat 0).toNat : Int) ≤ 57) then some false
                            else
                            bif idx i749 s0.length then
                              some (!(((s0.getD i749.toNat 0).toNat : Int) == 45))
                            else none
                          else none
                        else
                        bif idx i749 s0.length then
                          some (!(((s0.getD i749.toNat 0).toNat : Int) == 45))
                        else none
                      else none
                    else none
                  else
                  bif idx i749 s0.length then
                    bif decide (((s0.getD i749.toNat 0).toNat : Int) ≥ 48) then
                      bif idx i749 s0.length then
                        bif decide (((s0.getD i749.toNat 0).toNat : Int) ≤ 57) then some false
                        else
                        bif idx i749 s0.length then
                          some (!(((s0.getD i749.toNat 0).toNat : Int) == 45))
                        else none
                      else none
                    else
                    bif idx i749 s0.length then
                      some (!(((s0.getD i749.toNat 0).toNat : Int) == 45))
                    else none
                  else none
                else none) : Option Bool)).bind fun t752 =>
            bif t752 then
              some (.inr false)
            else some (.inl ())) : Option (Unit ⊕ Bool))).bind fun e_ =>
        match e_ with
        | .inl _ =>
          some (.inl (IntKind.i64.wrap (i749 + 1)))
        | .inr t753 =>
          some (.inr (.inr t753))
      else some (.inr (.inl ()))) 0 : Option (Unit ⊕ Bool))).bind fun e_ =>
  match e_ with
  | .inl _ =>
    bif decide ((s0.length : Int) ≥ 1) then
      some (decide ((s0.length : Int) ≤ 16))
    else some false
  | .inr t754 =>
    some t754
def polyglotref7_Tenant.sig : Sig := ⟨[(.c .str)], [(.c .bool)]⟩
noncomputable def polyglotref7_Tenant.con (K : Nat) : Con := (mkCon polyglotref7_Tenant.sig (fun x => polyglotref7_Tenant.f K x))
noncomputable def polyglotref7_Tenant.ht : HT := .seq .nil (.seq (.seq .nil (.block (.loop ⟨1, [], [], ⟨[(3, .c (.v (.int .i64)))], []⟩, [(.exit 0, ⟨[], []⟩), (.ret, ⟨[(2, .c (.v .bool))], []⟩)]⟩ (.seq .nil (.join ⟨4, [2], [], ⟨[], []⟩, [(.normal, ⟨[], []⟩), (.ret, ⟨[(2, .c (.v .bool))], []⟩)]⟩ (.seq (.block (.join ⟨4, [], [], ⟨[], []⟩, [(.normal, ⟨[(38, .c (.v .bool))], []⟩)]⟩ (.seq .nil .nil))) .nil)))))) .nil)
noncomputable def polyglotref7_Tenant.cx (K : Nat) : Cx := ⟨tt, [], [], K, inlOf tt [] [] K (getBody []) 0⟩
theorem polyglotref7_Tenant.eq (K : Nat) (x : PL polyglotref7_Tenant.sig.ps) : evalF (polyglotref7_Tenant.cx K) polyglotref7_Tenant.sig (bodyOf Tryz.f72) polyglotref7_Tenant.ht x = polyglotref7_Tenant.f K x := by kernel_rfl
theorem polyglotref7_Tenant.fok (K : Nat) : FOK Tryz.prog polyglotref7_Tenant.sig (fun x => polyglotref7_Tenant.f K x) 72 := fok_of_eval (tt := tt) (cons := []) (exts := []) (bodies := (getBody [])) (K := K) (d := 0) ⟨ttok, (fun _ _ => getCon_nil), (fun _ _ => getExt_nil), (fun _ _ => getBody_nil)⟩ draw bok72 (polyglotref7_Tenant.eq K)
theorem polyglotref7_Tenant.ok (K : Nat) : ConOK Tryz.prog 72 (polyglotref7_Tenant.con K) := con_ok bok72 (polyglotref7_Tenant.fok K)

noncomputable def polyglotref1_span.f (K : Nat) (c0 : Int) : Option (Int × Int × Int) :=
  bif decide (c0 < 128) then some (1, 0, 0)
  else
  (((
      bif decide (c0 < 194) then
        some true
      else some (decide (c0 > 244))) : Option Bool)).bind fun t755 =>
  bif t755 then some (0, 0, 0)
  else
  bif decide (c0 < 224) then some (2, 128, 191)
  else
  bif c0 == 224 then some (3, 160, 191)
  else
  bif c0 == 237 then some (3, 128, 159)
  else
  bif decide (c0 < 240) then some (3, 128, 191)
  else
  bif c0 == 240 then some (4, 144, 191)
  else
  bif c0 == 244 then
    some (4, 128, 143)
  else some (4, 128, 191)
def polyglotref1_span.sig : Sig := ⟨[(.c (.int .u8))], [(.c (.int .i64)), (.c (.int .u8)), (.c (.int .u8))]⟩
noncomputable def polyglotref1_span.con (K : Nat) : Con := (mkCon polyglotref1_span.sig (fun x => polyglotref1_span.f K x))
noncomputable def polyglotref1_span.ht : HT := .seq .nil (.seq (.block (.seq .nil (.cond .nil (.join ⟨5, [], [], ⟨[], []⟩, [(.normal, ⟨[(8, .c (.v .bool))], []⟩)]⟩ (.seq .nil .nil))))) .nil)
noncomputable def polyglotref1_span.cx (K : Nat) : Cx := ⟨tt, [], [], K, inlOf tt [] [] K (getBody []) 0⟩
theorem polyglotref1_span.eq (K : Nat) (x : PL polyglotref1_span.sig.ps) : evalF (polyglotref1_span.cx K) polyglotref1_span.sig (bodyOf Tryz.f162) polyglotref1_span.ht x = polyglotref1_span.f K x := by kernel_rfl
theorem polyglotref1_span.fok (K : Nat) : FOK Tryz.prog polyglotref1_span.sig (fun x => polyglotref1_span.f K x) 162 := fok_of_eval (tt := tt) (cons := []) (exts := []) (bodies := (getBody [])) (K := K) (d := 0) ⟨ttok, (fun _ _ => getCon_nil), (fun _ _ => getExt_nil), (fun _ _ => getBody_nil)⟩ draw bok162 (polyglotref1_span.eq K)
theorem polyglotref1_span.ok (K : Nat) : ConOK Tryz.prog 162 (polyglotref1_span.con K) := con_ok bok162 (polyglotref1_span.fok K)

noncomputable def polyglotref1_Front.f (K : Nat) (s0 : List UInt8) (at1 : Int) : Option (Int × Bool) :=
  bif idx at1 s0.length then
    (polyglotref1_span.f K ((s0.getD at1.toNat 0).toNat : Int)).bind fun (r756, r757, r758) =>
    bif r756 == 0 then some (0, false)
    else
    ((loopN K (fun (s_ : Int × Int × Int) =>
      match s_ with
      | (lo767, hi768, k769) =>
        (((
            bif decide (k769 < r756) then
              some (decide ((IntKind.i64.wrap (at1 + k769)) < (s0.length : Int)))
            else some false) : Option Bool)).bind fun t770 =>
        bif t770 then
          bif idx (IntKind.i64.wrap (at1 + k769)) s0.length then
            bif decide (((s0.getD ((IntKind.i64.wrap (at1 + k769)).toNat) 0).toNat : Int) < lo767) then some (.inr (.inr (k769, false)))
            else
            bif idx (IntKind.i64.wrap (at1 + k769)) s0.length then
              bif decide (((s0.getD ((IntKind.i64.wrap (at1 + k769)).toNat) 0).toNat : Int) > hi768) then
                some (.inr (.inr (k769, false)))
              else some (.inl (128, 191, IntKind.i64.wrap (k769 + 1)))
            else none
          else none
        else some (.inr (.inl k769))) (r757, r758, 1) : Option (Int ⊕ (Int × Bool)))).bind fun e_ =>
    match e_ with
    | .inl k771 =>
      some (k771, k771 == r756)
    | .inr (t772, t773) =>
      some (t772, t773)
  else none
def polyglotref1_Front.sig : Sig := ⟨[(.c .str), (.c (.int .i64))], [(.c (.int .i64)), (.c .bool)]⟩
noncomputable def polyglotref1_Front.con (K : Nat) : Con := (mkCon polyglotref1_Front.sig (fun x => polyglotref1_Front.f K x.1 x.2))
noncomputable def polyglotref1_Front.ht : HT := .seq .nil (.seq .nil (.seq .nil (.seq .nil (.seq (.block (.loop ⟨7, [4, 5], [], ⟨[(7, .c (.v (.int .u8))), (8, .c (.v (.int .u8))), (9, .c (.v (.int .i64)))], []⟩, [(.exit 0, ⟨[(9, .c (.v (.int .i64)))], []⟩), (.ret, ⟨[(4, .c (.v (.int .i64))), (5, .c (.v .bool))], []⟩)]⟩ (.seq (.join ⟨10, [], [], ⟨[], []⟩, [(.normal, ⟨[(30, .c (.v .bool))], []⟩)]⟩ (.seq .nil .nil)) .nil))) .nil))))
noncomputable def polyglotref1_Front.cx (K : Nat) : Cx := ⟨tt, [(162, polyglotref1_span.con K)], [], K, inlOf tt [(162, polyglotref1_span.con K)] [] K (getBody []) 0⟩
theorem polyglotref1_Front.eq (K : Nat) (x : PL polyglotref1_Front.sig.ps) : evalF (polyglotref1_Front.cx K) polyglotref1_Front.sig (bodyOf Tryz.f148) polyglotref1_Front.ht x = polyglotref1_Front.f K x.1 x.2 := by kernel_rfl
theorem polyglotref1_Front.fok (K : Nat) : FOK Tryz.prog polyglotref1_Front.sig (fun x => polyglotref1_Front.f K x.1 x.2) 148 := fok_of_eval (tt := tt) (cons := [(162, polyglotref1_span.con K)]) (exts := []) (bodies := (getBody [])) (K := K) (d := 0) ⟨ttok, (getCon_cons (polyglotref1_span.ok K) (fun _ _ => getCon_nil)), (fun _ _ => getExt_nil), (fun _ _ => getBody_nil)⟩ draw bok148 (polyglotref1_Front.eq K)
theorem polyglotref1_Front.ok (K : Nat) : ConOK Tryz.prog 148 (polyglotref1_Front.con K) := con_ok bok148 (polyglotref1_Front.fok K)

noncomputable def polyglotref1_Bad.f (K : Nat) (s0 : List UInt8) : Option Int :=
  ((loopN K (fun (s_ : Int) =>
    match s_ with
    | at780 =>
      bif decide (at780 < (s0.length : Int)) then
        (polyglotref1_Front.f K s0 at780).bind fun (r781, r782) =>
        bif !r782 then
          some (.inr (.inr (IntKind.i64.wrap (at780 + r781))))
        else some (.inl (IntKind.i64.wrap (at780 + r781)))
      else some (.inr (.inl ()))) 0 : Option (Unit ⊕ Int))).bind fun e_ =>
  match e_ with
  | .inl _ =>
    some (-1)
  | .inr t783 =>
    some t783
def polyglotref1_Bad.sig : Sig := ⟨[(.c .str)], [(.c (.int .i64))]⟩
noncomputable def polyglotref1_Bad.con (K : Nat) : Con := (mkCon polyglotref1_Bad.sig (fun x => polyglotref1_Bad.f K x))
noncomputable def polyglotref1_Bad.ht : HT := .seq .nil (.seq (.seq .nil (.block (.loop ⟨1, [], [], ⟨[(3, .c (.v (.int .i64)))], []⟩, [(.exit 0, ⟨[], []⟩), (.ret, ⟨[(2, .c (.v (.int .i64)))], []⟩)]⟩ .nil))) .nil)
noncomputable def polyglotref1_Bad.cx (K : Nat) : Cx := ⟨tt, [(148, polyglotref1_Front.con K)], [], K, inlOf tt [(148, polyglotref1_Front.con K)] [] K (getBody []) 0⟩
theorem polyglotref1_Bad.eq (K : Nat) (x : PL polyglotref1_Bad.sig.ps) : evalF (polyglotref1_Bad.cx K) polyglotref1_Bad.sig (bodyOf Tryz.f128) polyglotref1_Bad.ht x = polyglotref1_Bad.f K x := by kernel_rfl
theorem polyglotref1_Bad.fok (K : Nat) : FOK Tryz.prog polyglotref1_Bad.sig (fun x => polyglotref1_Bad.f K x) 128 := fok_of_eval (tt := tt) (cons := [(148, polyglotref1_Front.con K)]) (exts := []) (bodies := (getBody [])) (K := K) (d := 0) ⟨ttok, (getCon_cons (polyglotref1_Front.ok K) (fun _ _ => getCon_nil)), (fun _ _ => getExt_nil), (fun _ _ => getBody_nil)⟩ draw bok128 (polyglotref1_Bad.eq K)
theorem polyglotref1_Bad.ok (K : Nat) : ConOK Tryz.prog 128 (polyglotref1_Bad.con K) := con_ok bok128 (polyglotref1_Bad.fok K)

noncomputable def polyglotref7_Name.f (K : Nat) (s0 : List UInt8) : Option Bool :=
  ((loopN K (fun (s_ : Int) =>
    match s_ with
    | i786 =>
      bif decide (i786 < (s0.length : Int)) then
        bif idx i786 s0.length then
          bif decide (((s0.getD i786.toNat 0).toNat : Int) < 32) then some (.inr (.inr false))
          else
          bif idx i786 s0.length then
            bif ((s0.getD i786.toNat 0).toNat : Int) == 127 then
              some (.inr (.inr false))
            else some (.inl (IntKind.i64.wrap (i786 + 1)))
          else none
        else none
      else some (.inr (.inl ()))) 0 : Option (Unit ⊕ Bool))).bind fun e_ =>
  match e_ with
  | .inl _ =>
    bif decide ((s0.length : Int) ≥ 1) then
      bif decide ((s0.length : Int) ≤ 60) then
        (polyglotref1_Bad.f K s0).bind fun r787 =>
        some (decide (r787 < 0))
      else some false
    else some false
  | .inr t788 =>
    some t788
def polyglotref7_Name.sig : Sig := ⟨[(.c .str)], [(.c .bool)]⟩
noncomputable def polyglotref7_Name.con (K : Nat) : Con := (mkCon polyglotref7_Name.sig (fun x => polyglotref7_Name.f K x))
noncomputable def polyglotref7_Name.ht : HT := .seq .nil (.seq (.seq .nil (.block (.loop ⟨1, [], [], ⟨[(3, .c (.v (.int .i64)))], []⟩, [(.exit 0, ⟨[], []⟩), (.ret, ⟨[(2, .c (.v .bool))], []⟩)]⟩ .nil))) .nil)
noncomputable def polyglotref7_Name.cx (K : Nat) : Cx := ⟨tt, [(128, polyglotref1_Bad.con K)], [], K, inlOf tt [(128, polyglotref1_Bad.con K)] [] K (getBody []) 0⟩
theorem polyglotref7_Name.eq (K : Nat) (x : PL polyglotref7_Name.sig.ps) : evalF (polyglotref7_Name.cx K) polyglotref7_Name.sig (bodyOf Tryz.f100) polyglotref7_Name.ht x = polyglotref7_Name.f K x := by kernel_rfl
theorem polyglotref7_Name.fok (K : Nat) : FOK Tryz.prog polyglotref7_Name.sig (fun x => polyglotref7_Name.f K x) 100 := fok_of_eval (tt := tt) (cons := [(128, polyglotref1_Bad.con K)]) (exts := []) (bodies := (getBody [])) (K := K) (d := 0) ⟨ttok, (getCon_cons (polyglotref1_Bad.ok K) (fun _ _ => getCon_nil)), (fun _ _ => getExt_nil), (fun _ _ => getBody_nil)⟩ draw bok100 (polyglotref7_Name.eq K)
theorem polyglotref7_Name.ok (K : Nat) : ConOK Tryz.prog 100 (polyglotref7_Name.con K) := con_ok bok100 (polyglotref7_Name.fok K)

noncomputable def polyglotref7_IsKind.f (K : Nat) (kind0 : Int) : Option Bool :=
  bif decide (kind0 ≥ 0) then
    some (decide (kind0 ≤ 4))
  else some false
def polyglotref7_IsKind.sig : Sig := ⟨[(.c (.int .i64))], [(.c .bool)]⟩
noncomputable def polyglotref7_IsKind.con (K : Nat) : Con := (mkCon polyglotref7_IsKind.sig (fun x => polyglotref7_IsKind.f K x))
noncomputable def polyglotref7_IsKind.ht : HT := .nil
noncomputable def polyglotref7_IsKind.cx (K : Nat) : Cx := ⟨tt, [], [], K, inlOf tt [] [] K (getBody []) 0⟩
theorem polyglotref7_IsKind.eq (K : Nat) (x : PL polyglotref7_IsKind.sig.ps) : evalF (polyglotref7_IsKind.cx K) polyglotref7_IsKind.sig (bodyOf Tryz.f101) polyglotref7_IsKind.ht x = polyglotref7_IsKind.f K x := by kernel_rfl
theorem polyglotref7_IsKind.fok (K : Nat) : FOK Tryz.prog polyglotref7_IsKind.sig (fun x => polyglotref7_IsKind.f K x) 101 := fok_of_eval (tt := tt) (cons := []) (exts := []) (bodies := (getBody [])) (K := K) (d := 0) ⟨ttok, (fun _ _ => getCon_nil), (fun _ _ => getExt_nil), (fun _ _ => getBody_nil)⟩ draw bok101 (polyglotref7_IsKind.eq K)
theorem polyglotref7_IsKind.ok (K : Nat) : ConOK Tryz.prog 101 (polyglotref7_IsKind.con K) := con_ok bok101 (polyglotref7_IsKind.fok K)

noncomputable def polyglotref7_Value.f (K : Nat) (s0 : List UInt8) : Option Bool :=
  bif decide ((s0.length : Int) ≤ 60) then
    (polyglotref1_Bad.f K s0).bind fun r789 =>
    some (decide (r789 < 0))
  else some false
def polyglotref7_Value.sig : Sig := ⟨[(.c .str)], [(.c .bool)]⟩
noncomputable def polyglotref7_Value.con (K : Nat) : Con := (mkCon polyglotref7_Value.sig (fun x => polyglotref7_Value.f K x))
noncomputable def polyglotref7_Value.ht : HT := .nil
noncomputable def polyglotref7_Value.cx (K : Nat) : Cx := ⟨tt, [(128, polyglotref1_Bad.con K)], [], K, inlOf tt [(128, polyglotref1_Bad.con K)] [] K (getBody []) 0⟩
theorem polyglotref7_Value.eq (K : Nat) (x : PL polyglotref7_Value.sig.ps) : evalF (polyglotref7_Value.cx K) polyglotref7_Value.sig (bodyOf Tryz.f102) polyglotref7_Value.ht x = polyglotref7_Value.f K x := by kernel_rfl
theorem polyglotref7_Value.fok (K : Nat) : FOK Tryz.prog polyglotref7_Value.sig (fun x => polyglotref7_Value.f K x) 102 := fok_of_eval (tt := tt) (cons := [(128, polyglotref1_Bad.con K)]) (exts := []) (bodies := (getBody [])) (K := K) (d := 0) ⟨ttok, (getCon_cons (polyglotref1_Bad.ok K) (fun _ _ => getCon_nil)), (fun _ _ => getExt_nil), (fun _ _ => getBody_nil)⟩ draw bok102 (polyglotref7_Value.eq K)
theorem polyglotref7_Value.ok (K : Nat) : ConOK Tryz.prog 102 (polyglotref7_Value.con K) := con_ok bok102 (polyglotref7_Value.fok K)

noncomputable def polyglotref1_Good.f (K : Nat) (d0 : Int × Int) : Option Bool :=
  bif decide (d0.2 ≥ 0) then
    bif decide (d0.2 ≤ 18) then
      bif d0.1 != (-9223372036854775808) then
        bif d0.2 == 0 then
          some true
        else some ((Int.tmod d0.1 10) != 0)
      else some false
    else some false
  else some false
def polyglotref1_Good.sig : Sig := ⟨[(.agg (.pair (.int .i64) (.int .i64)))], [(.c .bool)]⟩
noncomputable def polyglotref1_Good.con (K : Nat) : Con := (mkCon polyglotref1_Good.sig (fun x => polyglotref1_Good.f K x))
noncomputable def polyglotref1_Good.ht : HT := .nil
noncomputable def polyglotref1_Good.cx (K : Nat) : Cx := ⟨tt, [], [], K, inlOf tt [] [] K (getBody []) 0⟩
theorem polyglotref1_Good.eq (K : Nat) (x : PL polyglotref1_Good.sig.ps) : evalF (polyglotref1_Good.cx K) polyglotref1_Good.sig (bodyOf Tryz.f34) polyglotref1_Good.ht x = polyglotref1_Good.f K x := by kernel_rfl
theorem polyglotref1_Good.fok (K : Nat) : FOK Tryz.prog polyglotref1_Good.sig (fun x => polyglotref1_Good.f K x) 34 := fok_of_eval (tt := tt) (cons := []) (exts := []) (bodies := (getBody [])) (K := K) (d := 0) ⟨ttok, (fun _ _ => getCon_nil), (fun _ _ => getExt_nil), (fun _ _ => getBody_nil)⟩ draw bok34 (polyglotref1_Good.eq K)
theorem polyglotref1_Good.ok (K : Nat) : ConOK Tryz.prog 34 (polyglotref1_Good.con K) := con_ok bok34 (polyglotref1_Good.fok K)

noncomputable def polyglotref1_IsTime.f (K : Nat) (ms0 : Int) : Option Bool :=
  bif decide (ms0 ≥ (-1125899906842624)) then
    some (decide (ms0 ≤ 1125899906842624))
  else some false
def polyglotref1_IsTime.sig : Sig := ⟨[(.c (.int .i64))], [(.c .bool)]⟩
noncomputable def polyglotref1_IsTime.con (K : Nat) : Con := (mkCon polyglotref1_IsTime.sig (fun x => polyglotref1_IsTime.f K x))
noncomputable def polyglotref1_IsTime.ht : HT := .nil
noncomputable def polyglotref1_IsTime.cx (K : Nat) : Cx := ⟨tt, [], [], K, inlOf tt [] [] K (getBody []) 0⟩
theorem polyglotref1_IsTime.eq (K : Nat) (x : PL polyglotref1_IsTime.sig.ps) : evalF (polyglotref1_IsTime.cx K) polyglotref1_IsTime.sig (bodyOf Tryz.f36) polyglotref1_IsTime.ht x = polyglotref1_IsTime.f K x := by kernel_rfl
theorem polyglotref1_IsTime.fok (K : Nat) : FOK Tryz.prog polyglotref1_IsTime.sig (fun x => polyglotref1_IsTime.f K x) 36 := fok_of_eval (tt := tt) (cons := []) (exts := []) (bodies := (getBody [])) (K := K) (d := 0) ⟨ttok, (fun _ _ => getCon_nil), (fun _ _ => getExt_nil), (fun _ _ => getBody_nil)⟩ draw bok36 (polyglotref1_IsTime.eq K)
theorem polyglotref1_IsTime.ok (K : Nat) : ConOK Tryz.prog 36 (polyglotref1_IsTime.con K) := con_ok bok36 (polyglotref1_IsTime.fok K)

noncomputable def polyglotref7_Roles.f (K : Nat) (kind0 : Int) : Option (List Int) :=
  (((
      bif kind0 == 0 then some true
      else
      bif kind0 == 1 then
        some true
      else some (kind0 == 2)) : Option Bool)).bind fun t790 =>
  bif t790 then some ([0] : List Int)
  else
  bif kind0 == 3 then some ([1, 3, 4] : List Int)
  else
  bif kind0 == 4 then
    some ([2, 3, 4] : List Int)
  else some ([] : List Int)
def polyglotref7_Roles.sig : Sig := ⟨[(.c (.int .i64))], [(.c (.sl (.int .i64)))]⟩
noncomputable def polyglotref7_Roles.con (K : Nat) : Con := (mkCon polyglotref7_Roles.sig (fun x => polyglotref7_Roles.f K x))
noncomputable def polyglotref7_Roles.ht : HT := .seq .nil (.seq (.seq .nil (.block (.join ⟨4, [], [], ⟨[], []⟩, [(.normal, ⟨[(4, .c (.v .bool))], []⟩)]⟩ (.seq .nil .nil)))) .nil)
noncomputable def polyglotref7_Roles.cx (K : Nat) : Cx := ⟨tt, [], [], K, inlOf tt [] [] K (getBody []) 0⟩
theorem polyglotref7_Roles.eq (K : Nat) (x : PL polyglotref7_Roles.sig.ps) : evalF (polyglotref7_Roles.cx K) polyglotref7_Roles.sig (bodyOf Tryz.f149) polyglotref7_Roles.ht x = polyglotref7_Roles.f K x := by kernel_rfl
theorem polyglotref7_Roles.fok (K : Nat) : FOK Tryz.prog polyglotref7_Roles.sig (fun x => polyglotref7_Roles.f K x) 149 := fok_of_eval (tt := tt) (cons := []) (exts := []) (bodies := (getBody [])) (K := K) (d := 0) ⟨ttok, (fun _ _ => getCon_nil), (fun _ _ => getExt_nil), (fun _ _ => getBody_nil)⟩ draw bok149 (polyglotref7_Roles.eq K)
theorem polyglotref7_Roles.ok (K : Nat) : ConOK Tryz.prog 149 (polyglotref7_Roles.con K) := con_ok bok149 (polyglotref7_Roles.fok K)

noncomputable def polyglotref7_HasRole.f (K : Nat) (kind0 : Int) (role1 : Int) : Option Bool :=
  (polyglotref7_Roles.f K kind0).bind fun r791 =>
  ((loopN K (fun (s_ : Int) =>
    match s_ with
    | i794 =>
      bif decide (i794 < (r791.length : Int)) then
        bif idx i794 r791.length then
          bif (r791.getD i794.toNat (0 : Int)) == role1 then
            some (.inr (.inr true))
          else some (.inl (IntKind.i64.wrap (i794 + 1)))
        else none
      else some (.inr (.inl ()))) 0 : Option (Unit ⊕ Bool))).bind fun e_ =>
  match e_ with
  | .inl _ =>
    some false
  | .inr t795 =>
    some t795
def polyglotref7_HasRole.sig : Sig := ⟨[(.c (.int .i64)), (.c (.int .i64))], [(.c .bool)]⟩
noncomputable def polyglotref7_HasRole.con (K : Nat) : Con := (mkCon polyglotref7_HasRole.sig (fun x => polyglotref7_HasRole.f K x.1 x.2))
noncomputable def polyglotref7_HasRole.ht : HT := .seq .nil (.seq .nil (.seq (.seq .nil (.block (.loop ⟨6, [4], [], ⟨[(6, .c (.v (.int .i64)))], []⟩, [(.exit 0, ⟨[], []⟩), (.ret, ⟨[(4, .c (.v .bool))], []⟩)]⟩ .nil))) .nil))
noncomputable def polyglotref7_HasRole.cx (K : Nat) : Cx := ⟨tt, [(149, polyglotref7_Roles.con K)], [], K, inlOf tt [(149, polyglotref7_Roles.con K)] [] K (getBody []) 0⟩
theorem polyglotref7_HasRole.eq (K : Nat) (x : PL polyglotref7_HasRole.sig.ps) : evalF (polyglotref7_HasRole.cx K) polyglotref7_HasRole.sig (bodyOf Tryz.f129) polyglotref7_HasRole.ht x = polyglotref7_HasRole.f K x.1 x.2 := by kernel_rfl
theorem polyglotref7_HasRole.fok (K : Nat) : FOK Tryz.prog polyglotref7_HasRole.sig (fun x => polyglotref7_HasRole.f K x.1 x.2) 129 := fok_of_eval (tt := tt) (cons := [(149, polyglotref7_Roles.con K)]) (exts := []) (bodies := (getBody [])) (K := K) (d := 0) ⟨ttok, (getCon_cons (polyglotref7_Roles.ok K) (fun _ _ => getCon_nil)), (fun _ _ => getExt_nil), (fun _ _ => getBody_nil)⟩ draw bok129 (polyglotref7_HasRole.eq K)
theorem polyglotref7_HasRole.ok (K : Nat) : ConOK Tryz.prog 129 (polyglotref7_HasRole.con K) := con_ok bok129 (polyglotref7_HasRole.fok K)

noncomputable def polyglotref7_Labels.f (K : Nat) (l0 : List (List UInt8 × List UInt8)) : Option Bool :=
  bif decide ((l0.length : Int) > 8) then some false
  else
  ((loopN K (fun (s_ : Int) =>
    match s_ with
    | i806 =>
      bif decide (i806 < (l0.length : Int)) then
        (((
            bif idx i806 l0.length then
              (polyglotref7_Name.f K ((l0.getD i806.toNat (([] : List UInt8), ([] : List UInt8))).1)).bind fun r808 =>
              bif !r808 then some true
              else
              bif idx i806 l0.length then
                (polyglotref7_Value.f K ((l0.getD i806.toNat (([] : List UInt8), ([] : List UInt8))).2)).bind fun r809 =>
                bif !r809 then some true
                else
                bif decide (i806 > 0) then
                  bif idx (IntKind.i64.wrap (i806 - 1)) l0.length then
                    bif idx i806 l0.length then
                      some (!(Op.bytesLess ((l0.getD ((IntKind.i64.wrap (i806 - 1)).toNat) (([] : List UInt8), ([] : List UInt8))).1) ((l0.getD i806.toNat (([] : List UInt8), ([] : List UInt8))).1)))
                    else none
                  else none
                else some false
              else none
            else none) : Option Bool)).bind fun t810 =>
        bif t810 then
          some (.inr (.inr false))
        else some (.inl (IntKind.i64.wrap (i806 + 1)))
      else some (.inr (.inl ()))) 0 : Option (Unit ⊕ Bool))).bind fun e_ =>
  match e_ with
  | .inl _ =>
    some true
  | .inr t811 =>
    some t811
def polyglotref7_Labels.sig : Sig := ⟨[(.c (.sl (.pair .str .str)))], [(.c .bool)]⟩
noncomputable def polyglotref7_Labels.con (K : Nat) : Con := (mkCon polyglotref7_Labels.sig (fun x => polyglotref7_Labels.f K x))
noncomputable def polyglotref7_Labels.ht : HT := .seq .nil (.seq .nil (.seq (.seq .nil (.block (.loop ⟨1, [], [], ⟨[(3, .c (.v (.int .i64)))], []⟩, [(.exit 0, ⟨[], []⟩), (.ret, ⟨[(2, .c (.v .bool))], []⟩)]⟩ (.seq .nil (.seq (.block (.join ⟨4, [], [], ⟨[], []⟩, [(.normal, ⟨[(46, .c (.v .bool))], []⟩)]⟩ (.seq .nil .nil))) .nil))))) .nil))
noncomputable def polyglotref7_Labels.cx (K : Nat) : Cx := ⟨tt, [(100, polyglotref7_Name.con K), (102, polyglotref7_Value.con K)], [], K, inlOf tt [(100, polyglotref7_Name.con K), (102, polyglotref7_Value.con K)] [] K (getBody []) 0⟩
theorem polyglotref7_Labels.eq (K : Nat) (x : PL polyglotref7_Labels.sig.ps) : evalF (polyglotref7_Labels.cx K) polyglotref7_Labels.sig (bodyOf Tryz.f130) polyglotref7_Labels.ht x = polyglotref7_Labels.f K x := by kernel_rfl
theorem polyglotref7_Labels.fok (K : Nat) : FOK Tryz.prog polyglotref7_Labels.sig (fun x => polyglotref7_Labels.f K x) 130 := fok_of_eval (tt := tt) (cons := [(100, polyglotref7_Name.con K), (102, polyglotref7_Value.con K)]) (exts := []) (bodies := (getBody [])) (K := K) (d := 0) ⟨ttok, (getCon_cons (polyglotref7_Name.ok K) (getCon_cons (polyglotref7_Value.ok K) (fun _ _ => getCon_nil))), (fun _ _ => getExt_nil), (fun _ _ => getBody_nil)⟩ draw bok130 (polyglotref7_Labels.eq K)
theorem polyglotref7_Labels.ok (K : Nat) : ConOK Tryz.prog 130 (polyglotref7_Labels.con K) := con_ok bok130 (polyglotref7_Labels.fok K)

noncomputable def polyglotref1_digits.f (K : Nat) (n0 : Int) : Option (List Int) :=
  ((loopN K (fun (s_ : Int × List Int) =>
    match s_ with
    | (n816, out817) =>
      bif decide (n816 > 0) then
        bif decide ((([IntKind.u8.wrap (Int.tmod n816 10)] : List Int).length + out817.length) * 1 ≤ LIM) then
          some (.inl (IntKind.u64.wrap (Int.tdiv n816 10), (([IntKind.u8.wrap (Int.tmod n816 10)] : List Int) ++ out817)))
        else none
      else some (.inr out817)) (n0, ([] : List Int)) : Option (List Int))).bind fun out818 =>
  some out818
def polyglotref1_digits.sig : Sig := ⟨[(.c (.int .u64))], [(.c (.sl (.int .u8)))]⟩
noncomputable def polyglotref1_digits.con (K : Nat) : Con := (mkCon polyglotref1_digits.sig (fun x => polyglotref1_digits.f K x))
noncomputable def polyglotref1_digits.ht : HT := .seq .nil (.seq .nil (.seq (.block (.loop ⟨3, [0], [], ⟨[(0, .c (.v (.int .u64))), (3, .c (.row 5 (.int .u8)))], []⟩, [(.exit 0, ⟨[(3, .c (.row 5 (.int .u8)))], []⟩)]⟩ .nil)) .nil))
noncomputable def polyglotref1_digits.cx (K : Nat) : Cx := ⟨tt, [], [], K, inlOf tt [] [] K (getBody []) 0⟩
theorem polyglotref1_digits.eq (K : Nat) (x : PL polyglotref1_digits.sig.ps) : evalF (polyglotref1_digits.cx K) polyglotref1_digits.sig (bodyOf Tryz.f50) polyglotref1_digits.ht x = polyglotref1_digits.f K x := by kernel_rfl
theorem polyglotref1_digits.fok (K : Nat) : FOK Tryz.prog polyglotref1_digits.sig (fun x => polyglotref1_digits.f K x) 50 := fok_of_eval (tt := tt) (cons := []) (exts := []) (bodies := (getBody [])) (K := K) (d := 0) ⟨ttok, (fun _ _ => getCon_nil), (fun _ _ => getExt_nil), (fun _ _ => getBody_nil)⟩ draw bok50 (polyglotref1_digits.eq K)
theorem polyglotref1_digits.ok (K : Nat) : ConOK Tryz.prog 50 (polyglotref1_digits.con K) := con_ok bok50 (polyglotref1_digits.fok K)

noncomputable def polyglotref1_amount.f (K : Nat) (m0 : Int) : Option (List Int) :=
  bif decide (m0 < 0) then
    (polyglotref1_digits.f K (IntKind.u64.wrap ((IntKind.u64.wrap (IntKind.i64.wrap (0 - IntKind.i64.wrap (m0 + 1)))) + 1))).bind fun r819 =>
    some r819
  else
  (polyglotref1_digits.f K (IntKind.u64.wrap (m0))).bind fun r820 =>
  some r820
def polyglotref1_amount.sig : Sig := ⟨[(.c (.int .i64))], [(.c (.sl (.int .u8)))]⟩
noncomputable def polyglotref1_amount.con (K : Nat) : Con := (mkCon polyglotref1_amount.sig (fun x => polyglotref1_amount.f K x))
noncomputable def polyglotref1_amount.ht : HT := .nil
noncomputable def polyglotref1_amount.cx (K : Nat) : Cx := ⟨tt, [(50, polyglotref1_digits.con K)], [], K, inlOf tt [(50, polyglotref1_digits.con K)] [] K (getBody []) 0⟩
theorem polyglotref1_amount.eq (K : Nat) (x : PL polyglotref1_amount.sig.ps) : evalF (polyglotref1_amount.cx K) polyglotref1_amount.sig (bodyOf Tryz.f35) polyglotref1_amount.ht x = polyglotref1_amount.f K x := by kernel_rfl
theorem polyglotref1_amount.fok (K : Nat) : FOK Tryz.prog polyglotref1_amount.sig (fun x => polyglotref1_amount.f K x) 35 := fok_of_eval (tt := tt) (cons := [(50, polyglotref1_digits.con K)]) (exts := []) (bodies := (getBody [])) (K := K) (d := 0) ⟨ttok, (getCon_cons (polyglotref1_digits.ok K) (fun _ _ => getCon_nil)), (fun _ _ => getExt_nil), (fun _ _ => getBody_nil)⟩ draw bok35 (polyglotref1_amount.eq K)
theorem polyglotref1_amount.ok (K : Nat) : ConOK Tryz.prog 35 (polyglotref1_amount.con K) := con_ok bok35 (polyglotref1_amount.fok K)

noncomputable def polyglotref1_compare.f (K : Nat) (a0 : List Int) (b1 : List Int) : Option Int :=
  bif (a0.length : Int) != (b1.length : Int) then
    bif decide ((a0.length : Int) < (b1.length : Int)) then
      some (-1)
    else some 1
  else
  ((loopN K (fun (s_ : Int) =>
    match s_ with
    | i823 =>
      bif decide (i823 < (a0.length : Int)) then
        bif idx i823 a0.length then
          bif idx i823 b1.length then
            bif decide ((a0.getD i823.toNat (0 : Int)) < (b1.getD i823.toNat (0 : Int))) then some (.inr (.inr (-1)))
            else
            bif idx i823 a0.length then
              bif idx i823 b1.length then
                bif decide ((a0.getD i823.toNat (0 : Int)) > (b1.getD i823.toNat (0 : Int))) then
                  some (.inr (.inr 1))
                else some (.inl (IntKind.i64.wrap (i823 + 1)))
              else none
            else none
          else none
        else none
      else some (.inr (.inl ()))) 0 : Option (Unit ⊕ Int))).bind fun e_ =>
  match e_ with
  | .inl _ =>
    some 0
  | .inr t824 =>
    some t824
def polyglotref1_compare.sig : Sig := ⟨[(.c (.sl (.int .u8))), (.c (.sl (.int .u8)))], [(.c (.int .i64))]⟩
noncomputable def polyglotref1_compare.con (K : Nat) : Con := (mkCon polyglotref1_compare.sig (fun x => polyglotref1_compare.f K x.1 x.2))
noncomputable def polyglotref1_compare.ht : HT := .seq .nil (.seq .nil (.seq (.seq .nil (.block (.loop ⟨2, [], [], ⟨[(5, .c (.v (.int .i64)))], []⟩, [(.exit 0, ⟨[], []⟩), (.ret, ⟨[(4, .c (.v (.int .i64)))], []⟩)]⟩ .nil))) .nil))
noncomputable def polyglotref1_compare.cx (K : Nat) : Cx := ⟨tt, [], [], K, inlOf tt [] [] K (getBody []) 0⟩
theorem polyglotref1_compare.eq (K : Nat) (x : PL polyglotref1_compare.sig.ps) : evalF (polyglotref1_compare.cx K) polyglotref1_compare.sig (bodyOf Tryz.f109) polyglotref1_compare.ht x = polyglotref1_compare.f K x.1 x.2 := by kernel_rfl
theorem polyglotref1_compare.fok (K : Nat) : FOK Tryz.prog polyglotref1_compare.sig (fun x => polyglotref1_compare.f K x.1 x.2) 109 := fok_of_eval (tt := tt) (cons := []) (exts := []) (bodies := (getBody [])) (K := K) (d := 0) ⟨ttok, (fun _ _ => getCon_nil), (fun _ _ => getExt_nil), (fun _ _ => getBody_nil)⟩ draw bok109 (polyglotref1_compare.eq K)
theorem polyglotref1_compare.ok (K : Nat) : ConOK Tryz.prog 109 (polyglotref1_compare.con K) := con_ok bok109 (polyglotref1_compare.fok K)

noncomputable def polyglotref1_tens.f (K : Nat) (a0 : List Int) (n1 : Int) : Option (List Int) :=
  bif (a0.length : Int) == 0 then some ([] : List Int)
  else
  bif decide (a0.length * 1 ≤ LIM) then
    bif (((decide (0 ≤ n1)) && (decide (n1 * (1 : Int) ≤ (LIM : Int)))) && (decide (n1 ≤ (LIM : Int)))) && (decide ((a0.length + (List.replicate n1.toNat (0 : Int) : List Int).length) * 1 ≤ LIM)) then
      some (a0 ++ (List.replicate n1.toNat (0 : Int) : List Int))
    else none
  else none
def polyglotref1_tens.sig : Sig := ⟨[(.c (.sl (.int .u8))), (.c (.int .i64))], [(.c (.sl (.int .u8)))]⟩
noncomputable def polyglotref1_tens.con (K : Nat) : Con := (mkCon polyglotref1_tens.sig (fun x => polyglotref1_tens.f K x.1 x.2))
noncomputable def polyglotref1_tens.ht : HT := .nil
noncomputable def polyglotref1_tens.cx (K : Nat) : Cx := ⟨tt, [], [], K, inlOf tt [] [] K (getBody []) 0⟩
theorem polyglotref1_tens.eq (K : Nat) (x : PL polyglotref1_tens.sig.ps) : evalF (polyglotref1_tens.cx K) polyglotref1_tens.sig (bodyOf Tryz.f150) polyglotref1_tens.ht x = polyglotref1_tens.f K x.1 x.2 := by kernel_rfl
theorem polyglotref1_tens.fok (K : Nat) : FOK Tryz.prog polyglotref1_tens.sig (fun x => polyglotref1_tens.f K x.1 x.2) 150 := fok_of_eval (tt := tt) (cons := []) (exts := []) (bodies := (getBody [])) (K := K) (d := 0) ⟨ttok, (fun _ _ => getCon_nil), (fun _ _ => getExt_nil), (fun _ _ => getBody_nil)⟩ draw bok150 (polyglotref1_tens.eq K)
theorem polyglotref1_tens.ok (K : Nat) : ConOK Tryz.prog 150 (polyglotref1_tens.con K) := con_ok bok150 (polyglotref1_tens.fok K)

noncomputable def polyglotref1_Compare.f (K : Nat) (a0 : Int × Int) (b1 : Int × Int) : Option Int :=
  (((
      (polyglotref1_Good.f K a0).bind fun r827 =>
      bif !r827 then
        some ((0 : Int), (0 : Int))
      else some (a0.1, a0.2)) : Option (Int × Int))).bind fun (b0_828, b0_829) =>
  (((
      (polyglotref1_Good.f K b1).bind fun r832 =>
      bif !r832 then
        some ((0 : Int), (0 : Int))
      else some (b1.1, b1.2)) : Option (Int × Int))).bind fun (b1_833, b1_834) =>
  (polyglotref1_amount.f K b0_828).bind fun r835 =>
  (polyglotref1_tens.f K r835 (IntKind.i64.wrap (18 - b0_829))).bind fun r836 =>
  (polyglotref1_amount.f K b1_833).bind fun r837 =>
  (polyglotref1_tens.f K r837 (IntKind.i64.wrap (18 - b1_834))).bind fun r838 =>
  (((
      bif decide (b0_828 < 0) then
        some (decide (b1_833 < 0))
      else some false) : Option Bool)).bind fun t839 =>
  bif t839 then
    (polyglotref1_compare.f K r838 r836).bind fun r840 =>
    some r840
  else
  bif decide (b0_828 < 0) then some (-1)
  else
  bif decide (b1_833 < 0) then some 1
  else
  (polyglotref1_compare.f K r836 r838).bind fun r841 =>
  some r841
def polyglotref1_Compare.sig : Sig := ⟨[(.agg (.pair (.int .i64) (.int .i64))), (.agg (.pair (.int .i64) (.int .i64)))], [(.c (.int .i64))]⟩
noncomputable def polyglotref1_Compare.con (K : Nat) : Con := (mkCon polyglotref1_Compare.sig (fun x => polyglotref1_Compare.f K x.1 x.2))
noncomputable def polyglotref1_Compare.ht : HT := .seq .nil (.join ⟨5, [], [0], ⟨[], []⟩, [(.normal, ⟨[], [(0, .cells 46 [.v (.int .i64), .v (.int .i64)])]⟩)]⟩ (.seq .nil (.join ⟨5, [], [1], ⟨[], []⟩, [(.normal, ⟨[], [(1, .cells 46 [.v (.int .i64), .v (.int .i64)])]⟩)]⟩ (.seq .nil (.seq .nil (.seq (.block (.join ⟨7, [], [], ⟨[], []⟩, [(.normal, ⟨[(29, .c (.v .bool))], []⟩)]⟩ (.seq .nil .nil))) .nil))))))
noncomputable def polyglotref1_Compare.cx (K : Nat) : Cx := ⟨tt, [(34, polyglotref1_Good.con K), (35, polyglotref1_amount.con K), (150, polyglotref1_tens.con K), (109, polyglotref1_compare.con K)], [], K, inlOf tt [(34, polyglotref1_Good.con K), (35, polyglotref1_amount.con K), (150, polyglotref1_tens.con K), (109, polyglotref1_compare.con K)] [] K (getBody []) 0⟩
theorem polyglotref1_Compare.eq (K : Nat) (x : PL polyglotref1_Compare.sig.ps) : evalF (polyglotref1_Compare.cx K) polyglotref1_Compare.sig (bodyOf Tryz.f131) polyglotref1_Compare.ht x = polyglotref1_Compare.f K x.1 x.2 := by kernel_rfl
theorem polyglotref1_Compare.fok (K : Nat) : FOK Tryz.prog polyglotref1_Compare.sig (fun x => polyglotref1_Compare.f K x.1 x.2) 131 := fok_of_eval (tt := tt) (cons := [(34, polyglotref1_Good.con K), (35, polyglotref1_amount.con K), (150, polyglotref1_tens.con K), (109, polyglotref1_compare.con K)]) (exts := []) (bodies := (getBody [])) (K := K) (d := 0) ⟨ttok, (getCon_cons (polyglotref1_Good.ok K) (getCon_cons (polyglotref1_amount.ok K) (getCon_cons (polyglotref1_tens.ok K) (getCon_cons (polyglotref1_compare.ok K) (fun _ _ => getCon_nil))))), (fun _ _ => getExt_nil), (fun _ _ => getBody_nil)⟩ draw bok131 (polyglotref1_Compare.eq K)
theorem polyglotref1_Compare.ok (K : Nat) : ConOK Tryz.prog 131 (polyglotref1_Compare.con K) := con_ok bok131 (polyglotref1_Compare.fok K)

noncomputable def polyglotref7_Get.f (K : Nat) (l0 : List (List UInt8 × List UInt8)) (name1 : List UInt8) : Option (List UInt8 × Bool) :=
  ((loopN K (fun (s_ : Int) =>
    match s_ with
    | i844 =>
      bif decide (i844 < (l0.length : Int)) then
        bif idx i844 l0.length then
          bif ((l0.getD i844.toNat (([] : List UInt8), ([] : List UInt8))).1) == name1 then
            bif idx i844 l0.length then
              some (.inr (.inr ((l0.getD i844.toNat (([] : List UInt8), ([] : List UInt8))).2, true)))
            else none
          else some (.inl (IntKind.i64.wrap (i844 + 1)))
        else none
      else some (.inr (.inl ()))) 0 : Option (Unit ⊕ (List UInt8 × Bool)))).bind fun e_ =>
  match e_ with
  | .inl _ =>
    some (([] : List UInt8), false)
  | .inr (t845, t846) =>
    some (t845, t846)
def polyglotref7_Get.sig : Sig := ⟨[(.c (.sl (.pair .str .str))), (.c .str)], [(.c .str), (.c .bool)]⟩
noncomputable def polyglotref7_Get.con (K : Nat) : Con := (mkCon polyglotref7_Get.sig (fun x => polyglotref7_Get.f K x.1 x.2))
noncomputable def polyglotref7_Get.ht : HT := .seq .nil (.seq (.seq .nil (.block (.loop ⟨2, [], [], ⟨[(6, .c (.v (.int .i64)))], []⟩, [(.exit 0, ⟨[], []⟩), (.ret, ⟨[(4, .c (.v .str)), (5, .c (.v .bool))], []⟩)]⟩ .nil))) .nil)
noncomputable def polyglotref7_Get.cx (K : Nat) : Cx := ⟨tt, [], [], K, inlOf tt [] [] K (getBody []) 0⟩
theorem polyglotref7_Get.eq (K : Nat) (x : PL polyglotref7_Get.sig.ps) : evalF (polyglotref7_Get.cx K) polyglotref7_Get.sig (bodyOf Tryz.f132) polyglotref7_Get.ht x = polyglotref7_Get.f K x.1 x.2 := by kernel_rfl
theorem polyglotref7_Get.fok (K : Nat) : FOK Tryz.prog polyglotref7_Get.sig (fun x => polyglotref7_Get.f K x.1 x.2) 132 := fok_of_eval (tt := tt) (cons := []) (exts := []) (bodies := (getBody [])) (K := K) (d := 0) ⟨ttok, (fun _ _ => getCon_nil), (fun _ _ => getExt_nil), (fun _ _ => getBody_nil)⟩ draw bok132 (polyglotref7_Get.eq K)
theorem polyglotref7_Get.ok (K : Nat) : ConOK Tryz.prog 132 (polyglotref7_Get.con K) := con_ok bok132 (polyglotref7_Get.fok K)

noncomputable def polyglotref7_Point.f (K : Nat) (t0 : Int) (o1 : List (List UInt8 × List UInt8) × Int × Bool × Int × Int × Int × Int × Bool × Int) : Option Bool :=
  (((
      (((
          (polyglotref7_HasRole.f K t0 o1.2.1).bind fun r860 =>
          bif !r860 then some true
          else
          (polyglotref7_Labels.f K o1.1).bind fun r861 =>
          bif !r861 then some true
          else
          bif o1.2.2.1 then
            bif o1.2.1 != 1 then some true
            else
            (polyglotref1_Good.f K (o1.2.2.2.2.2.1, o1.2.2.2.2.2.2.1)).bind fun r862 =>
            some (!r862)
          else
          (polyglotref1_Good.f K (o1.2.2.2.2.2.1, o1.2.2.2.2.2.2.1)).bind fun r863 =>
          some (!r863)) : Option Bool)).bind fun t864 =>
      bif t864 then
        some (.inr false)
      else some (.inl ())) : Option (Unit ⊕ Bool))).bind fun e_ =>
  match e_ with
  | .inl _ =>
    (((
        bif o1.2.1 == 1 then
          bif !o1.2.2.1 then
            some true
          else some (o1.2.1 == 2)
        else some (o1.2.1 == 2)) : Option Bool)).bind fun a865 =>
    (((
        (((
            bif !a865 then
              bif !((o1.2.2.2.1 == (0 : Int)) && ((o1.2.2.2.2.1 == (0 : Int)) && true)) then some true
              else
              bif a865 then
                (polyglotref1_Good.f K (o1.2.2.2.1, o1.2.2.2.2.1)).bind fun r872 =>
                some (!r872)
              else some false
            else
            bif a865 then
              (polyglotref1_Good.f K (o1.2.2.2.1, o1.2.2.2.2.1)).bind fun r873 =>
              some (!r873)
            else some false) : Option Bool)).bind fun t874 =>
        bif t874 then
          some (.inr false)
        else some (.inl ())) : Option (Unit ⊕ Bool))).bind fun e_ =>
    match e_ with
    | .inl _ =>
      (((
          bif o1.2.1 == 2 then
            bif decide (o1.2.2.2.1 < 0) then some (.inr false)
            else
            (polyglotref1_Compare.f K (o1.2.2.2.1, o1.2.2.2.2.1) (1, (0 : Int))).bind fun r876 =>
            bif decide (r876 > 0) then
              some (.inr false)
            else some (.inl ())
          else some (.inl ())) : Option (Unit ⊕ Bool))).bind fun e_ =>
      match e_ with
      | .inl _ =>
        (((
            bif decide (o1.2.2.2.2.2.1 < 0) then
              bif t0 == 2 then some (.inr false)
              else
              bif o1.2.1 == 1 then some (.inr false)
              else
              bif o1.2.1 == 3 then
                some (.inr false)
              else some (.inl ())
            else some (.inl ())) : Option (Unit ⊕ Bool))).bind fun e_ =>
        match e_ with
        | .inl _ =>
          (((
              bif !o1.2.2.2.2.2.2.2.1 then
                bif o1.2.2.2.2.2.2.2.2 != 0 then some (.inr false)
                else
                (polyglotref1_IsTime.f K o1.2.2.2.2.2.2.2.2).bind fun r878 =>
                bif !r878 then
                  some (.inr false)
                else some (.inl ())
              else
              (polyglotref1_IsTime.f K o1.2.2.2.2.2.2.2.2).bind fun r879 =>
              bif !r879 then
                some (.inr false)
              else some (.inl ())) : Option (Unit ⊕ Bool))).bind fun e_ =>
          match e_ with
          | .inl _ =>
            (polyglotref7_Get.f K o1.1 ([108, 101] : List UInt8)).bind fun (r880, r881) =>
            (polyglotref7_Get.f K o1.1 ([113, 117, 97, 110, 116, 105, 108, 101] : List UInt8)).bind fun (r882, r883) =>
            bif r881 then
              bif !(o1.2.1 == 1) then
                bif r883 then
                  some (!(o1.2.1 == 2))
                else some true
              else some false
            else
            bif r883 then
              some (!(o1.2.1 == 2))
            else some true
          | .inr r884 =>
            some r884
        | .inr r885 =>
          some r885
      | .inr r886 =>
        some r886
    | .inr r887 =>
      some r887
  | .inr r888 =>
    some r888
def polyglotref7_Point.sig : Sig := ⟨[(.c (.int .i64)), (.agg (.pair (.sl (.pair .str .str)) (.pair (.int .i64) (.pair .bool (.pair (.int .i64) (.pair (.int .i64) (.pair (.int .i64) (.pair (.int .i64) (.pair .bool (.int .i64))))))))))], [(.c .bool)]⟩
noncomputable def polyglotref7_Point.con (K : Nat) : Con := (mkCon polyglotref7_Point.sig (fun x => polyglotref7_Point.f K x.1 x.2))
noncomputable def polyglotref7_Point.ht : HT := .seq .nil (.join ⟨4, [], [], ⟨[], []⟩, [(.normal, ⟨[], []⟩), (.ret, ⟨[(4, .c (.v .bool))], []⟩)]⟩ (.seq (.join ⟨5, [], [], ⟨[], []⟩, [(.normal, ⟨[(35, .c (.v .bool))], []⟩)]⟩ (.seq .nil .nil)) (.join ⟨5, [], [], ⟨[], []⟩, [(.normal, ⟨[(5, .c (.v .bool))], []⟩)]⟩ (.seq .nil (.join ⟨4, [], [], ⟨[], []⟩, [(.normal, ⟨[], []⟩), (.ret, ⟨[(4, .c (.v .bool))], []⟩)]⟩ (.seq (.join ⟨5, [], [], ⟨[], []⟩, [(.normal, ⟨[(65, .c (.v .bool))], []⟩)]⟩ (.seq .nil .nil)) (.join ⟨4, [], [], ⟨[], []⟩, [(.normal, ⟨[], []⟩), (.ret, ⟨[(4, .c (.v .bool))], []⟩)]⟩ (.seq .nil (.join ⟨4, [], [], ⟨[], []⟩, [(.normal, ⟨[], []⟩), (.ret, ⟨[(4, .c (.v .bool))], []⟩)]⟩ (.seq .nil (.join ⟨4, [], [], ⟨[], []⟩, [(.normal, ⟨[], []⟩), (.ret, ⟨[(4, .c (.v .bool))], []⟩)]⟩ (.seq .nil .nil))))))))))))
noncomputable def polyglotref7_Point.cx (K : Nat) : Cx := ⟨tt, [(129, polyglotref7_HasRole.con K), (130, polyglotref7_Labels.con K), (34, polyglotref1_Good.con K), (131, polyglotref1_Compare.con K), (36, polyglotref1_IsTime.con K), (132, polyglotref7_Get.con K)], [], K, inlOf tt [(129, polyglotref7_HasRole.con K), (130, polyglotref7_Labels.con K), (34, polyglotref1_Good.con K), (131, polyglotref1_Compare.con K), (36, polyglotref1_IsTime.con K), (132, polyglotref7_Get.con K)] [] K (getBody []) 0⟩
theorem polyglotref7_Point.eq (K : Nat) (x : PL polyglotref7_Point.sig.ps) : evalF (polyglotref7_Point.cx K) polyglotref7_Point.sig (bodyOf Tryz.f103) polyglotref7_Point.ht x = polyglotref7_Point.f K x.1 x.2 := by kernel_rfl
theorem polyglotref7_Point.fok (K : Nat) : FOK Tryz.prog polyglotref7_Point.sig (fun x => polyglotref7_Point.f K x.1 x.2) 103 := fok_of_eval (tt := tt) (cons := [(129, polyglotref7_HasRole.con K), (130, polyglotref7_Labels.con K), (34, polyglotref1_Good.con K), (131, polyglotref1_Compare.con K), (36, polyglotref1_IsTime.con K), (132, polyglotref7_Get.con K)]) (exts := []) (bodies := (getBody [])) (K := K) (d := 0) ⟨ttok, (getCon_cons (polyglotref7_HasRole.ok K) (getCon_cons (polyglotref7_Labels.ok K) (getCon_cons (polyglotref1_Good.ok K) (getCon_cons (polyglotref1_Compare.ok K) (getCon_cons (polyglotref1_IsTime.ok K) (getCon_cons (polyglotref7_Get.ok K) (fun _ _ => getCon_nil))))))), (fun _ _ => getExt_nil), (fun _ _ => getBody_nil)⟩ draw bok103 (polyglotref7_Point.eq K)
theorem polyglotref7_Point.ok (K : Nat) : ConOK Tryz.prog 103 (polyglotref7_Point.con K) := con_ok bok103 (polyglotref7_Point.fok K)

noncomputable def polyglotref7_number.f (K : Nat) (a0 : Int) (b1 : Int) : Option Int :=
  bif decide (a0 < b1) then some (-1)
  else
  bif decide (a0 > b1) then
    some 1
  else some 0
def polyglotref7_number.sig : Sig := ⟨[(.c (.int .i64)), (.c (.int .i64))], [(.c (.int .i64))]⟩
noncomputable def polyglotref7_number.con (K : Nat) : Con := (mkCon polyglotref7_number.sig (fun x => polyglotref7_number.f K x.1 x.2))
noncomputable def polyglotref7_number.ht : HT := .nil
noncomputable def polyglotref7_number.cx (K : Nat) : Cx := ⟨tt, [], [], K, inlOf tt [] [] K (getBody []) 0⟩
theorem polyglotref7_number.eq (K : Nat) (x : PL polyglotref7_number.sig.ps) : evalF (polyglotref7_number.cx K) polyglotref7_number.sig (bodyOf Tryz.f135) polyglotref7_number.ht x = polyglotref7_number.f K x.1 x.2 := by kernel_rfl
theorem polyglotref7_number.fok (K : Nat) : FOK Tryz.prog polyglotref7_number.sig (fun x => polyglotref7_number.f K x.1 x.2) 135 := fok_of_eval (tt := tt) (cons := []) (exts := []) (bodies := (getBody [])) (K := K) (d := 0) ⟨ttok, (fun _ _ => getCon_nil), (fun _ _ => getExt_nil), (fun _ _ => getBody_nil)⟩ draw bok135 (polyglotref7_number.eq K)
theorem polyglotref7_number.ok (K : Nat) : ConOK Tryz.prog 135 (polyglotref7_number.con K) := con_ok bok135 (polyglotref7_number.fok K)

end Go.Proofs.YtekeaempemiciaaGreatDoor
