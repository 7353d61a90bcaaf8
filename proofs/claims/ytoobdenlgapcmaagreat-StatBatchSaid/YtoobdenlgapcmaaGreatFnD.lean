/- What each function of the program comes to, and that it does, part 4. -/
import Derived.Test.YtoobdenlgapcmaaGreatFnC
import Derived.KernelRfl
set_option linter.unusedVariables false
namespace Go.Proofs.YtoobdenlgapcmaaGreat
open Go Go.Rf Go.Proofs Go.RowKit

noncomputable def statprint_isRate.f (K : Nat) (e0 : List UInt8 × List (List UInt8 × List UInt8) × Int × Int × Int × Int × Int × List UInt8) : Option Bool :=
  (((
      bif e0.2.2.1 != 1 then
        bif e0.2.2.1 != 4 then
          some (.inr ((e0.2.2.2.2.2.1 == (0 : Int)) && ((e0.2.2.2.2.2.2.1 == (0 : Int)) && true)))
        else some (.inl ())
      else some (.inl ())) : Option (Unit ⊕ Bool))).bind fun e_ =>
  match e_ with
  | .inl _ =>
    (sum_Over.f K (e0.2.2.2.1, e0.2.2.2.2.1) (e0.2.2.2.2.2.1, e0.2.2.2.2.2.2.1)).bind fun (r525, r526) =>
    (sum_Over.f K (1, (0 : Int)) (e0.2.2.2.2.2.1, e0.2.2.2.2.2.2.1)).bind fun (r527, r528) =>
    (dec_Good.f K (e0.2.2.2.2.2.1, e0.2.2.2.2.2.2.1)).bind fun r529 =>
    bif r529 then
      bif decide (e0.2.2.2.2.2.1 > 0) then
        (sum_Compare.f K (e0.2.2.2.2.2.1, e0.2.2.2.2.2.2.1) (1, (0 : Int))).bind fun r530 =>
        bif decide (r530 ≤ 0) then
          bif r526 then
            bif r528 then
              some true
            else some (e0.2.2.1 == 1)
          else some false
        else some false
      else some false
    else some false
  | .inr t531 =>
    some t531
def statprint_isRate.sig : Sig := ⟨[(.agg (.pair .str (.pair (.sl (.pair .str .str)) (.pair (.int .i64) (.pair (.int .i64) (.pair (.int .i64) (.pair (.int .i64) (.pair (.int .i64) .str))))))))], [(.c .bool)]⟩
noncomputable def statprint_isRate.con (K : Nat) : Con := (mkCon statprint_isRate.sig (fun x => statprint_isRate.f K x))
noncomputable def statprint_isRate.ht : HT := .seq .nil (.seq .nil (.join ⟨4, [2], [], ⟨[], []⟩, [(.normal, ⟨[], []⟩), (.ret, ⟨[(2, .c (.v .bool))], []⟩)]⟩ (.seq .nil .nil)))
noncomputable def statprint_isRate.cx (K : Nat) : Cx := ⟨tt, [(34, sum_Over.con K), (17, dec_Good.con K), (35, sum_Compare.con K)], [], K, inlOf tt [(34, sum_Over.con K), (17, dec_Good.con K), (35, sum_Compare.con K)] [] K (getBody []) 0⟩
theorem statprint_isRate.eq (K : Nat) (x : PL statprint_isRate.sig.ps) : evalF (statprint_isRate.cx K) statprint_isRate.sig (bodyOf Tryz.f16) statprint_isRate.ht x = statprint_isRate.f K x := by kernel_rfl
theorem statprint_isRate.fok (K : Nat) : FOK Tryz.prog statprint_isRate.sig (fun x => statprint_isRate.f K x) 16 := fok_of_eval (tt := tt) (cons := [(34, sum_Over.con K), (17, dec_Good.con K), (35, sum_Compare.con K)]) (exts := []) (bodies := (getBody [])) (K := K) (d := 0) ⟨ttok, (getCon_cons (sum_Over.ok K) (getCon_cons (dec_Good.ok K) (getCon_cons (sum_Compare.ok K) (fun _ _ => getCon_nil)))), (fun _ _ => getExt_nil), (fun _ _ => getBody_nil)⟩ draw bok16 (statprint_isRate.eq K)
theorem statprint_isRate.ok (K : Nat) : ConOK Tryz.prog 16 (statprint_isRate.con K) := con_ok bok16 (statprint_isRate.fok K)

noncomputable def statprint_isMember.f (K : Nat) (s0 : List UInt8) : Option Bool :=
  ((loopN K (fun (s_ : Int) =>
    match s_ with
    | t534 =>
      bif decide (t534 < (s0.length : Int)) then
        bif idx t534 s0.length then
          bif decide (((s0.getD t534.toNat 0).toNat : Int) ≤ 32) then some (.inr (.inr false))
          else
          bif idx t534 s0.length then
            bif decide (((s0.getD t534.toNat 0).toNat : Int) ≥ 127) then some (.inr (.inr false))
            else
            bif idx t534 s0.length then
              bif ((s0.getD t534.toNat 0).toNat : Int) == 124 then
                some (.inr (.inr false))
              else some (.inl (IntKind.i64.wrap (t534 + 1)))
            else none
          else none
        else none
      else some (.inr (.inl ()))) 0 : Option (Unit ⊕ Bool))).bind fun e_ =>
  match e_ with
  | .inl _ =>
    bif !(s0 == ([] : List UInt8)) then
      some (decide ((s0.length : Int) ≤ 60))
    else some false
  | .inr t535 =>
    some t535
def statprint_isMember.sig : Sig := ⟨[(.c .str)], [(.c .bool)]⟩
noncomputable def statprint_isMember.con (K : Nat) : Con := (mkCon statprint_isMember.sig (fun x => statprint_isMember.f K x))
noncomputable def statprint_isMember.ht : HT := .seq .nil (.seq (.seq .nil (.block (.loop ⟨6, [2, 3], [], ⟨[(6, .c (.v (.int .i64)))], []⟩, [(.exit 0, ⟨[], []⟩), (.ret, ⟨[(2, .c (.v .bool))], []⟩)]⟩ .nil))) .nil)
noncomputable def statprint_isMember.cx (K : Nat) : Cx := ⟨tt, [], [], K, inlOf tt [] [] K (getBody []) 0⟩
theorem statprint_isMember.eq (K : Nat) (x : PL statprint_isMember.sig.ps) : evalF (statprint_isMember.cx K) statprint_isMember.sig (bodyOf Tryz.f18) statprint_isMember.ht x = statprint_isMember.f K x := by kernel_rfl
theorem statprint_isMember.fok (K : Nat) : FOK Tryz.prog statprint_isMember.sig (fun x => statprint_isMember.f K x) 18 := fok_of_eval (tt := tt) (cons := []) (exts := []) (bodies := (getBody [])) (K := K) (d := 0) ⟨ttok, (fun _ _ => getCon_nil), (fun _ _ => getExt_nil), (fun _ _ => getBody_nil)⟩ draw bok18 (statprint_isMember.eq K)
theorem statprint_isMember.ok (K : Nat) : ConOK Tryz.prog 18 (statprint_isMember.con K) := con_ok bok18 (statprint_isMember.fok K)

noncomputable def statprint_Good.f (K : Nat) (e0 : List UInt8 × List (List UInt8 × List UInt8) × Int × Int × Int × Int × Int × List UInt8) : Option Bool :=
  (((
      (charset_Is.f K 4 0 e0.1).bind fun r537 =>
      bif !r537 then some true
      else
      (statprint_isLabels.f K e0.2.1).bind fun r538 =>
      bif !r538 then some true
      else
      (statprint_isRate.f K e0).bind fun r539 =>
      some (!r539)) : Option Bool)).bind fun t540 =>
  bif t540 then some false
  else
  (((
      bif e0.2.2.1 == 1 then some true
      else
      bif e0.2.2.1 == 2 then
        some true
      else some (e0.2.2.1 == 4)) : Option Bool)).bind fun t541 =>
  bif t541 then
    bif e0.2.2.2.2.2.2.2 == ([] : List UInt8) then
      (dec_Good.f K (e0.2.2.2.1, e0.2.2.2.2.1)).bind fun r542 =>
      bif r542 then
        some (decide (e0.2.2.2.1 ≥ 0))
      else some false
    else some false
  else
  bif e0.2.2.1 == 3 then
    bif e0.2.2.2.2.2.2.2 == ([] : List UInt8) then
      (dec_Good.f K (e0.2.2.2.1, e0.2.2.2.2.1)).bind fun r543 =>
      some r543
    else some false
  else
  bif e0.2.2.1 == 5 then
    bif (e0.2.2.2.1 == (0 : Int)) && ((e0.2.2.2.2.1 == (0 : Int)) && true) then
      (statprint_isMember.f K e0.2.2.2.2.2.2.2).bind fun r544 =>
      some r544
    else some false
  else some false
def statprint_Good.sig : Sig := ⟨[(.agg (.pair .str (.pair (.sl (.pair .str .str)) (.pair (.int .i64) (.pair (.int .i64) (.pair (.int .i64) (.pair (.int .i64) (.pair (.int .i64) .str))))))))], [(.c .bool)]⟩
noncomputable def statprint_Good.con (K : Nat) : Con := (mkCon statprint_Good.sig (fun x => statprint_Good.f K x))
noncomputable def statprint_Good.ht : HT := .seq .nil (.seq (.join ⟨3, [], [], ⟨[], []⟩, [(.normal, ⟨[(17, .c (.v .bool))], []⟩)]⟩ (.seq .nil .nil)) (.seq (.seq .nil (.block (.join ⟨20, [], [], ⟨[], []⟩, [(.normal, ⟨[(20, .c (.v .bool))], []⟩)]⟩ (.seq .nil .nil)))) .nil))
noncomputable def statprint_Good.cx (K : Nat) : Cx := ⟨tt, [(14, charset_Is.con K), (15, statprint_isLabels.con K), (16, statprint_isRate.con K), (17, dec_Good.con K), (18, statprint_isMember.con K)], [], K, inlOf tt [(14, charset_Is.con K), (15, statprint_isLabels.con K), (16, statprint_isRate.con K), (17, dec_Good.con K), (18, statprint_isMember.con K)] [] K (getBody []) 0⟩
theorem statprint_Good.eq (K : Nat) (x : PL statprint_Good.sig.ps) : evalF (statprint_Good.cx K) statprint_Good.sig (bodyOf Tryz.f9) statprint_Good.ht x = statprint_Good.f K x := by kernel_rfl
theorem statprint_Good.fok (K : Nat) : FOK Tryz.prog statprint_Good.sig (fun x => statprint_Good.f K x) 9 := fok_of_eval (tt := tt) (cons := [(14, charset_Is.con K), (15, statprint_isLabels.con K), (16, statprint_isRate.con K), (17, dec_Good.con K), (18, statprint_isMember.con K)]) (exts := []) (bodies := (getBody [])) (K := K) (d := 0) ⟨ttok, (getCon_cons (charset_Is.ok K) (getCon_cons (statprint_isLabels.ok K) (getCon_cons (statprint_isRate.ok K) (getCon_cons (dec_Good.ok K) (getCon_cons (statprint_isMember.ok K) (fun _ _ => getCon_nil)))))), (fun _ _ => getExt_nil), (fun _ _ => getBody_nil)⟩ draw bok9 (statprint_Good.eq K)
theorem statprint_Good.ok (K : Nat) : ConOK Tryz.prog 9 (statprint_Good.con K) := con_ok bok9 (statprint_Good.fok K)

noncomputable def statprint_Print_1.f (K : Nat) (e0 : List UInt8 × List (List UInt8 × List UInt8) × Int × Int × Int × Int × Int × List UInt8) : Option Bool :=
  (statprint_Good.f K e0).bind fun r545 =>
  some (!r545)
def statprint_Print_1.sig : Sig := ⟨[(.agg (.pair .str (.pair (.sl (.pair .str .str)) (.pair (.int .i64) (.pair (.int .i64) (.pair (.int .i64) (.pair (.int .i64) (.pair (.int .i64) .str))))))))], [(.c .bool)]⟩
noncomputable def statprint_Print_1.con (K : Nat) : Con := (mkCon statprint_Print_1.sig (fun x => statprint_Print_1.f K x))
noncomputable def statprint_Print_1.ht : HT := .nil
noncomputable def statprint_Print_1.cx (K : Nat) : Cx := ⟨tt, [(9, statprint_Good.con K)], [], K, inlOf tt [(9, statprint_Good.con K)] [] K (getBody []) 0⟩
theorem statprint_Print_1.eq (K : Nat) (x : PL statprint_Print_1.sig.ps) : evalF (statprint_Print_1.cx K) statprint_Print_1.sig (bodyOf Tryz.f20) statprint_Print_1.ht x = statprint_Print_1.f K x := by kernel_rfl
theorem statprint_Print_1.fok (K : Nat) : FOK Tryz.prog statprint_Print_1.sig (fun x => statprint_Print_1.f K x) 20 := fok_of_eval (tt := tt) (cons := [(9, statprint_Good.con K)]) (exts := []) (bodies := (getBody [])) (K := K) (d := 0) ⟨ttok, (getCon_cons (statprint_Good.ok K) (fun _ _ => getCon_nil)), (fun _ _ => getExt_nil), (fun _ _ => getBody_nil)⟩ draw bok20 (statprint_Print_1.eq K)
theorem statprint_Print_1.ok (K : Nat) : ConOK Tryz.prog 20 (statprint_Print_1.con K) := con_ok bok20 (statprint_Print_1.fok K)

noncomputable def dec_Print.f (K : Nat) (d0 : Int × Int) : Option (List UInt8) :=
  (dec_Good.f K d0).bind fun r546 =>
  bif !r546 then some ([] : List UInt8)
  else
  (((
      bif decide (d0.1 < 0) then
        some (IntKind.i64.wrap (0 - d0.1))
      else some d0.1) : Option Int)).bind fun m547 =>
  ((loopN K (fun (s_ : Int × Int × Int × List Int) =>
    match s_ with
    | (at560, m561, k562, b1_563) =>
      (((
          bif decide (m561 > 0) then some (.inr ())
          else
          bif decide (k562 ≤ d0.2) then
            some (.inr ())
          else some (.inl ())) : Option (Unit ⊕ Unit))).bind fun e_ =>
      match e_ with
      | .inl _ =>
        some (.inr (at560, b1_563))
      | .inr _ =>
        (((
            bif decide (k562 > 0) then
              bif k562 == d0.2 then
                bif idx (IntKind.i64.wrap (at560 - 1)) 24 then
                  bif decide ((IntKind.i64.wrap (at560 - 1)).toNat < b1_563.length) then
                    some (IntKind.i64.wrap (at560 - 1), (b1_563.set ((IntKind.i64.wrap (at560 - 1)).toNat) 46))
                  else none
                else none
              else some (at560, b1_563)
            else some (at560, b1_563)) : Option (Int × List Int))).bind fun (at564, b1_565) =>
        bif idx (IntKind.i64.wrap (at564 - 1)) 24 then
          bif decide ((IntKind.i64.wrap (at564 - 1)).toNat < b1_565.length) then
            some (.inl (IntKind.i64.wrap (at564 - 1), IntKind.i64.wrap (Int.tdiv m561 10), IntKind.i64.wrap (k562 + 1), (b1_565.set ((IntKind.i64.wrap (at564 - 1)).toNat) (IntKind.u8.wrap (IntKind.i64.wrap (48 + (Int.tmod m561 10)))))))
          else none
        else none) (24, m547, 0, ([(0 : Int), (0 : Int), (0 : Int), (0 : Int), (0 : Int), (0 : Int), (0 : Int), (0 : Int), (0 : Int), (0 : Int), (0 : Int), (0 : Int), (0 : Int), (0 : Int), (0 : Int), (0 : Int), (0 : Int), (0 : Int), (0 : Int), (0 : Int), (0 : Int), (0 : Int), (0 : Int), (0 : Int)] : List Int)) : Option (Int × List Int))).bind fun (at566, b1_567) =>
  bif decide (d0.1 < 0) then
    bif idx (IntKind.i64.wrap (at566 - 1)) 24 then
      bif decide ((IntKind.i64.wrap (at566 - 1)).toNat < b1_567.length) then
        bif (decide (0 ≤ (IntKind.i64.wrap (at566 - 1)))) && (decide ((IntKind.i64.wrap (at566 - 1)) ≤ (24 : Int))) then
          some (bytesOf (((b1_567.set ((IntKind.i64.wrap (at566 - 1)).toNat) 45).take 24).drop ((IntKind.i64.wrap (at566 - 1)).toNat)))
        else none
      else none
    else none
  else
  bif (decide (0 ≤ at566)) && (decide (at566 ≤ (24 : Int))) then
    some (bytesOf ((b1_567.take 24).drop at566.toNat))
  else none
def dec_Print.sig : Sig := ⟨[(.agg (.pair (.int .i64) (.int .i64)))], [(.c .str)]⟩
noncomputable def dec_Print.con (K : Nat) : Con := (mkCon dec_Print.sig (fun x => dec_Print.f K x))
noncomputable def dec_Print.ht : HT := .seq .nil (.seq .nil (.seq .nil (.seq .nil (.seq .nil (.join ⟨5, [], [], ⟨[], []⟩, [(.normal, ⟨[(5, .c (.v (.int .i64)))], []⟩)]⟩ (.seq .nil (.seq (.seq .nil (.block (.loop ⟨4, [], [1], ⟨[(4, .c (.v (.int .i64))), (5, .c (.v (.int .i64))), (6, .c (.v (.int .i64)))], [(1, .arr 117 (.int .u8))]⟩, [(.exit 0, ⟨[(4, .c (.v (.int .i64)))], [(1, .arr 117 (.int .u8))]⟩)]⟩ (.join ⟨7, [], [], ⟨[], []⟩, [(.exit 0, ⟨[], []⟩), (.normal, ⟨[], []⟩)]⟩ (.seq .nil (.seq (.block (.join ⟨7, [4], [1], ⟨[], []⟩, [(.normal, ⟨[(4, .c (.v (.int .i64)))], [(1, .arr 117 (.int .u8))]⟩)]⟩ (.seq .nil .nil))) .nil)))))) .nil)))))))
noncomputable def dec_Print.cx (K : Nat) : Cx := ⟨tt, [(17, dec_Good.con K)], [], K, inlOf tt [(17, dec_Good.con K)] [] K (getBody []) 0⟩
theorem dec_Print.eq (K : Nat) (x : PL dec_Print.sig.ps) : evalF (dec_Print.cx K) dec_Print.sig (bodyOf Tryz.f40) dec_Print.ht x = dec_Print.f K x := by kernel_rfl
theorem dec_Print.fok (K : Nat) : FOK Tryz.prog dec_Print.sig (fun x => dec_Print.f K x) 40 := fok_of_eval (tt := tt) (cons := [(17, dec_Good.con K)]) (exts := []) (bodies := (getBody [])) (K := K) (d := 0) ⟨ttok, (getCon_cons (dec_Good.ok K) (fun _ _ => getCon_nil)), (fun _ _ => getExt_nil), (fun _ _ => getBody_nil)⟩ draw bok40 (dec_Print.eq K)
theorem dec_Print.ok (K : Nat) : ConOK Tryz.prog 40 (dec_Print.con K) := con_ok bok40 (dec_Print.fok K)

noncomputable def statprint_said.f (K : Nat) (e0 : List UInt8 × List (List UInt8 × List UInt8) × Int × Int × Int × Int × Int × List UInt8) : Option (List UInt8) :=
  (dec_Print.f K (e0.2.2.2.1, e0.2.2.2.2.1)).bind fun r568 =>
  bif e0.2.2.1 == 1 then
    bif decide (r568.length + ([124, 99] : List UInt8).length ≤ LIM) then
      some (r568 ++ ([124, 99] : List UInt8))
    else none
  else
  bif e0.2.2.1 == 4 then
    bif decide (r568.length + ([124, 109, 115] : List UInt8).length ≤ LIM) then
      some (r568 ++ ([124, 109, 115] : List UInt8))
    else none
  else
  bif e0.2.2.1 == 5 then
    bif decide (e0.2.2.2.2.2.2.2.length + ([124, 115] : List UInt8).length ≤ LIM) then
      some (e0.2.2.2.2.2.2.2 ++ ([124, 115] : List UInt8))
    else none
  else
  bif e0.2.2.1 == 3 then
    bif decide (e0.2.2.2.1 ≥ 0) then
      bif decide (([43] : List UInt8).length + r568.length ≤ LIM) then
        bif decide ((([43] : List UInt8) ++ r568).length + ([124, 103] : List UInt8).length ≤ LIM) then
          some ((([43] : List UInt8) ++ r568) ++ ([124, 103] : List UInt8))
        else none
      else none
    else
    bif decide (r568.length + ([124, 103] : List UInt8).length ≤ LIM) then
      some (r568 ++ ([124, 103] : List UInt8))
    else none
  else
  bif decide (r568.length + ([124, 103] : List UInt8).length ≤ LIM) then
    some (r568 ++ ([124, 103] : List UInt8))
  else none
def statprint_said.sig : Sig := ⟨[(.agg (.pair .str (.pair (.sl (.pair .str .str)) (.pair (.int .i64) (.pair (.int .i64) (.pair (.int .i64) (.pair (.int .i64) (.pair (.int .i64) .str))))))))], [(.c .str)]⟩
noncomputable def statprint_said.con (K : Nat) : Con := (mkCon statprint_said.sig (fun x => statprint_said.f K x))
noncomputable def statprint_said.ht : HT := .nil
noncomputable def statprint_said.cx (K : Nat) : Cx := ⟨tt, [(40, dec_Print.con K)], [], K, inlOf tt [(40, dec_Print.con K)] [] K (getBody []) 0⟩
theorem statprint_said.eq (K : Nat) (x : PL statprint_said.sig.ps) : evalF (statprint_said.cx K) statprint_said.sig (bodyOf Tryz.f39) statprint_said.ht x = statprint_said.f K x := by kernel_rfl
theorem statprint_said.fok (K : Nat) : FOK Tryz.prog statprint_said.sig (fun x => statprint_said.f K x) 39 := fok_of_eval (tt := tt) (cons := [(40, dec_Print.con K)]) (exts := []) (bodies := (getBody [])) (K := K) (d := 0) ⟨ttok, (getCon_cons (dec_Print.ok K) (fun _ _ => getCon_nil)), (fun _ _ => getExt_nil), (fun _ _ => getBody_nil)⟩ draw bok39 (statprint_said.eq K)
theorem statprint_said.ok (K : Nat) : ConOK Tryz.prog 39 (statprint_said.con K) := con_ok bok39 (statprint_said.fok K)

noncomputable def strings_Join.f (K : Nat) (l : List (List UInt8)) (s : List UInt8) : Option (List UInt8) := joinF l s
def strings_Join.sig : Sig := ⟨[(.c (.sl .str)), (.c .str)], [(.c .str)]⟩
noncomputable def strings_Join.con (K : Nat) : Con := (mkCon strings_Join.sig (fun x => strings_Join.f K x.1 x.2))
theorem strings_Join.fok (K : Nat) : FOK Tryz.prog strings_Join.sig (fun x => strings_Join.f K x.1 x.2) 41 := join_fok (Any.strings_Join_none Tryz.lays156 Tryz.extra156) (Any.strings_Join Tryz.lays156 Tryz.extra156)
theorem strings_Join.ok (K : Nat) : ConOK Tryz.prog 41 (strings_Join.con K) := con_ok bok41 (strings_Join.fok K)

noncomputable def statprint_line.f (K : Nat) (e0 : List UInt8 × List (List UInt8 × List UInt8) × Int × Int × Int × Int × Int × List UInt8) : Option (List UInt8) :=
  bif decide (e0.1.length + ([58] : List UInt8).length ≤ LIM) then
    (statprint_said.f K e0).bind fun r569 =>
    bif decide ((e0.1 ++ ([58] : List UInt8)).length + r569.length ≤ LIM) then
      (((
          bif e0.2.2.2.2.2.1 != 0 then
            bif !((e0.2.2.2.2.2.1 == 1) && ((e0.2.2.2.2.2.2.1 == (0 : Int)) && true)) then
              (dec_Print.f K (e0.2.2.2.2.2.1, e0.2.2.2.2.2.2.1)).bind fun r571 =>
              bif decide (([124, 64] : List UInt8).length + r571.length ≤ LIM) then
                bif decide (((e0.1 ++ ([58] : List UInt8)) ++ r569).length + (([124, 64] : List UInt8) ++ r571).length ≤ LIM) then
                  some (((e0.1 ++ ([58] : List UInt8)) ++ r569) ++ (([124, 64] : List UInt8) ++ r571))
                else none
              else none
            else some ((e0.1 ++ ([58] : List UInt8)) ++ r569)
          else some ((e0.1 ++ ([58] : List UInt8)) ++ r569)) : Option (List UInt8))).bind fun s572 =>
      ((loopN K (fun (s_ : List (List UInt8) × Int) =>
        match s_ with
        | (l577, t578) =>
          bif decide (t578 < (e0.2.1.length : Int)) then
            bif idx t578 e0.2.1.length then
              bif decide (((e0.2.1.getD t578.toNat (([] : List UInt8), ([] : List UInt8))).1).length + ([58] : List UInt8).length ≤ LIM) then
                bif decide ((((e0.2.1.getD t578.toNat (([] : List UInt8), ([] : List UInt8))).1) ++ ([58] : List UInt8)).length + ((e0.2.1.getD t578.toNat (([] : List UInt8), ([] : List UInt8))).2).length ≤ LIM) then
                  bif decide ((l577.length + ([(((e0.2.1.getD t578.toNat (([] : List UInt8), ([] : List UInt8))).1) ++ ([58] : List UInt8)) ++ ((e0.2.1.getD t578.toNat (([] : List UInt8), ([] : List UInt8))).2)] : List (List UInt8)).length) * 16 ≤ LIM) then
                    some (.inl ((l577 ++ ([(((e0.2.1.getD t578.toNat (([] : List UInt8), ([] : List UInt8))).1) ++ ([58] : List UInt8)) ++ ((e0.2.1.getD t578.toNat (([] : List UInt8), ([] : List UInt8))).2)] : List (List UInt8))), IntKind.i64.wrap (t578 + 1)))
                  else none
                else none
              else none
            else none
          else some (.inr l577)) (([] : List (List UInt8)), 0) : Option (List (List UInt8)))).bind fun l579 =>
      bif decide ((l579.length : Int) > 0) then
        (strings_Join.f K l579 ([44] : List UInt8)).bind fun r580 =>
        bif decide (([124, 35] : List UInt8).length + r580.length ≤ LIM) then
          bif decide (s572.length + (([124, 35] : List UInt8) ++ r580).length ≤ LIM) then
            some (s572 ++ (([124, 35] : List UInt8) ++ r580))
          else none
        else none
      else some s572
    else none
  else none
def statprint_line.sig : Sig := ⟨[(.agg (.pair .str (.pair (.sl (.pair .str .str)) (.pair (.int .i64) (.pair (.int .i64) (.pair (.int .i64) (.pair (.int .i64) (.pair (.int .i64) .str))))))))], [(.c .str)]⟩
noncomputable def statprint_line.con (K : Nat) : Con := (mkCon statprint_line.sig (fun x => statprint_line.f K x))
noncomputable def statprint_line.ht : HT := .seq .nil (.seq .nil (.join ⟨3, [], [], ⟨[], []⟩, [(.normal, ⟨[(3, .c (.v .str))], []⟩)]⟩ (.seq .nil (.seq .nil (.seq (.seq .nil (.block (.loop ⟨32, [4, 6], [], ⟨[(4, .c (.row 9 .str)), (32, .c (.v (.int .i64)))], []⟩, [(.exit 0, ⟨[(4, .c (.row 9 .str))], []⟩)]⟩ .nil))) .nil)))))
noncomputable def statprint_line.cx (K : Nat) : Cx := ⟨tt, [(39, statprint_said.con K), (40, dec_Print.con K), (41, strings_Join.con K)], [], K, inlOf tt [(39, statprint_said.con K), (40, dec_Print.con K), (41, strings_Join.con K)] [] K (getBody []) 0⟩
theorem statprint_line.eq (K : Nat) (x : PL statprint_line.sig.ps) : evalF (statprint_line.cx K) statprint_line.sig (bodyOf Tryz.f23) statprint_line.ht x = statprint_line.f K x := by kernel_rfl
theorem statprint_line.fok (K : Nat) : FOK Tryz.prog statprint_line.sig (fun x => statprint_line.f K x) 23 := fok_of_eval (tt := tt) (cons := [(39, statprint_said.con K), (40, dec_Print.con K), (41, strings_Join.con K)]) (exts := []) (bodies := (getBody [])) (K := K) (d := 0) ⟨ttok, (getCon_cons (statprint_said.ok K) (getCon_cons (dec_Print.ok K) (getCon_cons (strings_Join.ok K) (fun _ _ => getCon_nil)))), (fun _ _ => getExt_nil), (fun _ _ => getBody_nil)⟩ draw bok23 (statprint_line.eq K)
theorem statprint_line.ok (K : Nat) : ConOK Tryz.prog 23 (statprint_line.con K) := con_ok bok23 (statprint_line.fok K)

noncomputable def out_Out_Put.g (K : Nat) (xs2 : List (List UInt8)) (b_buf_0 : List Int) (most_1 : Int) (full_2 : Bool) : Option (Bool × List Int × Int × Bool) :=
  (((
      bif full_2 then
        some 0
      else some (IntKind.i64.wrap (most_1 - (b_buf_0.length : Int)))) : Option Int)).bind fun left1 =>
  ((loopN K (fun (s_ : Int × Int × List Int × Int × Bool) =>
    match s_ with
    | (left23, t24, b0_25, b0_26, b0_27) =>
      bif decide (t24 < (xs2.length : Int)) then
        bif idx t24 xs2.length then
          bif decide (t24.toNat < xs2.length) then
            (((
                bif b0_27 then
                  some (b0_25, b0_26, true)
                else some (b0_25, b0_26, decide (((xs2.getD t24.toNat ([] : List UInt8)).length : Int) > left23))) : Option (List Int × Int × Bool))).bind fun (b0_28, b0_29, b0_30) =>
            bif b0_30 then
              some (.inr (.inr (false, b0_28, b0_29, b0_30)))
            else some (.inl (IntKind.i64.wrap (left23 - ((xs2.getD t24.toNat ([] : List UInt8)).length : Int)), IntKind.i64.wrap (t24 + 1), b0_28, b0_29, b0_30))
          else none
        else none
      else some (.inr (.inl (b0_25, b0_26, b0_27)))) (left1, 0, b_buf_0, most_1, full_2) : Option ((List Int × Int × Bool) ⊕ (Bool × List Int × Int × Bool)))).bind fun e_ =>
  match e_ with
  | .inl (b0_31, b0_32, b0_33) =>
    bif b0_33 then some (false, b0_31, b0_32, b0_33)
    else
    ((loopN K (fun (s_ : Int × List Int × Int × Bool) =>
      match s_ with
      | (t39, b0_40, b0_41, b0_42) =>
        bif decide (t39 < (xs2.length : Int)) then
          bif idx t39 xs2.length then
            bif decide (t39.toNat < xs2.length) then
              bif decide ((b0_40.length + ((xs2.getD t39.toNat ([] : List UInt8)).map fun b => (b.toNat : Int)).length) * 1 ≤ LIM) then
                some (.inl (IntKind.i64.wrap (t39 + 1), (b0_40 ++ ((xs2.getD t39.toNat ([] : List UInt8)).map fun b => (b.toNat : Int))), b0_41, b0_42))
              else none
            else none
          else none
        else some (.inr (b0_40, b0_41, b0_42))) (0, b0_31, b0_32, b0_33) : Option (List Int × Int × Bool))).bind fun (b0_43, b0_44, b0_45) =>
    some (true, b0_43, b0_44, b0_45)
  | .inr (t46, b0_47, b0_48, b0_49) =>
    some (t46, b0_47, b0_48, b0_49)
noncomputable def out_Out_Put.g.ht (b0 : Nat) (b1 : Nat) (n : Nat) (w : List Nat) : HT := .join ⟨0, [], [b0] ++ w, ⟨[], [(b0, .cells 80 [.self b0 0, .row 5 (.int .u8), .v (.int .i64), .v .bool])]⟩, [(.ret, ⟨[(0, .c (.v .bool))], [(b0, .cells 80 [.self b0 0, .row 5 (.int .u8), .v (.int .i64), .v .bool])]⟩)]⟩ (.seq .nil (.join ⟨5, [], [], ⟨[], []⟩, [(.normal, ⟨[(5, .c (.v (.int .i64)))], []⟩)]⟩ (.seq .nil (.seq (.seq .nil (.block (.loop ⟨14, [4, 5, 7], [b0, n], ⟨[(5, .c (.v (.int .i64))), (14, .c (.v (.int .i64)))], [(b0, .cells 80 [.self b0 0, .row 5 (.int .u8), .v (.int .i64), .v .bool])]⟩, [(.exit 0, ⟨[], [(b0, .cells 80 [.self b0 0, .row 5 (.int .u8), .v (.int .i64), .v .bool])]⟩), (.ret, ⟨[(4, .c (.v .bool))], [(b0, .cells 80 [.self b0 0, .row 5 (.int .u8), .v (.int .i64), .v .bool])]⟩)]⟩ (.seq .nil (.seq .nil (.seq (.block (.seq .nil (.join ⟨15, [], [b0, (n + 1)], ⟨[], []⟩, [(.normal, ⟨[], [(b0, .cells 80 [.self b0 0, .row 5 (.int .u8), .v (.int .i64), .v .bool])]⟩)]⟩ (.seq .nil .nil)))) .nil)))))) (.seq .nil (.seq (.seq .nil (.block (.loop ⟨46, [9], [b0, (n + 1)], ⟨[(46, .c (.v (.int .i64)))], [(b0, .cells 80 [.self b0 0, .row 5 (.int .u8), .v (.int .i64), .v .bool])]⟩, [(.exit 2, ⟨[], [(b0, .cells 80 [.self b0 0, .row 5 (.int .u8), .v (.int .i64), .v .bool])]⟩)]⟩ .nil))) .nil))))))
noncomputable def statprint_Print.f (K : Nat) (l0 : List (List UInt8 × List (List UInt8 × List UInt8) × Int × Int × Int × Int × Int × List UInt8)) : Option (List UInt8 × Int) :=
  (((
      ((loopN K (fun (s_ : Int) =>
        match s_ with
        | t598 =>
          bif decide (t598 < (l0.length : Int)) then
            bif idx t598 l0.length then
              (statprint_Print_1.f K ((l0.getD t598.toNat (([] : List UInt8), (([] : List (List UInt8 × List UInt8)), ((0 : Int), ((0 : Int), ((0 : Int), ((0 : Int), ((0 : Int), ([] : List UInt8))))))))).1, ((l0.getD t598.toNat (([] : List UInt8), (([] : List (List UInt8 × List UInt8)), ((0 : Int), ((0 : Int), ((0 : Int), ((0 : Int), ((0 : Int), ([] : List UInt8))))))))).2).1, (((l0.getD t598.toNat (([] : List UInt8), (([] : List (List UInt8 × List UInt8)), ((0 : Int), ((0 : Int), ((0 : Int), ((0 : Int), ((0 : Int), ([] : List UInt8))))))))).2).2).1, ((((l0.getD t598.toNat (([] : List UInt8), (([] : List (List UInt8 × List UInt8)), ((0 : Int), ((0 : Int), ((0 : Int), ((0 : Int), ((0 : Int), ([] : List UInt8))))))))).2).2).2).1, (((((l0.getD t598.toNat (([] : List UInt8), (([] : List (List UInt8 × List UInt8)), ((0 : Int), ((0 : Int), ((0 : Int), ((0 : Int), ((0 : Int), ([] : List UInt8))))))))).2).2).2).2).1, ((((((l0.getD t598.toNat (([] : List UInt8), (([] : List (List UInt8 × List UInt8)), ((0 : Int), ((0 : Int), ((0 : Int), ((0 : Int), ((0 : Int), ([] : List UInt8))))))))).2).2).2).2).2).1, (((((((l0.getD t598.toNat (([] : List UInt8), (([] : List (List UInt8 × List UInt8)), ((0 : Int), ((0 : Int), ((0 : Int), ((0 : Int), ((0 : Int), ([] : List UInt8))))))))).2).2).2).2).2).2).1, (((((((l0.getD t598.toNat (([] : List UInt8), (([] : List (List UInt8 × List UInt8)), ((0 : Int), ((0 : Int), ((0 : Int), ((0 : Int), ((0 : Int), ([] : List UInt8))))))))).2).2).2).2).2).2).2)).bind fun r599 =>
              bif r599 then
                some (.inr (.inr t598))
              else some (.inl (IntKind.i64.wrap (t598 + 1)))
            else none
          else some (.inr (.inl ()))) 0 : Option (Unit ⊕ Int))).bind fun e_ =>
      match e_ with
      | .inl _ =>
        some (.inl ())
      | .inr t600 =>
        bif decide (t600 ≥ 0) then
          some (.inr (([] : List UInt8), 15))
        else some (.inl ())) : Option (Unit ⊕ (List UInt8 × Int)))).bind fun e_ =>
  match e_ with
  | .inl _ =>
    ((loopN K (fun (s_ : Int × List Int × Int × Bool) =>
      match s_ with
      | (t625, b0_626, b0_627, b0_628) =>
        bif decide (t625 < (l0.length : Int)) then
          bif idx t625 l0.length then
            (statprint_line.f K ((l0.getD t625.toNat (([] : List UInt8), (([] : List (List UInt8 × List UInt8)), ((0 : Int), ((0 : Int), ((0 : Int), ((0 : Int), ((0 : Int), ([] : List UInt8))))))))).1, ((l0.getD t625.toNat (([] : List UInt8), (([] : List (List UInt8 × List UInt8)), ((0 : Int), ((0 : Int), ((0 : Int), ((0 : Int), ((0 : Int), ([] : List UInt8))))))))).2).1, (((l0.getD t625.toNat (([] : List UInt8), (([] : List (List UInt8 × List UInt8)), ((0 : Int), ((0 : Int), ((0 : Int), ((0 : Int), ((0 : Int), ([] : List UInt8))))))))).2).2).1, ((((l0.getD t625.toNat (([] : List UInt8), (([] : List (List UInt8 × List UInt8)), ((0 : Int), ((0 : Int), ((0 : Int), ((0 : Int), ((0 : Int), ([] : List UInt8))))))))).2).2).2).1, (((((l0.getD t625.toNat (([] : List UInt8), (([] : List (List UInt8 × List UInt8)), ((0 : Int), ((0 : Int), ((0 : Int), ((0 : Int), ((0 : Int), ([] : List UInt8))))))))).2).2).2).2).1, ((((((l0.getD t625.toNat (([] : List UInt8), (([] : List (List UInt8 × List UInt8)), ((0 : Int), ((0 : Int), ((0 : Int), ((0 : Int), ((0 : Int), ([] : List UInt8))))))))).2).2).2).2).2).1, (((((((l0.getD t625.toNat (([] : List UInt8), (([] : List (List UInt8 × List UInt8)), ((0 : Int), ((0 : Int), ((0 : Int), ((0 : Int), ((0 : Int), ([] : List UInt8))))))))).2).2).2).2).2).2).1, (((((((l0.getD t625.toNat (([] : List UInt8), (([] : List (List UInt8 × List UInt8)), ((0 : Int), ((0 : Int), ((0 : Int), ((0 : Int), ((0 : Int), ([] : List UInt8))))))))).2).2).2).2).2).2).2)).bind fun r629 =>
            (out_Out_Put.g K ([r629, ([10] : List UInt8)] : List (List UInt8)) b0_626 b0_627 b0_628).bind fun (r630, b_buf631, most632, full633) =>
            some (.inl (IntKind.i64.wrap (t625 + 1), b_buf631, most632, full633))
          else none
        else some (.inr (b0_626, b0_627, b0_628))) (0, ([] : List Int), (if (bif false then decide (20000 > (if (bif true then decide (0 > 4000) else decide (0 < 4000)) = true then 0 else 4000)) else decide (20000 < (if (bif true then decide (0 > 4000) else decide (0 < 4000)) = true then 0 else 4000))) = true then 20000 else (if (bif true then decide (0 > 4000) else decide (0 < 4000)) = true then 0 else 4000)), false) : Option (List Int × Int × Bool))).bind fun (b0_634, b0_635, b0_636) =>
    bif b0_636 then some (([] : List UInt8), 14)
    else
    bif decide ((l0.length : Int) > 120) then
      some (([] : List UInt8), 14)
    else some (bytesOf b0_634, 0)
  | .inr (t637, t638) =>
    some (t637, t638)
def statprint_Print.sig : Sig := ⟨[(.c (.sl (.pair .str (.pair (.sl (.pair .str .str)) (.pair (.int .i64) (.pair (.int .i64) (.pair (.int .i64) (.pair (.int .i64) (.pair (.int .i64) .str)))))))))], [(.c .str), (.c (.int .i64))]⟩
noncomputable def statprint_Print.con (K : Nat) : Con := (mkCon statprint_Print.sig (fun x => statprint_Print.f K x))
noncomputable def statprint_Print.ht : HT := .seq .nil (.join ⟨1, [], [], ⟨[], []⟩, [(.normal, ⟨[], []⟩), (.ret, ⟨[(2, .c (.v .str)), (3, .c (.v (.int .i64)))], []⟩)]⟩ (.seq (.seq (.calls [(1, .seq .nil (.seq (.calls [(2, .seq .nil (.seq (.seq .nil (.block (.loop ⟨8, [4, 5], [], ⟨[(8, .c (.v (.int .i64)))], []⟩, [(.exit 0, ⟨[], []⟩), (.ret, ⟨[(4, .c (.v (.int .i64)))], []⟩)]⟩ .nil))) .nil))]) .nil))]) .nil) (.seq .nil (.seq (.seq .nil (.block (.loop ⟨12, [6], [0], ⟨[(12, .c (.v (.int .i64)))], [(0, .cells 80 [.self 0 0, .row 5 (.int .u8), .v (.int .i64), .v .bool])]⟩, [(.exit 0, ⟨[], [(0, .cells 80 [.self 0 0, .row 5 (.int .u8), .v (.int .i64), .v .bool])]⟩)]⟩ (.seq .nil (.seq .nil (.seq (.block (.seq .nil (.calls [(4, out_Out_Put.g.ht 0 3 4 [1])]))) .nil)))))) .nil))))
noncomputable def statprint_Print.cx (K : Nat) : Cx := ⟨tt, [(20, statprint_Print_1.con K), (23, statprint_line.con K)], [], K, inlOf tt [(20, statprint_Print_1.con K), (23, statprint_line.con K)] [] K (getBody [(19, bodyOf Tryz.f19), (21, bodyOf Tryz.f21), (22, bodyOf Tryz.f22), (24, bodyOf Tryz.f24), (25, bodyOf Tryz.f25), (36, bodyOf Tryz.f36), (37, bodyOf Tryz.f37), (38, bodyOf Tryz.f38), (42, (spBody (.text 5))), (69, bodyOf Tryz.f69), (70, (spBody (.copyCheck ccTs)))]) 3⟩
theorem statprint_Print.eq (K : Nat) (x : PL statprint_Print.sig.ps) : evalF (statprint_Print.cx K) statprint_Print.sig (bodyOf Tryz.f10) statprint_Print.ht x = statprint_Print.f K x := by kernel_rfl
theorem statprint_Print.fok (K : Nat) : FOK Tryz.prog statprint_Print.sig (fun x => statprint_Print.f K x) 10 := fok_of_eval (tt := tt) (cons := [(20, statprint_Print_1.con K), (23, statprint_line.con K)]) (exts := []) (bodies := (getBody [(19, bodyOf Tryz.f19), (21, bodyOf Tryz.f21), (22, bodyOf Tryz.f22), (24, bodyOf Tryz.f24), (25, bodyOf Tryz.f25), (36, bodyOf Tryz.f36), (37, bodyOf Tryz.f37), (38, bodyOf Tryz.f38), (42, (spBody (.text 5))), (69, bodyOf Tryz.f69), (70, (spBody (.copyCheck ccTs)))])) (K := K) (d := 3) ⟨ttok, (getCon_cons (statprint_Print_1.ok K) (getCon_cons (statprint_line.ok K) (fun _ _ => getCon_nil))), (fun _ _ => getExt_nil), (getBody_cons (gbody_mk bok19 rfl) (getBody_cons (gbody_mk bok21 rfl) (getBody_cons (gbody_mk bok22 rfl) (getBody_cons (gbody_mk bok24 rfl) (getBody_cons (gbody_mk bok25 rfl) (getBody_cons (gbody_mk bok36 rfl) (getBody_cons (gbody_mk bok37 rfl) (getBody_cons (gbody_mk bok38 rfl) (getBody_cons (gsp_mk sp42) (getBody_cons (gbody_mk bok69 rfl) (getBody_cons (gsp_mk sp70) (fun _ _ => getBody_nil))))))))))))⟩ draw bok10 (statprint_Print.eq K)
theorem statprint_Print.ok (K : Nat) : ConOK Tryz.prog 10 (statprint_Print.con K) := con_ok bok10 (statprint_Print.fok K)

noncomputable def polyglotlaw27_known.f (K : Nat) : Option Bool :=
  (statprint_Print.f K ([(([97] : List UInt8), ([] : List (List UInt8 × List UInt8)), 3, 5, (0 : Int), (0 : Int), (0 : Int), ([] : List UInt8)), (([98] : List UInt8), ([(([120] : List UInt8), ([49] : List UInt8))] : List (List UInt8 × List UInt8)), 4, 15, 1, 5, 1, ([] : List UInt8)), (([99] : List UInt8), ([] : List (List UInt8 × List UInt8)), 5, (0 : Int), (0 : Int), (0 : Int), (0 : Int), ([106, 111, 101] : List UInt8))] : List (List UInt8 × List (List UInt8 × List UInt8) × Int × Int × Int × Int × Int × List UInt8))).bind fun (r639, r640) =>
  (statprint_Print.f K ([(([97] : List UInt8), ([] : List (List UInt8 × List UInt8)), 2, (-1), (0 : Int), (0 : Int), (0 : Int), ([] : List UInt8))] : List (List UInt8 × List (List UInt8 × List UInt8) × Int × Int × Int × Int × Int × List UInt8))).bind fun (r641, r642) =>
  (statprint_Events.f K (([116] : List UInt8), ([(([97] : List UInt8), 1, ([] : List UInt8), ([] : List UInt8), ([(([] : List (List UInt8 × List UInt8)), (0 : Int), false, (0 : Int), (0 : Int), 5, (0 : Int), false, (0 : Int))] : List (List (List UInt8 × List UInt8) × Int × Bool × Int × Int × Int × Int × Bool × Int)))] : List (List UInt8 × Int × List UInt8 × List UInt8 × List (List (List UInt8 × List UInt8) × Int × Bool × Int × Int × Int × Int × Bool × Int))))).bind fun (r643, r644) =>
  (statprint_Events.f K (([] : List UInt8), ([] : List (List UInt8 × Int × List UInt8 × List UInt8 × List (List (List UInt8 × List UInt8) × Int × Bool × Int × Int × Int × Int × Bool × Int))))).bind fun (r645, r646) =>
  (statprint_Print.f K ([] : List (List UInt8 × List (List UInt8 × List UInt8) × Int × Int × Int × Int × Int × List UInt8))).bind fun (r647, r648) =>
  bif r640 == 0 then
    bif r639 == ([97, 58, 43, 53, 124, 103, 10, 98, 58, 49, 46, 53, 124, 109, 115, 124, 64, 48, 46, 53, 124, 35, 120, 58, 49, 10, 99, 58, 106, 111, 101, 124, 115, 10] : List UInt8) then
      bif r642 == 15 then
        bif r644 then
          bif (r643.length : Int) == 1 then
            bif idx 0 r643.length then
              bif ((((r643.getD 0 (([] : List UInt8), (([] : List (List UInt8 × List UInt8)), ((0 : Int), ((0 : Int), ((0 : Int), ((0 : Int), ((0 : Int), ([] : List UInt8))))))))).2).2).1) == 2 then
                bif idx 0 r643.length then
                  bif (((((r643.getD 0 (([] : List UInt8), (([] : List (List UInt8 × List UInt8)), ((0 : Int), ((0 : Int), ((0 : Int), ((0 : Int), ((0 : Int), ([] : List UInt8))))))))).2).2).2).1) == 5 then
                    bif !r646 then
                      bif r647 == ([] : List UInt8) then
                        bif r648 == 0 then
                          (statprint_Good.f K (([] : List UInt8), ([] : List (List UInt8 × List UInt8)), (0 : Int), (0 : Int), (0 : Int), (0 : Int), (0 : Int), ([] : List UInt8))).bind fun r649 =>
                          some (!r649)
                        else some false
                      else some false
                    else some false
                  else some false
                else none
              else some false
            else none
          else some false
        else some false
      else some false
    else some false
  else some false
def polyglotlaw27_known.sig : Sig := ⟨[], [(.c .bool)]⟩
noncomputable def polyglotlaw27_known.con (K : Nat) : Con := (mkCon polyglotlaw27_known.sig (fun _ => polyglotlaw27_known.f K))
noncomputable def polyglotlaw27_known.ht : HT := .nil
noncomputable def polyglotlaw27_known.cx (K : Nat) : Cx := ⟨tt, [(10, statprint_Print.con K), (6, statprint_Events.con K), (9, statprint_Good.con K)], [], K, inlOf tt [(10, statprint_Print.con K), (6, statprint_Events.con K), (9, statprint_Good.con K)] [] K (getBody []) 0⟩
theorem polyglotlaw27_known.eq (K : Nat) (x : PL polyglotlaw27_known.sig.ps) : evalF (polyglotlaw27_known.cx K) polyglotlaw27_known.sig (bodyOf Tryz.f4) polyglotlaw27_known.ht x = polyglotlaw27_known.f K := by kernel_rfl
theorem polyglotlaw27_known.fok (K : Nat) : FOK Tryz.prog polyglotlaw27_known.sig (fun _ => polyglotlaw27_known.f K) 4 := fok_of_eval (tt := tt) (cons := [(10, statprint_Print.con K), (6, statprint_Events.con K), (9, statprint_Good.con K)]) (exts := []) (bodies := (getBody [])) (K := K) (d := 0) ⟨ttok, (getCon_cons (statprint_Print.ok K) (getCon_cons (statprint_Events.ok K) (getCon_cons (statprint_Good.ok K) (fun _ _ => getCon_nil)))), (fun _ _ => getExt_nil), (fun _ _ => getBody_nil)⟩ draw bok4 (polyglotlaw27_known.eq K)
theorem polyglotlaw27_known.ok (K : Nat) : ConOK Tryz.prog 4 (polyglotlaw27_known.con K) := con_ok bok4 (polyglotlaw27_known.fok K)

noncomputable def polyglothelp_Wide.f (K : Nat) (b0 : List UInt8 × List (List UInt8 × Int × List UInt8 × List UInt8 × List (List (List UInt8 × List UInt8) × Int × Bool × Int × Int × Int × Int × Bool × Int))) : Option Bool :=
  (((
      bif decide ((b0.2.length : Int) > 40) then
        some true
      else some (decide ((b0.1.length : Int) > 100))) : Option Bool)).bind fun t650 =>
  bif t650 then some true
  else
  ((loopN K (fun (s_ : Int × Int) =>
    match s_ with
    | (n669, i670) =>
      bif decide (i670 < (b0.2.length : Int)) then
        bif idx i670 b0.2.length then
          (((
              bif decide ((IntKind.i64.wrap (n669 + ((((((b0.2.getD i670.toNat (([] : List UInt8), ((0 : Int), (([] : List UInt8), (([] : List UInt8), ([] : List (List (List UInt8 × List UInt8) × Int × Bool × Int × Int × Int × Int × Bool × Int))))))).2).2).2).2).length : Int))) > 130) then some true
              else
              bif decide (((((((b0.2.getD i670.toNat (([] : List UInt8), ((0 : Int), (([] : List UInt8), (([] : List UInt8), ([] : List (List (List UInt8 × List UInt8) × Int × Bool × Int × Int × Int × Int × Bool × Int))))))).2).2).2).2).length : Int) > 130) then some true
              else
              bif decide ((((b0.2.getD i670.toNat (([] : List UInt8), ((0 : Int), (([] : List UInt8), (([] : List UInt8), ([] : List (List (List UInt8 × List UInt8) × Int × Bool × Int × Int × Int × Int × Bool × Int))))))).1).length : Int) > 100) then some true
              else
              bif decide ((((((b0.2.getD i670.toNat (([] : List UInt8), ((0 : Int), (([] : List UInt8), (([] : List UInt8), ([] : List (List (List UInt8 × List UInt8) × Int × Bool × Int × Int × Int × Int × Bool × Int))))))).2).2).1).length : Int) > 100) then
                some true
              else some (decide (((((((b0.2.getD i670.toNat (([] : List UInt8), ((0 : Int), (([] : List UInt8), (([] : List UInt8), ([] : List (List (List UInt8 × List UInt8) × Int × Bool × Int × Int × Int × Int × Bool × Int))))))).2).2).2).1).length : Int) > 100))) : Option Bool)).bind fun t671 =>
          bif t671 then some (.inr (.inr true))
          else
          ((loopN K (fun (s_ : Int) =>
            match s_ with
            | k678 =>
              bif decide (k678 < ((((((b0.2.getD i670.toNat (([] : List UInt8), ((0 : Int), (([] : List UInt8), (([] : List UInt8), ([] : List (List (List UInt8 × List UInt8) × Int × Bool × Int × Int × Int × Int × Bool × Int))))))).2).2).2).2).length : Int)) then
                bif idx k678 ((((((b0.2.getD i670.toNat (([] : List UInt8), ((0 : Int), (([] : List UInt8), (([] : List UInt8), ([] : List (List (List UInt8 × List UInt8) × Int × Bool × Int × Int × Int × Int × Bool × Int))))))).2).2).2).2).length) then
                  bif decide (((((((((b0.2.getD i670.toNat (([] : List UInt8), ((0 : Int), (([] : List UInt8), (([] : List UInt8), ([] : List (List (List UInt8 × List UInt8) × Int × Bool × Int × Int × Int × Int × Bool × Int))))))).2).2).2).2).getD k678.toNat (([] : List (List UInt8 × List UInt8)), ((0 : Int), (false, ((0 : Int), ((0 : Int), ((0 : Int), ((0 : Int), (false, (0 : Int)))))))))).1).length : Int) > 12) then some (.inr (.inr true))
                  else
                  ((loopN K (fun (s_ : Int) =>
                    match s_ with
                    | j681 =>
                      bif idx k678 ((((((b0.2.getD i670.toNat (([] : List UInt8), ((0 : Int), (([] : List UInt8), (([] : List UInt8), ([] : List (List (List UInt8 × List UInt8) × Int × Bool × Int × Int × Int × Int × Bool × Int))))))).2).2).2).2).length) then
                        bif decide (j681 < ((((((((b0.2.getD i670.toNat (([] : List UInt8), ((0 : Int), (([] : List UInt8), (([] : List UInt8), ([] : List (List (List UInt8 × List UInt8) × Int × Bool × Int × Int × Int × Int × Bool × Int))))))).2).2).2).2).getD k678.toNat (([] : List (List UInt8 × List UInt8)), ((0 : Int), (false, ((0 : Int), ((0 : Int), ((0 : Int), ((0 : Int), (false, (0 : Int)))))))))).1).length : Int)) then
                          bif idx k678 ((((((b0.2.getD i670.toNat (([] : List UInt8), ((0 : Int), (([] : List UInt8), (([] : List UInt8), ([] : List (List (List UInt8 × List UInt8) × Int × Bool × Int × Int × Int × Int × Bool × Int))))))).2).2).2).2).length) then
                            bif idx j681 ((((((((b0.2.getD i670.toNat (([] : List UInt8), ((0 : Int), (([] : List UInt8), (([] : List UInt8), ([] : List (List (List UInt8 × List UInt8) × Int × Bool × Int × Int × Int × Int × Bool × Int))))))).2).2).2).2).getD k678.toNat (([] : List (List UInt8 × List UInt8)), ((0 : Int), (false, ((0 : Int), ((0 : Int), ((0 : Int), ((0 : Int), (false, (0 : Int)))))))))).1).length) then
                              bif decide (((((((((((b0.2.getD i670.toNat (([] : List UInt8), ((0 : Int), (([] : List UInt8), (([] : List UInt8), ([] : List (List (List UInt8 × List UInt8) × Int × Bool × Int × Int × Int × Int × Bool × Int))))))).2).2).2).2).getD k678.toNat (([] : List (List UInt8 × List UInt8)), ((0 : Int), (false, ((0 : Int), ((0 : Int), ((0 : Int), ((0 : Int), (false, (0 : Int)))))))))).1).getD j681.toNat (([] : List UInt8), ([] : List UInt8))).1).length : Int) > 100) then some (.inr (.inr true))
                              else
                              bif decide (((((((((((b0.2.getD i670.toNat (([] : List UInt8), ((0 : Int), (([] : List UInt8), (([] : List UInt8), ([] : List (List (List UInt8 × List UInt8) × Int × Bool × Int × Int × Int × Int × Bool × Int))))))).2).2).2).2).getD k678.toNat (([] : List (List UInt8 × List UInt8)), ((0 : Int), (false, ((0 : Int), ((0 : Int), ((0 : Int), ((0 : Int), (false, (0 : Int)))))))))).1).getD j681.toNat (([] : List UInt8), ([] : List UInt8))).2).length : Int) > 100) then
                                some (.inr (.inr true))
                              else some (.inl (IntKind.i64.wrap (j681 + 1)))
                            else none
                          else none
                        else some (.inr (.inl ()))
                      else none) 0 : Option (Unit ⊕ Bool))).bind fun e_ =>
                  match e_ with
                  | .inl _ =>
                    some (.inl (IntKind.i64.wrap (k678 + 1)))
                  | .inr t682 =>
                    some (.inr (.inr t682))
                else none
              else some (.inr (.inl ()))) 0 : Option (Unit ⊕ Bool))).bind fun e_ =>
          match e_ with
          | .inl _ =>
            some (.inl (IntKind.i64.wrap (n669 + ((((((b0.2.getD i670.toNat (([] : List UInt8), ((0 : Int), (([] : List UInt8), (([] : List UInt8), ([] : List (List (List UInt8 × List UInt8) × Int × Bool × Int × Int × Int × Int × Bool × Int))))))).2).2).2).2).length : Int)), IntKind.i64.wrap (i670 + 1)))
          | .inr t683 =>
            some (.inr (.inr t683))
        else none
      else some (.inr (.inl ()))) (0, 0) : Option (Unit ⊕ Bool))).bind fun e_ =>
  match e_ with
  | .inl _ =>
    some false
  | .inr t684 =>
    some t684
def polyglothelp_Wide.sig : Sig := ⟨[(.agg (.pair .str (.sl (.pair .str (.pair (.int .i64) (.pair .str (.pair .str (.sl (.pair (.sl (.pair .str .str)) (.pair (.int .i64) (.pair .bool (.pair (.int .i64) (.pair (.int .i64) (.pair (.int .i64) (.pair (.int .i64) (.pair .bool (.int .i64)))))))))))))))))], [(.c .bool)]⟩
noncomputable def polyglothelp_Wide.con (K : Nat) : Con := (mkCon polyglothelp_Wide.sig (fun x => polyglothelp_Wide.f K x))
noncomputable def polyglothelp_Wide.ht : HT := .seq .nil (.seq (.join ⟨3, [], [], ⟨[], []⟩, [(.normal, ⟨[(18, .c (.v .bool))], []⟩)]⟩ (.seq .nil .nil)) (.seq .nil (.seq (.seq .nil (.block (.loop ⟨2, [], [], ⟨[(3, .c (.v (.int .i64))), (4, .c (.v (.int .i64)))], []⟩, [(.exit 0, ⟨[], []⟩), (.ret, ⟨[(2, .c (.v .bool))], []⟩)]⟩ (.seq .nil (.seq (.block (.seq .nil (.seq (.seq .nil (.join ⟨6, [], [], ⟨[], []⟩, [(.normal, ⟨[(64, .c (.v .bool))], []⟩)]⟩ (.seq .nil .nil))) (.seq .nil (.block (.loop ⟨6, [2], [], ⟨[(6, .c (.v (.int .i64)))], []⟩, [(.exit 2, ⟨[], []⟩), (.ret, ⟨[(2, .c (.v .bool))], []⟩)]⟩ (.seq .nil (.seq (.block (.seq .nil (.seq .nil (.block (.loop ⟨7, [2], [], ⟨[(7, .c (.v (.int .i64)))], []⟩, [(.exit 4, ⟨[], []⟩), (.ret, ⟨[(2, .c (.v .bool))], []⟩)]⟩ .nil))))) .nil)))))))) .nil))))) .nil)))
noncomputable def polyglothelp_Wide.cx (K : Nat) : Cx := ⟨tt, [], [], K, inlOf tt [] [] K (getBody []) 0⟩
theorem polyglothelp_Wide.eq (K : Nat) (x : PL polyglothelp_Wide.sig.ps) : evalF (polyglothelp_Wide.cx K) polyglothelp_Wide.sig (bodyOf Tryz.f5) polyglothelp_Wide.ht x = polyglothelp_Wide.f K x := by kernel_rfl
theorem polyglothelp_Wide.fok (K : Nat) : FOK Tryz.prog polyglothelp_Wide.sig (fun x => polyglothelp_Wide.f K x) 5 := fok_of_eval (tt := tt) (cons := []) (exts := []) (bodies := (getBody [])) (K := K) (d := 0) ⟨ttok, (fun _ _ => getCon_nil), (fun _ _ => getExt_nil), (fun _ _ => getBody_nil)⟩ draw bok5 (polyglothelp_Wide.eq K)
theorem polyglothelp_Wide.ok (K : Nat) : ConOK Tryz.prog 5 (polyglothelp_Wide.con K) := con_ok bok5 (polyglothelp_Wide.fok K)

noncomputable def polyglotref7_text.f (K : Nat) (a0 : List UInt8) (b1 : List UInt8) : Option Int :=
  bif Op.bytesLess a0 b1 then some (-1)
  else
  bif !(Op.bytesLess a0 b1 || a0 == b1) then
    some 1
  else some 0
def polyglotref7_text.sig : Sig := ⟨[(.c .str), (.c .str)], [(.c (.int .i64))]⟩
noncomputable def polyglotref7_text.con (K : Nat) : Con := (mkCon polyglotref7_text.sig (fun x => polyglotref7_text.f K x.1 x.2))
noncomputable def polyglotref7_text.ht : HT := .nil
noncomputable def polyglotref7_text.cx (K : Nat) : Cx := ⟨tt, [], [], K, inlOf tt [] [] K (getBody []) 0⟩
theorem polyglotref7_text.eq (K : Nat) (x : PL polyglotref7_text.sig.ps) : evalF (polyglotref7_text.cx K) polyglotref7_text.sig (bodyOf Tryz.f29) polyglotref7_text.ht x = polyglotref7_text.f K x.1 x.2 := by kernel_rfl
theorem polyglotref7_text.fok (K : Nat) : FOK Tryz.prog polyglotref7_text.sig (fun x => polyglotref7_text.f K x.1 x.2) 29 := fok_of_eval (tt := tt) (cons := []) (exts := []) (bodies := (getBody [])) (K := K) (d := 0) ⟨ttok, (fun _ _ => getCon_nil), (fun _ _ => getExt_nil), (fun _ _ => getBody_nil)⟩ draw bok29 (polyglotref7_text.eq K)
theorem polyglotref7_text.ok (K : Nat) : ConOK Tryz.prog 29 (polyglotref7_text.con K) := con_ok bok29 (polyglotref7_text.fok K)

noncomputable def polyglotref7_number.f (K : Nat) (a0 : Int) (b1 : Int) : Option Int :=
  bif decide (a0 < b1) then some (-1)
  else
  bif decide (a0 > b1) then
    some 1
  else some 0
def polyglotref7_number.sig : Sig := ⟨[(.c (.int .i64)), (.c (.int .i64))], [(.c (.int .i64))]⟩
noncomputable def polyglotref7_number.con (K : Nat) : Con := (mkCon polyglotref7_number.sig (fun x => polyglotref7_number.f K x.1 x.2))
noncomputable def polyglotref7_number.ht : HT := .nil
noncomputable def polyglotref7_number.cx (K : Nat) : Cx := ⟨tt, [], [], K, inlOf tt [] [] K (getBody []) 0⟩
theorem polyglotref7_number.eq (K : Nat) (x : PL polyglotref7_number.sig.ps) : evalF (polyglotref7_number.cx K) polyglotref7_number.sig (bodyOf Tryz.f30) polyglotref7_number.ht x = polyglotref7_number.f K x.1 x.2 := by kernel_rfl
theorem polyglotref7_number.fok (K : Nat) : FOK Tryz.prog polyglotref7_number.sig (fun x => polyglotref7_number.f K x.1 x.2) 30 := fok_of_eval (tt := tt) (cons := []) (exts := []) (bodies := (getBody [])) (K := K) (d := 0) ⟨ttok, (fun _ _ => getCon_nil), (fun _ _ => getExt_nil), (fun _ _ => getBody_nil)⟩ draw bok30 (polyglotref7_number.eq K)
theorem polyglotref7_number.ok (K : Nat) : ConOK Tryz.prog 30 (polyglotref7_number.con K) := con_ok bok30 (polyglotref7_number.fok K)

noncomputable def polyglotref7_CompareLabels.f (K : Nat) (a0 : List (List UInt8 × List UInt8)) (b1 : List (List UInt8 × List UInt8)) : Option Int :=
  ((loopN K (fun (s_ : Int) =>
    match s_ with
    | i692 =>
      (((
          bif decide (i692 < (a0.length : Int)) then
            some (decide (i692 < (b1.length : Int)))
          else some false) : Option Bool)).bind fun t693 =>
      bif t693 then
        bif idx i692 a0.length then
          bif idx i692 b1.length then
            (polyglotref7_text.f K ((a0.getD i692.toNat (([] : List UInt8), ([] : List UInt8))).1) ((b1.getD i692.toNat (([] : List UInt8), ([] : List UInt8))).1)).bind fun r694 =>
            bif r694 != 0 then some (.inr (.inr r694))
            else
            bif idx i692 a0.length then
              bif idx i692 b1.length then
                (polyglotref7_text.f K ((a0.getD i692.toNat (([] : List UInt8), ([] : List UInt8))).2) ((b1.getD i692.toNat (([] : List UInt8), ([] : List UInt8))).2)).bind fun r695 =>
                bif r695 != 0 then
                  some (.inr (.inr r695))
                else some (.inl (IntKind.i64.wrap (i692 + 1)))
              else none
            else none
          else none
        else none
      else some (.inr (.inl ()))) 0 : Option (Unit ⊕ Int))).bind fun e_ =>
  match e_ with
  | .inl _ =>
    (polyglotref7_number.f K (a0.length : Int) (b1.length : Int)).bind fun r696 =>
    some r696
  | .inr t697 =>
    some t697
def polyglotref7_CompareLabels.sig : Sig := ⟨[(.c (.sl (.pair .str .str))), (.c (.sl (.pair .str .str)))], [(.c (.int .i64))]⟩
noncomputable def polyglotref7_CompareLabels.con (K : Nat) : Con := (mkCon polyglotref7_CompareLabels.sig (fun x => polyglotref7_CompareLabels.f K x.1 x.2))
noncomputable def polyglotref7_CompareLabels.ht : HT := .seq .nil (.seq (.seq .nil (.block (.loop ⟨2, [], [], ⟨[(5, .c (.v (.int .i64)))], []⟩, [(.exit 0, ⟨[], []⟩), (.ret, ⟨[(4, .c (.v (.int .i64)))], []⟩)]⟩ (.seq (.join ⟨6, [], [], ⟨[], []⟩, [(.normal, ⟨[(17, .c (.v .bool))], []⟩)]⟩ (.seq .nil .nil)) .nil)))) .nil)
noncomputable def polyglotref7_CompareLabels.cx (K : Nat) : Cx := ⟨tt, [(29, polyglotref7_text.con K), (30, polyglotref7_number.con K)], [], K, inlOf tt [(29, polyglotref7_text.con K), (30, polyglotref7_number.con K)] [] K (getBody []) 0⟩
theorem polyglotref7_CompareLabels.eq (K : Nat) (x : PL polyglotref7_CompareLabels.sig.ps) : evalF (polyglotref7_CompareLabels.cx K) polyglotref7_CompareLabels.sig (bodyOf Tryz.f13) polyglotref7_CompareLabels.ht x = polyglotref7_CompareLabels.f K x.1 x.2 := by kernel_rfl
theorem polyglotref7_CompareLabels.fok (K : Nat) : FOK Tryz.prog polyglotref7_CompareLabels.sig (fun x => polyglotref7_CompareLabels.f K x.1 x.2) 13 := fok_of_eval (tt := tt) (cons := [(29, polyglotref7_text.con K), (30, polyglotref7_number.con K)]) (exts := []) (bodies := (getBody [])) (K := K) (d := 0) ⟨ttok, (getCon_cons (polyglotref7_text.ok K) (getCon_cons (polyglotref7_number.ok K) (fun _ _ => getCon_nil))), (fun _ _ => getExt_nil), (fun _ _ => getBody_nil)⟩ draw bok13 (polyglotref7_CompareLabels.eq K)
theorem polyglotref7_CompareLabels.ok (K : Nat) : ConOK Tryz.prog 13 (polyglotref7_CompareLabels.con K) := con_ok bok13 (polyglotref7_CompareLabels.fok K)

noncomputable def polyglotref7_SameLabels.f (K : Nat) (a0 : List (List UInt8 × List UInt8)) (b1 : List (List UInt8 × List UInt8)) : Option Bool :=
  (polyglotref7_CompareLabels.f K a0 b1).bind fun r698 =>
  some (r698 == 0)
def polyglotref7_SameLabels.sig : Sig := ⟨[(.c (.sl (.pair .str .str))), (.c (.sl (.pair .str .str)))], [(.c .bool)]⟩
noncomputable def polyglotref7_SameLabels.con (K : Nat) : Con := (mkCon polyglotref7_SameLabels.sig (fun x => polyglotref7_SameLabels.f K x.1 x.2))
noncomputable def polyglotref7_SameLabels.ht : HT := .nil
noncomputable def polyglotref7_SameLabels.cx (K : Nat) : Cx := ⟨tt, [(13, polyglotref7_CompareLabels.con K)], [], K, inlOf tt [(13, polyglotref7_CompareLabels.con K)] [] K (getBody []) 0⟩
theorem polyglotref7_SameLabels.eq (K : Nat) (x : PL polyglotref7_SameLabels.sig.ps) : evalF (polyglotref7_SameLabels.cx K) polyglotref7_SameLabels.sig (bodyOf Tryz.f8) polyglotref7_SameLabels.ht x = polyglotref7_SameLabels.f K x.1 x.2 := by kernel_rfl
theorem polyglotref7_SameLabels.fok (K : Nat) : FOK Tryz.prog polyglotref7_SameLabels.sig (fun x => polyglotref7_SameLabels.f K x.1 x.2) 8 := fok_of_eval (tt := tt) (cons := [(13, polyglotref7_CompareLabels.con K)]) (exts := []) (bodies := (getBody [])) (K := K) (d := 0) ⟨ttok, (getCon_cons (polyglotref7_CompareLabels.ok K) (fun _ _ => getCon_nil)), (fun _ _ => getExt_nil), (fun _ _ => getBody_nil)⟩ draw bok8 (polyglotref7_SameLabels.eq K)
theorem polyglotref7_SameLabels.ok (K : Nat) : ConOK Tryz.prog 8 (polyglotref7_SameLabels.con K) := con_ok bok8 (polyglotref7_SameLabels.fok K)

end Go.Proofs.YtoobdenlgapcmaaGreat
