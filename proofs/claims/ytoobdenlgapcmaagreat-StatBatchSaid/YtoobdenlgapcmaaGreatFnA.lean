/- What each function of the program comes to, and that it does, part 1. -/
import Derived.Test.YtoobdenlgapcmaaGreatCl
import Derived.Test.YtoobdenlgapcmaaGreatShelf
import Derived.KernelRfl
set_option linter.unusedVariables false
namespace Go.Proofs.YtoobdenlgapcmaaGreat
open Go Go.Rf Go.Proofs Go.RowKit

noncomputable def utf_size.f (K : Nat) (c0 : Int) : Option Int :=
  bif decide (c0 < 128) then some 1
  else
  bif decide (c0 < 194) then some 0
  else
  bif decide (c0 < 224) then some 2
  else
  bif decide (c0 < 240) then some 3
  else
  bif decide (c0 < 245) then
    some 4
  else some 0
def utf_size.sig : Sig := ⟨[(.c (.int .u8))], [(.c (.int .i64))]⟩
noncomputable def utf_size.con (K : Nat) : Con := (mkCon utf_size.sig (fun x => utf_size.f K x))
noncomputable def utf_size.ht : HT := .nil
noncomputable def utf_size.cx (K : Nat) : Cx := ⟨tt, [], [], K, inlOf tt [] [] K (getBody []) 0⟩
theorem utf_size.eq (K : Nat) (x : PL utf_size.sig.ps) : evalF (utf_size.cx K) utf_size.sig (bodyOf Tryz.f128) utf_size.ht x = utf_size.f K x := by kernel_rfl
theorem utf_size.fok (K : Nat) : FOK Tryz.prog utf_size.sig (fun x => utf_size.f K x) 128 := fok_of_eval (tt := tt) (cons := []) (exts := []) (bodies := (getBody [])) (K := K) (d := 0) ⟨ttok, (fun _ _ => getCon_nil), (fun _ _ => getExt_nil), (fun _ _ => getBody_nil)⟩ draw bok128 (utf_size.eq K)
theorem utf_size.ok (K : Nat) : ConOK Tryz.prog 128 (utf_size.con K) := con_ok bok128 (utf_size.fok K)

noncomputable def utf_second.f (K : Nat) (c0 : Int) : Option (Int × Int) :=
  bif c0 == 224 then some (160, 191)
  else
  bif c0 == 237 then some (128, 159)
  else
  bif c0 == 240 then some (144, 191)
  else
  bif c0 == 244 then
    some (128, 143)
  else some (128, 191)
def utf_second.sig : Sig := ⟨[(.c (.int .u8))], [(.c (.int .u8)), (.c (.int .u8))]⟩
noncomputable def utf_second.con (K : Nat) : Con := (mkCon utf_second.sig (fun x => utf_second.f K x))
noncomputable def utf_second.ht : HT := .nil
noncomputable def utf_second.cx (K : Nat) : Cx := ⟨tt, [], [], K, inlOf tt [] [] K (getBody []) 0⟩
theorem utf_second.eq (K : Nat) (x : PL utf_second.sig.ps) : evalF (utf_second.cx K) utf_second.sig (bodyOf Tryz.f129) utf_second.ht x = utf_second.f K x := by kernel_rfl
theorem utf_second.fok (K : Nat) : FOK Tryz.prog utf_second.sig (fun x => utf_second.f K x) 129 := fok_of_eval (tt := tt) (cons := []) (exts := []) (bodies := (getBody [])) (K := K) (d := 0) ⟨ttok, (fun _ _ => getCon_nil), (fun _ _ => getExt_nil), (fun _ _ => getBody_nil)⟩ draw bok129 (utf_second.eq K)
theorem utf_second.ok (K : Nat) : ConOK Tryz.prog 129 (utf_second.con K) := con_ok bok129 (utf_second.fok K)

noncomputable def utf_front.f (K : Nat) (s0 : List UInt8) (at1 : Int) : Option (Int × Int × Bool) :=
  bif idx at1 s0.length then
    (utf_size.f K ((s0.getD at1.toNat 0).toNat : Int)).bind fun r1 =>
    bif r1 == 0 then some (0, 0, false)
    else
    bif idx at1 s0.length then
      bif idx r1 5 then
        bif decide (r1.toNat < 5) then
          bif idx at1 s0.length then
            (utf_second.f K ((s0.getD at1.toNat 0).toNat : Int)).bind fun (r2, r3) =>
            ((loopN K (fun (s_ : Int × Int × Int × Int) =>
              match s_ with
              | (r14, lo15, hi16, k17) =>
                bif decide (k17 < r1) then
                  (((
                      bif decide (k17 ≥ (IntKind.i64.wrap ((s0.length : Int) - at1))) then some true
                      else
                      bif idx (IntKind.i64.wrap (at1 + k17)) s0.length then
                        bif decide (((s0.getD ((IntKind.i64.wrap (at1 + k17)).toNat) 0).toNat : Int) < lo15) then some true
                        else
                        bif idx (IntKind.i64.wrap (at1 + k17)) s0.length then
                          some (decide (((s0.getD ((IntKind.i64.wrap (at1 + k17)).toNat) 0).toNat : Int) > hi16))
                        else none
                      else none) : Option Bool)).bind fun t18 =>
                  bif t18 then some (.inr (.inr (0, k17, false)))
                  else
                  bif idx (IntKind.i64.wrap (at1 + k17)) s0.length then
                    some (.inl (bitOp .or .i32 (IntKind.i32.wrap (r14 * 2 ^ 6)) (IntKind.i32.wrap (bitOp .and .u8 ((s0.getD ((IntKind.i64.wrap (at1 + k17)).toNat) 0).toNat : Int) 63)), 128, 191, IntKind.i64.wrap (k17 + 1)))
                  else none
                else some (.inr (.inl r14))) (IntKind.i32.wrap (bitOp .and .u8 ((s0.getD at1.toNat 0).toNat : Int) (([0, 127, 31, 15, 7] : List Int).getD r1.toNat (0 : Int))), r2, r3, 1) : Option (Int ⊕ (Int × Int × Bool)))).bind fun e_ =>
            match e_ with
            | .inl r19 =>
              some (r19, r1, true)
            | .inr (t20, t21, t22) =>
              some (t20, t21, t22)
          else none
        else none
      else none
    else none
  else none
def utf_front.sig : Sig := ⟨[(.c .str), (.c (.int .i64))], [(.c (.int .i32)), (.c (.int .i64)), (.c .bool)]⟩
noncomputable def utf_front.con (K : Nat) : Con := (mkCon utf_front.sig (fun x => utf_front.f K x.1 x.2))
noncomputable def utf_front.ht : HT := .seq .nil (.seq .nil (.seq .nil (.seq .nil (.seq .nil (.seq .nil (.seq (.seq .nil (.block (.loop ⟨8, [4, 5, 6], [], ⟨[(9, .c (.v (.int .i32))), (10, .c (.v (.int .u8))), (11, .c (.v (.int .u8))), (12, .c (.v (.int .i64)))], []⟩, [(.exit 0, ⟨[(9, .c (.v (.int .i32)))], []⟩), (.ret, ⟨[(4, .c (.v (.int .i32))), (5, .c (.v (.int .i64))), (6, .c (.v .bool))], []⟩)]⟩ (.seq .nil (.seq (.block (.seq (.join ⟨13, [], [], ⟨[], []⟩, [(.normal, ⟨[(63, .c (.v .bool))], []⟩)]⟩ (.seq .nil .nil)) .nil)) .nil))))) .nil))))))
noncomputable def utf_front.cx (K : Nat) : Cx := ⟨tt, [(128, utf_size.con K), (129, utf_second.con K)], [], K, inlOf tt [(128, utf_size.con K), (129, utf_second.con K)] [] K (getBody []) 0⟩
theorem utf_front.eq (K : Nat) (x : PL utf_front.sig.ps) : evalF (utf_front.cx K) utf_front.sig (bodyOf Tryz.f118) utf_front.ht x = utf_front.f K x.1 x.2 := by kernel_rfl
theorem utf_front.fok (K : Nat) : FOK Tryz.prog utf_front.sig (fun x => utf_front.f K x.1 x.2) 118 := fok_of_eval (tt := tt) (cons := [(128, utf_size.con K), (129, utf_second.con K)]) (exts := []) (bodies := (getBody [])) (K := K) (d := 0) ⟨ttok, (getCon_cons (utf_size.ok K) (getCon_cons (utf_second.ok K) (fun _ _ => getCon_nil))), (fun _ _ => getExt_nil), (fun _ _ => getBody_nil)⟩ draw bok118 (utf_front.eq K)
theorem utf_front.ok (K : Nat) : ConOK Tryz.prog 118 (utf_front.con K) := con_ok bok118 (utf_front.fok K)

noncomputable def utf_walk.f (K : Nat) (s0 : List UInt8) : Option (Int × Int) :=
  ((loopN K (fun (s_ : Int × Int) =>
    match s_ with
    | (count33, at34) =>
      bif decide (at34 < (s0.length : Int)) then
        (utf_front.f K s0 at34).bind fun (r35, r36, r37) =>
        bif !r37 then
          some (.inr (.inr ((-1), IntKind.i64.wrap (at34 + r36))))
        else some (.inl (IntKind.i64.wrap (count33 + 1), IntKind.i64.wrap (at34 + r36)))
      else some (.inr (.inl count33))) (0, 0) : Option (Int ⊕ (Int × Int)))).bind fun e_ =>
  match e_ with
  | .inl count38 =>
    some (count38, (-1))
  | .inr (t39, t40) =>
    some (t39, t40)
def utf_walk.sig : Sig := ⟨[(.c .str)], [(.c (.int .i64)), (.c (.int .i64))]⟩
noncomputable def utf_walk.con (K : Nat) : Con := (mkCon utf_walk.sig (fun x => utf_walk.f K x))
noncomputable def utf_walk.ht : HT := .seq .nil (.seq .nil (.seq (.seq .nil (.block (.loop ⟨1, [], [], ⟨[(4, .c (.v (.int .i64))), (5, .c (.v (.int .i64)))], []⟩, [(.exit 0, ⟨[(4, .c (.v (.int .i64)))], []⟩), (.ret, ⟨[(2, .c (.v (.int .i64))), (3, .c (.v (.int .i64)))], []⟩)]⟩ .nil))) .nil))
noncomputable def utf_walk.cx (K : Nat) : Cx := ⟨tt, [(118, utf_front.con K)], [], K, inlOf tt [(118, utf_front.con K)] [] K (getBody []) 0⟩
theorem utf_walk.eq (K : Nat) (x : PL utf_walk.sig.ps) : evalF (utf_walk.cx K) utf_walk.sig (bodyOf Tryz.f105) utf_walk.ht x = utf_walk.f K x := by kernel_rfl
theorem utf_walk.fok (K : Nat) : FOK Tryz.prog utf_walk.sig (fun x => utf_walk.f K x) 105 := fok_of_eval (tt := tt) (cons := [(118, utf_front.con K)]) (exts := []) (bodies := (getBody [])) (K := K) (d := 0) ⟨ttok, (getCon_cons (utf_front.ok K) (fun _ _ => getCon_nil)), (fun _ _ => getExt_nil), (fun _ _ => getBody_nil)⟩ draw bok105 (utf_walk.eq K)
theorem utf_walk.ok (K : Nat) : ConOK Tryz.prog 105 (utf_walk.con K) := con_ok bok105 (utf_walk.fok K)

noncomputable def utf_Bad.f (K : Nat) (s0 : List UInt8) : Option Int :=
  (utf_walk.f K s0).bind fun (r41, r42) =>
  some r42
def utf_Bad.sig : Sig := ⟨[(.c .str)], [(.c (.int .i64))]⟩
noncomputable def utf_Bad.con (K : Nat) : Con := (mkCon utf_Bad.sig (fun x => utf_Bad.f K x))
noncomputable def utf_Bad.ht : HT := .nil
noncomputable def utf_Bad.cx (K : Nat) : Cx := ⟨tt, [(105, utf_walk.con K)], [], K, inlOf tt [(105, utf_walk.con K)] [] K (getBody []) 0⟩
theorem utf_Bad.eq (K : Nat) (x : PL utf_Bad.sig.ps) : evalF (utf_Bad.cx K) utf_Bad.sig (bodyOf Tryz.f85) utf_Bad.ht x = utf_Bad.f K x := by kernel_rfl
theorem utf_Bad.fok (K : Nat) : FOK Tryz.prog utf_Bad.sig (fun x => utf_Bad.f K x) 85 := fok_of_eval (tt := tt) (cons := [(105, utf_walk.con K)]) (exts := []) (bodies := (getBody [])) (K := K) (d := 0) ⟨ttok, (getCon_cons (utf_walk.ok K) (fun _ _ => getCon_nil)), (fun _ _ => getExt_nil), (fun _ _ => getBody_nil)⟩ draw bok85 (utf_Bad.eq K)
theorem utf_Bad.ok (K : Nat) : ConOK Tryz.prog 85 (utf_Bad.con K) := con_ok bok85 (utf_Bad.fok K)

noncomputable def label_Value.f (K : Nat) (s0 : List UInt8) : Option Bool :=
  bif decide ((s0.length : Int) ≤ 60) then
    (utf_Bad.f K s0).bind fun r43 =>
    some (decide (r43 < 0))
  else some false
def label_Value.sig : Sig := ⟨[(.c .str)], [(.c .bool)]⟩
noncomputable def label_Value.con (K : Nat) : Con := (mkCon label_Value.sig (fun x => label_Value.f K x))
noncomputable def label_Value.ht : HT := .nil
noncomputable def label_Value.cx (K : Nat) : Cx := ⟨tt, [(85, utf_Bad.con K)], [], K, inlOf tt [(85, utf_Bad.con K)] [] K (getBody []) 0⟩
theorem label_Value.eq (K : Nat) (x : PL label_Value.sig.ps) : evalF (label_Value.cx K) label_Value.sig (bodyOf Tryz.f56) label_Value.ht x = label_Value.f K x := by kernel_rfl
theorem label_Value.fok (K : Nat) : FOK Tryz.prog label_Value.sig (fun x => label_Value.f K x) 56 := fok_of_eval (tt := tt) (cons := [(85, utf_Bad.con K)]) (exts := []) (bodies := (getBody [])) (K := K) (d := 0) ⟨ttok, (getCon_cons (utf_Bad.ok K) (fun _ _ => getCon_nil)), (fun _ _ => getExt_nil), (fun _ _ => getBody_nil)⟩ draw bok56 (label_Value.eq K)
theorem label_Value.ok (K : Nat) : ConOK Tryz.prog 56 (label_Value.con K) := con_ok bok56 (label_Value.fok K)

noncomputable def label_Name.f (K : Nat) (s0 : List UInt8) : Option Bool :=
  ((loopN K (fun (s_ : Int) =>
    match s_ with
    | t46 =>
      bif decide (t46 < (s0.length : Int)) then
        bif idx t46 s0.length then
          bif decide (((s0.getD t46.toNat 0).toNat : Int) < 32) then some (.inr (.inr false))
          else
          bif idx t46 s0.length then
            bif ((s0.getD t46.toNat 0).toNat : Int) == 127 then
              some (.inr (.inr false))
            else some (.inl (IntKind.i64.wrap (t46 + 1)))
          else none
        else none
      else some (.inr (.inl ()))) 0 : Option (Unit ⊕ Bool))).bind fun e_ =>
  match e_ with
  | .inl _ =>
    bif !(s0 == ([] : List UInt8)) then
      bif decide ((s0.length : Int) ≤ 60) then
        (utf_Bad.f K s0).bind fun r47 =>
        some (decide (r47 < 0))
      else some false
    else some false
  | .inr t48 =>
    some t48
def label_Name.sig : Sig := ⟨[(.c .str)], [(.c .bool)]⟩
noncomputable def label_Name.con (K : Nat) : Con := (mkCon label_Name.sig (fun x => label_Name.f K x))
noncomputable def label_Name.ht : HT := .seq .nil (.seq (.seq .nil (.block (.loop ⟨6, [2, 3], [], ⟨[(6, .c (.v (.int .i64)))], []⟩, [(.exit 0, ⟨[], []⟩), (.ret, ⟨[(2, .c (.v .bool))], []⟩)]⟩ .nil))) .nil)
noncomputable def label_Name.cx (K : Nat) : Cx := ⟨tt, [(85, utf_Bad.con K)], [], K, inlOf tt [(85, utf_Bad.con K)] [] K (getBody []) 0⟩
theorem label_Name.eq (K : Nat) (x : PL label_Name.sig.ps) : evalF (label_Name.cx K) label_Name.sig (bodyOf Tryz.f59) label_Name.ht x = label_Name.f K x := by kernel_rfl
theorem label_Name.fok (K : Nat) : FOK Tryz.prog label_Name.sig (fun x => label_Name.f K x) 59 := fok_of_eval (tt := tt) (cons := [(85, utf_Bad.con K)]) (exts := []) (bodies := (getBody [])) (K := K) (d := 0) ⟨ttok, (getCon_cons (utf_Bad.ok K) (fun _ _ => getCon_nil)), (fun _ _ => getExt_nil), (fun _ _ => getBody_nil)⟩ draw bok59 (label_Name.eq K)
theorem label_Name.ok (K : Nat) : ConOK Tryz.prog 59 (label_Name.con K) := con_ok bok59 (label_Name.fok K)

noncomputable def family_kinds.f (K : Nat) : Option (List UInt8 × List UInt8 × List UInt8 × List UInt8 × List UInt8) :=
  some (([117, 110, 107, 110, 111, 119, 110] : List UInt8), ([103, 97, 117, 103, 101] : List UInt8), ([99, 111, 117, 110, 116, 101, 114] : List UInt8), ([104, 105, 115, 116, 111, 103, 114, 97, 109] : List UInt8), ([115, 117, 109, 109, 97, 114, 121] : List UInt8))
def family_kinds.sig : Sig := ⟨[], [(.agg (.pair .str (.pair .str (.pair .str (.pair .str .str)))))]⟩
noncomputable def family_kinds.con (K : Nat) : Con := (mkCon family_kinds.sig (fun _ => family_kinds.f K))
noncomputable def family_kinds.ht : HT := .nil
noncomputable def family_kinds.cx (K : Nat) : Cx := ⟨tt, [], [], K, inlOf tt [] [] K (getBody []) 0⟩
theorem family_kinds.eq (K : Nat) (x : PL family_kinds.sig.ps) : evalF (family_kinds.cx K) family_kinds.sig (bodyOf Tryz.f93) family_kinds.ht x = family_kinds.f K := by kernel_rfl
theorem family_kinds.fok (K : Nat) : FOK Tryz.prog family_kinds.sig (fun _ => family_kinds.f K) 93 := fok_of_eval (tt := tt) (cons := []) (exts := []) (bodies := (getBody [])) (K := K) (d := 0) ⟨ttok, (fun _ _ => getCon_nil), (fun _ _ => getExt_nil), (fun _ _ => getBody_nil)⟩ draw bok93 (family_kinds.eq K)
theorem family_kinds.ok (K : Nat) : ConOK Tryz.prog 93 (family_kinds.con K) := con_ok bok93 (family_kinds.fok K)

noncomputable def family_Typed.f (K : Nat) (kind0 : Int) : Option (List UInt8) :=
  (family_kinds.f K).bind fun r49 =>
  bif decide (kind0 < 0) then some ([] : List UInt8)
  else
  bif decide (kind0 ≥ 5) then some ([] : List UInt8)
  else
  bif idx kind0 5 then
    bif decide (kind0.toNat < 5) then
      some (([r49.1, r49.2.1, r49.2.2.1, r49.2.2.2.1, r49.2.2.2.2] : List (List UInt8)).getD kind0.toNat ([] : List UInt8))
    else none
  else none
def family_Typed.sig : Sig := ⟨[(.c (.int .i64))], [(.c .str)]⟩
noncomputable def family_Typed.con (K : Nat) : Con := (mkCon family_Typed.sig (fun x => family_Typed.f K x))
noncomputable def family_Typed.ht : HT := .nil
noncomputable def family_Typed.cx (K : Nat) : Cx := ⟨tt, [(93, family_kinds.con K)], [], K, inlOf tt [(93, family_kinds.con K)] [] K (getBody []) 0⟩
theorem family_Typed.eq (K : Nat) (x : PL family_Typed.sig.ps) : evalF (family_Typed.cx K) family_Typed.sig (bodyOf Tryz.f72) family_Typed.ht x = family_Typed.f K x := by kernel_rfl
theorem family_Typed.fok (K : Nat) : FOK Tryz.prog family_Typed.sig (fun x => family_Typed.f K x) 72 := fok_of_eval (tt := tt) (cons := [(93, family_kinds.con K)]) (exts := []) (bodies := (getBody [])) (K := K) (d := 0) ⟨ttok, (getCon_cons (family_kinds.ok K) (fun _ _ => getCon_nil)), (fun _ _ => getExt_nil), (fun _ _ => getBody_nil)⟩ draw bok72 (family_Typed.eq K)
theorem family_Typed.ok (K : Nat) : ConOK Tryz.prog 72 (family_Typed.con K) := con_ok bok72 (family_Typed.fok K)

noncomputable def label_Good.f (K : Nat) (l0 : List (List UInt8 × List UInt8)) : Option Bool :=
  ((loopN K (fun (s_ : Int) =>
    match s_ with
    | t60 =>
      bif decide (t60 < (l0.length : Int)) then
        bif idx t60 l0.length then
          (((
              (label_Name.f K ((l0.getD t60.toNat (([] : List UInt8), ([] : List UInt8))).1)).bind fun r62 =>
              bif !r62 then some true
              else
              (label_Value.f K ((l0.getD t60.toNat (([] : List UInt8), ([] : List UInt8))).2)).bind fun r63 =>
              bif !r63 then some true
              else
              bif decide (t60 > 0) then
                bif idx (IntKind.i64.wrap (t60 - 1)) l0.length then
                  some (!(Op.bytesLess ((l0.getD ((IntKind.i64.wrap (t60 - 1)).toNat) (([] : List UInt8), ([] : List UInt8))).1) ((l0.getD t60.toNat (([] : List UInt8), ([] : List UInt8))).1)))
                else none
              else some false) : Option Bool)).bind fun t64 =>
          bif t64 then
            some (.inr (.inr false))
          else some (.inl (IntKind.i64.wrap (t60 + 1)))
        else none
      else some (.inr (.inl ()))) 0 : Option (Unit ⊕ Bool))).bind fun e_ =>
  match e_ with
  | .inl _ =>
    some (decide ((l0.length : Int) ≤ 8))
  | .inr t65 =>
    some t65
def label_Good.sig : Sig := ⟨[(.c (.sl (.pair .str .str)))], [(.c .bool)]⟩
noncomputable def label_Good.con (K : Nat) : Con := (mkCon label_Good.sig (fun x => label_Good.f K x))
noncomputable def label_Good.ht : HT := .seq .nil (.seq (.seq .nil (.block (.loop ⟨7, [2, 3, 4], [], ⟨[(7, .c (.v (.int .i64)))], []⟩, [(.exit 0, ⟨[], []⟩), (.ret, ⟨[(2, .c (.v .bool))], []⟩)]⟩ (.seq .nil (.seq .nil (.seq (.block (.seq .nil (.join ⟨8, [], [], ⟨[], []⟩, [(.normal, ⟨[(36, .c (.v .bool))], []⟩)]⟩ (.seq .nil .nil)))) .nil)))))) .nil)
noncomputable def label_Good.cx (K : Nat) : Cx := ⟨tt, [(59, label_Name.con K), (56, label_Value.con K)], [], K, inlOf tt [(59, label_Name.con K), (56, label_Value.con K)] [] K (getBody []) 0⟩
theorem label_Good.eq (K : Nat) (x : PL label_Good.sig.ps) : evalF (label_Good.cx K) label_Good.sig (bodyOf Tryz.f33) label_Good.ht x = label_Good.f K x := by kernel_rfl
theorem label_Good.fok (K : Nat) : FOK Tryz.prog label_Good.sig (fun x => label_Good.f K x) 33 := fok_of_eval (tt := tt) (cons := [(59, label_Name.con K), (56, label_Value.con K)]) (exts := []) (bodies := (getBody [])) (K := K) (d := 0) ⟨ttok, (getCon_cons (label_Name.ok K) (getCon_cons (label_Value.ok K) (fun _ _ => getCon_nil))), (fun _ _ => getExt_nil), (fun _ _ => getBody_nil)⟩ draw bok33 (label_Good.eq K)
theorem label_Good.ok (K : Nat) : ConOK Tryz.prog 33 (label_Good.con K) := con_ok bok33 (label_Good.fok K)

noncomputable def slices_Index_int_int.f (K : Nat) (s0 : List Int) (v1 : Int) : Option Int :=
  ((loopN K (fun (s_ : Int) =>
    match s_ with
    | t68 =>
      bif decide (t68 < (s0.length : Int)) then
        bif idx t68 s0.length then
          bif v1 == (s0.getD t68.toNat (0 : Int)) then
            some (.inr (.inr t68))
          else some (.inl (IntKind.i64.wrap (t68 + 1)))
        else none
      else some (.inr (.inl ()))) 0 : Option (Unit ⊕ Int))).bind fun e_ =>
  match e_ with
  | .inl _ =>
    some (-1)
  | .inr t69 =>
    some t69
def slices_Index_int_int.sig : Sig := ⟨[(.c (.sl (.int .i64))), (.c (.int .i64))], [(.c (.int .i64))]⟩
noncomputable def slices_Index_int_int.con (K : Nat) : Con := (mkCon slices_Index_int_int.sig (fun x => slices_Index_int_int.f K x.1 x.2))
noncomputable def slices_Index_int_int.ht : HT := .seq .nil (.seq (.seq .nil (.block (.loop ⟨8, [4, 5], [], ⟨[(8, .c (.v (.int .i64)))], []⟩, [(.exit 0, ⟨[], []⟩), (.ret, ⟨[(4, .c (.v (.int .i64)))], []⟩)]⟩ .nil))) .nil)
noncomputable def slices_Index_int_int.cx (K : Nat) : Cx := ⟨tt, [], [], K, inlOf tt [] [] K (getBody []) 0⟩
theorem slices_Index_int_int.eq (K : Nat) (x : PL slices_Index_int_int.sig.ps) : evalF (slices_Index_int_int.cx K) slices_Index_int_int.sig (bodyOf Tryz.f77) slices_Index_int_int.ht x = slices_Index_int_int.f K x.1 x.2 := by kernel_rfl
theorem slices_Index_int_int.fok (K : Nat) : FOK Tryz.prog slices_Index_int_int.sig (fun x => slices_Index_int_int.f K x.1 x.2) 77 := fok_of_eval (tt := tt) (cons := []) (exts := []) (bodies := (getBody [])) (K := K) (d := 0) ⟨ttok, (fun _ _ => getCon_nil), (fun _ _ => getExt_nil), (fun _ _ => getBody_nil)⟩ draw bok77 (slices_Index_int_int.eq K)
theorem slices_Index_int_int.ok (K : Nat) : ConOK Tryz.prog 77 (slices_Index_int_int.con K) := con_ok bok77 (slices_Index_int_int.fok K)

noncomputable def slices_Contains_int_int.f (K : Nat) (s0 : List Int) (v1 : Int) : Option Bool :=
  (slices_Index_int_int.f K s0 v1).bind fun r70 =>
  some (decide (r70 ≥ 0))
def slices_Contains_int_int.sig : Sig := ⟨[(.c (.sl (.int .i64))), (.c (.int .i64))], [(.c .bool)]⟩
noncomputable def slices_Contains_int_int.con (K : Nat) : Con := (mkCon slices_Contains_int_int.sig (fun x => slices_Contains_int_int.f K x.1 x.2))
noncomputable def slices_Contains_int_int.ht : HT := .nil
noncomputable def slices_Contains_int_int.cx (K : Nat) : Cx := ⟨tt, [(77, slices_Index_int_int.con K)], [], K, inlOf tt [(77, slices_Index_int_int.con K)] [] K (getBody []) 0⟩
theorem slices_Contains_int_int.eq (K : Nat) (x : PL slices_Contains_int_int.sig.ps) : evalF (slices_Contains_int_int.cx K) slices_Contains_int_int.sig (bodyOf Tryz.f49) slices_Contains_int_int.ht x = slices_Contains_int_int.f K x.1 x.2 := by kernel_rfl
theorem slices_Contains_int_int.fok (K : Nat) : FOK Tryz.prog slices_Contains_int_int.sig (fun x => slices_Contains_int_int.f K x.1 x.2) 49 := fok_of_eval (tt := tt) (cons := [(77, slices_Index_int_int.con K)]) (exts := []) (bodies := (getBody [])) (K := K) (d := 0) ⟨ttok, (getCon_cons (slices_Index_int_int.ok K) (fun _ _ => getCon_nil)), (fun _ _ => getExt_nil), (fun _ _ => getBody_nil)⟩ draw bok49 (slices_Contains_int_int.eq K)
theorem slices_Contains_int_int.ok (K : Nat) : ConOK Tryz.prog 49 (slices_Contains_int_int.con K) := con_ok bok49 (slices_Contains_int_int.fok K)

noncomputable def point_Roles.f (K : Nat) (kind0 : Int) : Option (List Int) :=
  (((
      bif kind0 == 0 then some true
      else
      bif kind0 == 1 then
        some true
      else some (kind0 == 2)) : Option Bool)).bind fun t71 =>
  bif t71 then some ([0] : List Int)
  else
  bif kind0 == 3 then some ([1, 3, 4] : List Int)
  else
  bif kind0 == 4 then
    some ([2, 3, 4] : List Int)
  else some ([] : List Int)
def point_Roles.sig : Sig := ⟨[(.c (.int .i64))], [(.c (.sl (.int .i64)))]⟩
noncomputable def point_Roles.con (K : Nat) : Con := (mkCon point_Roles.sig (fun x => point_Roles.f K x))
noncomputable def point_Roles.ht : HT := .seq .nil (.seq (.seq .nil (.block (.join ⟨4, [], [], ⟨[], []⟩, [(.normal, ⟨[(4, .c (.v .bool))], []⟩)]⟩ (.seq .nil .nil)))) .nil)
noncomputable def point_Roles.cx (K : Nat) : Cx := ⟨tt, [], [], K, inlOf tt [] [] K (getBody []) 0⟩
theorem point_Roles.eq (K : Nat) (x : PL point_Roles.sig.ps) : evalF (point_Roles.cx K) point_Roles.sig (bodyOf Tryz.f94) point_Roles.ht x = point_Roles.f K x := by kernel_rfl
theorem point_Roles.fok (K : Nat) : FOK Tryz.prog point_Roles.sig (fun x => point_Roles.f K x) 94 := fok_of_eval (tt := tt) (cons := []) (exts := []) (bodies := (getBody [])) (K := K) (d := 0) ⟨ttok, (fun _ _ => getCon_nil), (fun _ _ => getExt_nil), (fun _ _ => getBody_nil)⟩ draw bok94 (point_Roles.eq K)
theorem point_Roles.ok (K : Nat) : ConOK Tryz.prog 94 (point_Roles.con K) := con_ok bok94 (point_Roles.fok K)

noncomputable def dec_Good.f (K : Nat) (d0 : Int × Int) : Option Bool :=
  bif decide (d0.2 ≥ 0) then
    bif decide (d0.2 ≤ 18) then
      bif d0.1 != (-9223372036854775808) then
        bif d0.2 == 0 then
          some true
        else some ((Int.tmod d0.1 10) != 0)
      else some false
    else some false
  else some false
def dec_Good.sig : Sig := ⟨[(.agg (.pair (.int .i64) (.int .i64)))], [(.c .bool)]⟩
noncomputable def dec_Good.con (K : Nat) : Con := (mkCon dec_Good.sig (fun x => dec_Good.f K x))
noncomputable def dec_Good.ht : HT := .nil
noncomputable def dec_Good.cx (K : Nat) : Cx := ⟨tt, [], [], K, inlOf tt [] [] K (getBody []) 0⟩
theorem dec_Good.eq (K : Nat) (x : PL dec_Good.sig.ps) : evalF (dec_Good.cx K) dec_Good.sig (bodyOf Tryz.f17) dec_Good.ht x = dec_Good.f K x := by kernel_rfl
theorem dec_Good.fok (K : Nat) : FOK Tryz.prog dec_Good.sig (fun x => dec_Good.f K x) 17 := fok_of_eval (tt := tt) (cons := []) (exts := []) (bodies := (getBody [])) (K := K) (d := 0) ⟨ttok, (fun _ _ => getCon_nil), (fun _ _ => getExt_nil), (fun _ _ => getBody_nil)⟩ draw bok17 (dec_Good.eq K)
theorem dec_Good.ok (K : Nat) : ConOK Tryz.prog 17 (dec_Good.con K) := con_ok bok17 (dec_Good.fok K)

noncomputable def sum_counted.f (K : Nat) (d0 : Int × Int) : Option (Int × Int) :=
  (dec_Good.f K d0).bind fun r72 =>
  bif !r72 then
    some ((0 : Int), (0 : Int))
  else some d0
def sum_counted.sig : Sig := ⟨[(.agg (.pair (.int .i64) (.int .i64)))], [(.agg (.pair (.int .i64) (.int .i64)))]⟩
noncomputable def sum_counted.con (K : Nat) : Con := (mkCon sum_counted.sig (fun x => sum_counted.f K x))
noncomputable def sum_counted.ht : HT := .nil
noncomputable def sum_counted.cx (K : Nat) : Cx := ⟨tt, [(17, dec_Good.con K)], [], K, inlOf tt [(17, dec_Good.con K)] [] K (getBody []) 0⟩
theorem sum_counted.eq (K : Nat) (x : PL sum_counted.sig.ps) : evalF (sum_counted.cx K) sum_counted.sig (bodyOf Tryz.f66) sum_counted.ht x = sum_counted.f K x := by kernel_rfl
theorem sum_counted.fok (K : Nat) : FOK Tryz.prog sum_counted.sig (fun x => sum_counted.f K x) 66 := fok_of_eval (tt := tt) (cons := [(17, dec_Good.con K)]) (exts := []) (bodies := (getBody [])) (K := K) (d := 0) ⟨ttok, (getCon_cons (dec_Good.ok K) (fun _ _ => getCon_nil)), (fun _ _ => getExt_nil), (fun _ _ => getBody_nil)⟩ draw bok66 (sum_counted.eq K)
theorem sum_counted.ok (K : Nat) : ConOK Tryz.prog 66 (sum_counted.con K) := con_ok bok66 (sum_counted.fok K)

noncomputable def sum_abs.f (K : Nat) (m0 : Int) : Option Int :=
  bif decide (m0 < 0) then
    some (IntKind.u64.wrap (0 - IntKind.u64.wrap (m0)))
  else some (IntKind.u64.wrap (m0))
def sum_abs.sig : Sig := ⟨[(.c (.int .i64))], [(.c (.int .u64))]⟩
noncomputable def sum_abs.con (K : Nat) : Con := (mkCon sum_abs.sig (fun x => sum_abs.f K x))
noncomputable def sum_abs.ht : HT := .nil
noncomputable def sum_abs.cx (K : Nat) : Cx := ⟨tt, [], [], K, inlOf tt [] [] K (getBody []) 0⟩
theorem sum_abs.eq (K : Nat) (x : PL sum_abs.sig.ps) : evalF (sum_abs.cx K) sum_abs.sig (bodyOf Tryz.f60) sum_abs.ht x = sum_abs.f K x := by kernel_rfl
theorem sum_abs.fok (K : Nat) : FOK Tryz.prog sum_abs.sig (fun x => sum_abs.f K x) 60 := fok_of_eval (tt := tt) (cons := []) (exts := []) (bodies := (getBody [])) (K := K) (d := 0) ⟨ttok, (fun _ _ => getCon_nil), (fun _ _ => getExt_nil), (fun _ _ => getBody_nil)⟩ draw bok60 (sum_abs.eq K)
theorem sum_abs.ok (K : Nat) : ConOK Tryz.prog 60 (sum_abs.con K) := con_ok bok60 (sum_abs.fok K)

noncomputable def sum_of.f (K : Nat) (n0 : Int) : Option (Int × Int × Int × Int) :=
  some (n0, (0 : Int), (0 : Int), (0 : Int))
def sum_of.sig : Sig := ⟨[(.c (.int .u64))], [(.agg (.pair (.int .u64) (.pair (.int .u64) (.pair (.int .u64) (.int .u64)))))]⟩
noncomputable def sum_of.con (K : Nat) : Con := (mkCon sum_of.sig (fun x => sum_of.f K x))
noncomputable def sum_of.ht : HT := .nil
noncomputable def sum_of.cx (K : Nat) : Cx := ⟨tt, [], [], K, inlOf tt [] [] K (getBody []) 0⟩
theorem sum_of.eq (K : Nat) (x : PL sum_of.sig.ps) : evalF (sum_of.cx K) sum_of.sig (bodyOf Tryz.f63) sum_of.ht x = sum_of.f K x := by kernel_rfl
theorem sum_of.fok (K : Nat) : FOK Tryz.prog sum_of.sig (fun x => sum_of.f K x) 63 := fok_of_eval (tt := tt) (cons := []) (exts := []) (bodies := (getBody [])) (K := K) (d := 0) ⟨ttok, (fun _ _ => getCon_nil), (fun _ _ => getExt_nil), (fun _ _ => getBody_nil)⟩ draw bok63 (sum_of.eq K)
theorem sum_of.ok (K : Nat) : ConOK Tryz.prog 63 (sum_of.con K) := con_ok bok63 (sum_of.fok K)

noncomputable def bits_Mul64.f (K : Nat) (x0 : Int) (y1 : Int) : Option (Int × Int) :=
  some (IntKind.u64.wrap ((IntKind.u64.wrap ((IntKind.u64.wrap ((Int.fdiv x0 (2 ^ 32)) * (Int.fdiv y1 (2 ^ 32)))) + (Int.fdiv (IntKind.u64.wrap ((IntKind.u64.wrap ((Int.fdiv x0 (2 ^ 32)) * (bitOp .and .u64 y1 4294967295))) + (Int.fdiv (IntKind.u64.wrap ((bitOp .and .u64 x0 4294967295) * (bitOp .and .u64 y1 4294967295))) (2 ^ 32)))) (2 ^ 32)))) + (Int.fdiv (IntKind.u64.wrap ((bitOp .and .u64 (IntKind.u64.wrap ((IntKind.u64.wrap ((Int.fdiv x0 (2 ^ 32)) * (bitOp .and .u64 y1 4294967295))) + (Int.fdiv (IntKind.u64.wrap ((bitOp .and .u64 x0 4294967295) * (bitOp .and .u64 y1 4294967295))) (2 ^ 32)))) 4294967295) + (IntKind.u64.wrap ((bitOp .and .u64 x0 4294967295) * (Int.fdiv y1 (2 ^ 32)))))) (2 ^ 32))), IntKind.u64.wrap (x0 * y1))
def bits_Mul64.sig : Sig := ⟨[(.c (.int .u64)), (.c (.int .u64))], [(.c (.int .u64)), (.c (.int .u64))]⟩
noncomputable def bits_Mul64.con (K : Nat) : Con := (mkCon bits_Mul64.sig (fun x => bits_Mul64.f K x.1 x.2))
noncomputable def bits_Mul64.ht : HT := .nil
noncomputable def bits_Mul64.cx (K : Nat) : Cx := ⟨tt, [], [], K, inlOf tt [] [] K (getBody []) 0⟩
theorem bits_Mul64.eq (K : Nat) (x : PL bits_Mul64.sig.ps) : evalF (bits_Mul64.cx K) bits_Mul64.sig (bodyOf Tryz.f107) bits_Mul64.ht x = bits_Mul64.f K x.1 x.2 := by kernel_rfl
theorem bits_Mul64.fok (K : Nat) : FOK Tryz.prog bits_Mul64.sig (fun x => bits_Mul64.f K x.1 x.2) 107 := fok_of_eval (tt := tt) (cons := []) (exts := []) (bodies := (getBody [])) (K := K) (d := 0) ⟨ttok, (fun _ _ => getCon_nil), (fun _ _ => getExt_nil), (fun _ _ => getBody_nil)⟩ draw bok107 (bits_Mul64.eq K)
theorem bits_Mul64.ok (K : Nat) : ConOK Tryz.prog 107 (bits_Mul64.con K) := con_ok bok107 (bits_Mul64.fok K)

noncomputable def sum_wide_times.f (K : Nat) (w0 : Int × Int × Int × Int) (n1 : Int) : Option (Int × Int × Int × Int) :=
  ((loopN K (fun (s_ : Int × Int × List Int) =>
    match s_ with
    | (carry82, t83, b0_84) =>
      bif decide (t83 < 4) then
        bif idx t83 4 then
          bif decide (t83.toNat < b0_84.length) then
            (bits_Mul64.f K (b0_84.getD t83.toNat (0 : Int)) n1).bind fun (r85, r86) =>
            bif idx t83 4 then
              bif decide (t83.toNat < b0_84.length) then
                some (.inl (IntKind.u64.wrap (r85 + (((r86.toNat + carry82.toNat + 0) / 18446744073709551616 : Nat) : Int)), IntKind.i64.wrap (t83 + 1), (b0_84.set t83.toNat (((r86.toNat + carry82.toNat + 0) % 18446744073709551616 : Nat) : Int))))
              else none
            else none
          else none
        else none
      else some (.inr b0_84)) (0, 0, ([w0.1, w0.2.1, w0.2.2.1, w0.2.2.2] : List Int)) : Option (List Int))).bind fun b0_87 =>
  some ((b0_87.getD 0 (0 : Int)), (b0_87.getD 1 (0 : Int)), (b0_87.getD 2 (0 : Int)), (b0_87.getD 3 (0 : Int)))
def sum_wide_times.sig : Sig := ⟨[(.agg (.pair (.int .u64) (.pair (.int .u64) (.pair (.int .u64) (.int .u64))))), (.c (.int .u64))], [(.agg (.pair (.int .u64) (.pair (.int .u64) (.pair (.int .u64) (.int .u64)))))]⟩
noncomputable def sum_wide_times.con (K : Nat) : Con := (mkCon sum_wide_times.sig (fun x => sum_wide_times.f K x.1 x.2))
noncomputable def sum_wide_times.ht : HT := .seq .nil (.seq .nil (.seq (.seq .nil (.block (.loop ⟨5, [], [0], ⟨[(5, .c (.v (.int .u64))), (11, .c (.v (.int .i64)))], [(0, .arr 108 (.int .u64))]⟩, [(.exit 0, ⟨[], [(0, .arr 108 (.int .u64))]⟩)]⟩ .nil))) .nil))
noncomputable def sum_wide_times.cx (K : Nat) : Cx := ⟨tt, [(107, bits_Mul64.con K)], [(108, .add64)], K, inlOf tt [(107, bits_Mul64.con K)] [(108, .add64)] K (getBody []) 0⟩
theorem sum_wide_times.eq (K : Nat) (x : PL sum_wide_times.sig.ps) : evalF (sum_wide_times.cx K) sum_wide_times.sig (bodyOf Tryz.f88) sum_wide_times.ht x = sum_wide_times.f K x.1 x.2 := by kernel_rfl
theorem sum_wide_times.fok (K : Nat) : FOK Tryz.prog sum_wide_times.sig (fun x => sum_wide_times.f K x.1 x.2) 88 := fok_of_eval (tt := tt) (cons := [(107, bits_Mul64.con K)]) (exts := [(108, .add64)]) (bodies := (getBody [])) (K := K) (d := 0) ⟨ttok, (getCon_cons (bits_Mul64.ok K) (fun _ _ => getCon_nil)), (getExt_cons ext108 (fun _ _ => getExt_nil)), (fun _ _ => getBody_nil)⟩ draw bok88 (sum_wide_times.eq K)
theorem sum_wide_times.ok (K : Nat) : ConOK Tryz.prog 88 (sum_wide_times.con K) := con_ok bok88 (sum_wide_times.fok K)

noncomputable def sum_wide_power.f (K : Nat) (w0 : Int × Int × Int × Int) (n1 : Int) (times2 : Int) : Option (Int × Int × Int × Int) :=
  ((loopN K (fun (s_ : Int × List Int) =>
    match s_ with
    | (t93, b0_94) =>
      bif decide (t93 < times2) then
        (sum_wide_times.f K ((b0_94.getD 0 (0 : Int)), (b0_94.getD 1 (0 : Int)), (b0_94.getD 2 (0 : Int)), (b0_94.getD 3 (0 : Int))) n1).bind fun r95 =>
        some (.inl (IntKind.i64.wrap (t93 + 1), ([r95.1, r95.2.1, r95.2.2.1, r95.2.2.2] : List Int)))
      else some (.inr b0_94)) (0, ([w0.1, w0.2.1, w0.2.2.1, w0.2.2.2] : List Int)) : Option (List Int))).bind fun b0_96 =>
  some ((b0_96.getD 0 (0 : Int)), (b0_96.getD 1 (0 : Int)), (b0_96.getD 2 (0 : Int)), (b0_96.getD 3 (0 : Int)))
def sum_wide_power.sig : Sig := ⟨[(.agg (.pair (.int .u64) (.pair (.int .u64) (.pair (.int .u64) (.int .u64))))), (.c (.int .u64)), (.c (.int .i64))], [(.agg (.pair (.int .u64) (.pair (.int .u64) (.pair (.int .u64) (.int .u64)))))]⟩
noncomputable def sum_wide_power.con (K : Nat) : Con := (mkCon sum_wide_power.sig (fun x => sum_wide_power.f K x.1 x.2.1 x.2.2))
noncomputable def sum_wide_power.ht : HT := .seq .nil (.seq (.seq .nil (.block (.loop ⟨8, [], [0], ⟨[(8, .c (.v (.int .i64)))], [(0, .arr 108 (.int .u64))]⟩, [(.exit 0, ⟨[], [(0, .arr 108 (.int .u64))]⟩)]⟩ .nil))) .nil)
noncomputable def sum_wide_power.cx (K : Nat) : Cx := ⟨tt, [(88, sum_wide_times.con K)], [], K, inlOf tt [(88, sum_wide_times.con K)] [] K (getBody []) 0⟩
theorem sum_wide_power.eq (K : Nat) (x : PL sum_wide_power.sig.ps) : evalF (sum_wide_power.cx K) sum_wide_power.sig (bodyOf Tryz.f64) sum_wide_power.ht x = sum_wide_power.f K x.1 x.2.1 x.2.2 := by kernel_rfl
theorem sum_wide_power.fok (K : Nat) : FOK Tryz.prog sum_wide_power.sig (fun x => sum_wide_power.f K x.1 x.2.1 x.2.2) 64 := fok_of_eval (tt := tt) (cons := [(88, sum_wide_times.con K)]) (exts := []) (bodies := (getBody [])) (K := K) (d := 0) ⟨ttok, (getCon_cons (sum_wide_times.ok K) (fun _ _ => getCon_nil)), (fun _ _ => getExt_nil), (fun _ _ => getBody_nil)⟩ draw bok64 (sum_wide_power.eq K)
theorem sum_wide_power.ok (K : Nat) : ConOK Tryz.prog 64 (sum_wide_power.con K) := con_ok bok64 (sum_wide_power.fok K)

noncomputable def sum_numberOf.f (K : Nat) (d0 : Int × Int) (s1 : Int) : Option (Bool × Int × Int × Int × Int × Int) :=
  (sum_abs.f K d0.1).bind fun r97 =>
  (sum_of.f K r97).bind fun r98 =>
  (sum_wide_power.f K r98 10 (IntKind.i64.wrap (s1 - d0.2))).bind fun r99 =>
  some (decide (d0.1 < 0), r99.1, r99.2.1, r99.2.2.1, r99.2.2.2, s1)
def sum_numberOf.sig : Sig := ⟨[(.agg (.pair (.int .i64) (.int .i64))), (.c (.int .i64))], [(.agg (.pair .bool (.pair (.int .u64) (.pair (.int .u64) (.pair (.int .u64) (.pair (.int .u64) (.int .i64)))))))]⟩
noncomputable def sum_numberOf.con (K : Nat) : Con := (mkCon sum_numberOf.sig (fun x => sum_numberOf.f K x.1 x.2))
noncomputable def sum_numberOf.ht : HT := .nil
noncomputable def sum_numberOf.cx (K : Nat) : Cx := ⟨tt, [(60, sum_abs.con K), (63, sum_of.con K), (64, sum_wide_power.con K)], [], K, inlOf tt [(60, sum_abs.con K), (63, sum_of.con K), (64, sum_wide_power.con K)] [] K (getBody []) 0⟩
theorem sum_numberOf.eq (K : Nat) (x : PL sum_numberOf.sig.ps) : evalF (sum_numberOf.cx K) sum_numberOf.sig (bodyOf Tryz.f67) sum_numberOf.ht x = sum_numberOf.f K x.1 x.2 := by kernel_rfl
theorem sum_numberOf.fok (K : Nat) : FOK Tryz.prog sum_numberOf.sig (fun x => sum_numberOf.f K x.1 x.2) 67 := fok_of_eval (tt := tt) (cons := [(60, sum_abs.con K), (63, sum_of.con K), (64, sum_wide_power.con K)]) (exts := []) (bodies := (getBody [])) (K := K) (d := 0) ⟨ttok, (getCon_cons (sum_abs.ok K) (getCon_cons (sum_of.ok K) (getCon_cons (sum_wide_power.ok K) (fun _ _ => getCon_nil)))), (fun _ _ => getExt_nil), (fun _ _ => getBody_nil)⟩ draw bok67 (sum_numberOf.eq K)
theorem sum_numberOf.ok (K : Nat) : ConOK Tryz.prog 67 (sum_numberOf.con K) := con_ok bok67 (sum_numberOf.fok K)

noncomputable def sum_wide_compare.f (K : Nat) (w0 : Int × Int × Int × Int) (v1 : Int × Int × Int × Int) : Option Int :=
  ((loopN K (fun (s_ : Int) =>
    match s_ with
    | i102 =>
      bif decide (i102 ≥ 0) then
        bif idx i102 4 then
          bif decide (i102.toNat < 4) then
            bif idx i102 4 then
              bif decide (i102.toNat < 4) then
                bif decide ((([w0.1, w0.2.1, w0.2.2.1, w0.2.2.2] : List Int).getD i102.toNat (0 : Int)) < (([v1.1, v1.2.1, v1.2.2.1, v1.2.2.2] : List Int).getD i102.toNat (0 : Int))) then some (.inr (.inr (-1)))
                else
                bif idx i102 4 then
                  bif decide (i102.toNat < 4) then
                    bif idx i102 4 then
                      bif decide (i102.toNat < 4) then
                        bif decide ((([w0.1, w0.2.1, w0.2.2.1, w0.2.2.2] : List Int).getD i102.toNat (0 : Int)) > (([v1.1, v1.2.1, v1.2.2.1, v1.2.2.2] : List Int).getD i102.toNat (0 : Int))) then
                          some (.inr (.inr 1))
                        else some (.inl (IntKind.i64.wrap (i102 - 1)))
                      else none
                    else none
                  else none
                else none
              else none
            else none
          else none
        else none
      else some (.inr (.inl ()))) 3 : Option (Unit ⊕ Int))).bind fun e_ =>
  match e_ with
  | .inl _ =>
    some 0
  | .inr t103 =>
    some t103
def sum_wide_compare.sig : Sig := ⟨[(.agg (.pair (.int .u64) (.pair (.int .u64) (.pair (.int .u64) (.int .u64))))), (.agg (.pair (.int .u64) (.pair (.int .u64) (.pair (.int .u64) (.int .u64)))))], [(.c (.int .i64))]⟩
noncomputable def sum_wide_compare.con (K : Nat) : Con := (mkCon sum_wide_compare.sig (fun x => sum_wide_compare.f K x.1 x.2))
noncomputable def sum_wide_compare.ht : HT := .seq .nil (.seq (.seq .nil (.block (.loop ⟨4, [], [], ⟨[(5, .c (.v (.int .i64)))], []⟩, [(.exit 0, ⟨[], []⟩), (.ret, ⟨[(4, .c (.v (.int .i64)))], []⟩)]⟩ .nil))) .nil)
noncomputable def sum_wide_compare.cx (K : Nat) : Cx := ⟨tt, [], [], K, inlOf tt [] [] K (getBody []) 0⟩
theorem sum_wide_compare.eq (K : Nat) (x : PL sum_wide_compare.sig.ps) : evalF (sum_wide_compare.cx K) sum_wide_compare.sig (bodyOf Tryz.f90) sum_wide_compare.ht x = sum_wide_compare.f K x.1 x.2 := by kernel_rfl
theorem sum_wide_compare.fok (K : Nat) : FOK Tryz.prog sum_wide_compare.sig (fun x => sum_wide_compare.f K x.1 x.2) 90 := fok_of_eval (tt := tt) (cons := []) (exts := []) (bodies := (getBody [])) (K := K) (d := 0) ⟨ttok, (fun _ _ => getCon_nil), (fun _ _ => getExt_nil), (fun _ _ => getBody_nil)⟩ draw bok90 (sum_wide_compare.eq K)
theorem sum_wide_compare.ok (K : Nat) : ConOK Tryz.prog 90 (sum_wide_compare.con K) := con_ok bok90 (sum_wide_compare.fok K)

noncomputable def sum_number_compare.f (K : Nat) (n0 : Bool × Int × Int × Int × Int × Int) (m1 : Bool × Int × Int × Int × Int × Int) : Option Int :=
  (((
      bif n0.1 then
        some m1.1
      else some false) : Option Bool)).bind fun t104 =>
  bif t104 then
    (sum_wide_compare.f K (m1.2.1, m1.2.2.1, m1.2.2.2.1, m1.2.2.2.2.1) (n0.2.1, n0.2.2.1, n0.2.2.2.1, n0.2.2.2.2.1)).bind fun r105 =>
    some r105
  else
  bif n0.1 then some (-1)
  else
  bif m1.1 then some 1
  else
  (sum_wide_compare.f K (n0.2.1, n0.2.2.1, n0.2.2.2.1, n0.2.2.2.2.1) (m1.2.1, m1.2.2.1, m1.2.2.2.1, m1.2.2.2.2.1)).bind fun r106 =>
  some r106
def sum_number_compare.sig : Sig := ⟨[(.agg (.pair .bool (.pair (.int .u64) (.pair (.int .u64) (.pair (.int .u64) (.pair (.int .u64) (.int .i64))))))), (.agg (.pair .bool (.pair (.int .u64) (.pair (.int .u64) (.pair (.int .u64) (.pair (.int .u64) (.int .i64)))))))], [(.c (.int .i64))]⟩
noncomputable def sum_number_compare.con (K : Nat) : Con := (mkCon sum_number_compare.sig (fun x => sum_number_compare.f K x.1 x.2))
noncomputable def sum_number_compare.ht : HT := .seq .nil (.seq (.block (.join ⟨5, [], [], ⟨[], []⟩, [(.normal, ⟨[(5, .c (.v .bool))], []⟩)]⟩ (.seq .nil .nil))) .nil)
noncomputable def sum_number_compare.cx (K : Nat) : Cx := ⟨tt, [(90, sum_wide_compare.con K)], [], K, inlOf tt [(90, sum_wide_compare.con K)] [] K (getBody []) 0⟩
theorem sum_number_compare.eq (K : Nat) (x : PL sum_number_compare.sig.ps) : evalF (sum_number_compare.cx K) sum_number_compare.sig (bodyOf Tryz.f68) sum_number_compare.ht x = sum_number_compare.f K x.1 x.2 := by kernel_rfl
theorem sum_number_compare.fok (K : Nat) : FOK Tryz.prog sum_number_compare.sig (fun x => sum_number_compare.f K x.1 x.2) 68 := fok_of_eval (tt := tt) (cons := [(90, sum_wide_compare.con K)]) (exts := []) (bodies := (getBody [])) (K := K) (d := 0) ⟨ttok, (getCon_cons (sum_wide_compare.ok K) (fun _ _ => getCon_nil)), (fun _ _ => getExt_nil), (fun _ _ => getBody_nil)⟩ draw bok68 (sum_number_compare.eq K)
theorem sum_number_compare.ok (K : Nat) : ConOK Tryz.prog 68 (sum_number_compare.con K) := con_ok bok68 (sum_number_compare.fok K)

noncomputable def sum_Compare.f (K : Nat) (a0 : Int × Int) (b1 : Int × Int) : Option Int :=
  (sum_counted.f K a0).bind fun r107 =>
  (sum_counted.f K b1).bind fun r108 =>
  (sum_numberOf.f K r107 (if (bif true then decide (r108.2 > r107.2) else decide (r108.2 < r107.2)) = true then r108.2 else r107.2)).bind fun r109 =>
  (sum_numberOf.f K r108 (if (bif true then decide (r108.2 > r107.2) else decide (r108.2 < r107.2)) = true then r108.2 else r107.2)).bind fun r110 =>
  (sum_number_compare.f K r109 r110).bind fun r111 =>
  some r111
def sum_Compare.sig : Sig := ⟨[(.agg (.pair (.int .i64) (.int .i64))), (.agg (.pair (.int .i64) (.int .i64)))], [(.c (.int .i64))]⟩
noncomputable def sum_Compare.con (K : Nat) : Con := (mkCon sum_Compare.sig (fun x => sum_Compare.f K x.1 x.2))
noncomputable def sum_Compare.ht : HT := .nil
noncomputable def sum_Compare.cx (K : Nat) : Cx := ⟨tt, [(66, sum_counted.con K), (67, sum_numberOf.con K), (68, sum_number_compare.con K)], [], K, inlOf tt [(66, sum_counted.con K), (67, sum_numberOf.con K), (68, sum_number_compare.con K)] [] K (getBody []) 0⟩
theorem sum_Compare.eq (K : Nat) (x : PL sum_Compare.sig.ps) : evalF (sum_Compare.cx K) sum_Compare.sig (bodyOf Tryz.f35) sum_Compare.ht x = sum_Compare.f K x.1 x.2 := by kernel_rfl
theorem sum_Compare.fok (K : Nat) : FOK Tryz.prog sum_Compare.sig (fun x => sum_Compare.f K x.1 x.2) 35 := fok_of_eval (tt := tt) (cons := [(66, sum_counted.con K), (67, sum_numberOf.con K), (68, sum_number_compare.con K)]) (exts := []) (bodies := (getBody [])) (K := K) (d := 0) ⟨ttok, (getCon_cons (sum_counted.ok K) (getCon_cons (sum_numberOf.ok K) (getCon_cons (sum_number_compare.ok K) (fun _ _ => getCon_nil)))), (fun _ _ => getExt_nil), (fun _ _ => getBody_nil)⟩ draw bok35 (sum_Compare.eq K)
theorem sum_Compare.ok (K : Nat) : ConOK Tryz.prog 35 (sum_Compare.con K) := con_ok bok35 (sum_Compare.fok K)

noncomputable def point_isBound.f (K : Nat) (p0 : List (List UInt8 × List UInt8) × Int × Bool × Int × Int × Int × Int × Bool × Int) : Option Bool :=
  (((
      (((
          bif p0.2.1 == 1 then
            some (!p0.2.2.1)
          else some false) : Option Bool)).bind fun t118 =>
      bif t118 then
        (dec_Good.f K (p0.2.2.2.1, p0.2.2.2.2.1)).bind fun r119 =>
        some (.inr r119)
      else
      bif p0.2.1 == 2 then
        bif !p0.2.2.1 then
          (dec_Good.f K (p0.2.2.2.1, p0.2.2.2.2.1)).bind fun r120 =>
          bif r120 then
            bif decide (p0.2.2.2.1 ≥ 0) then
              (sum_Compare.f K (p0.2.2.2.1, p0.2.2.2.2.1) (1, (0 : Int))).bind fun r121 =>
              some (.inr (decide (r121 ≤ 0)))
            else some (.inr false)
          else some (.inr false)
        else some (.inr false)
      else some (.inl ())) : Option (Unit ⊕ Bool))).bind fun e_ =>
  match e_ with
  | .inl _ =>
    bif (p0.2.2.2.1 == (0 : Int)) && ((p0.2.2.2.2.1 == (0 : Int)) && true) then
      bif p0.2.1 == 1 then
        some true
      else some (!p0.2.2.1)
    else some false
  | .inr t122 =>
    some t122
def point_isBound.sig : Sig := ⟨[(.agg (.pair (.sl (.pair .str .str)) (.pair (.int .i64) (.pair .bool (.pair (.int .i64) (.pair (.int .i64) (.pair (.int .i64) (.pair (.int .i64) (.pair .bool (.int .i64))))))))))], [(.c .bool)]⟩
noncomputable def point_isBound.con (K : Nat) : Con := (mkCon point_isBound.sig (fun x => point_isBound.f K x))
noncomputable def point_isBound.ht : HT := .seq .nil (.join ⟨2, [], [], ⟨[], []⟩, [(.normal, ⟨[], []⟩), (.ret, ⟨[(2, .c (.v .bool))], []⟩)]⟩ (.seq (.block (.join ⟨3, [], [], ⟨[], []⟩, [(.normal, ⟨[(3, .c (.v .bool))], []⟩)]⟩ (.seq .nil .nil))) .nil))
noncomputable def point_isBound.cx (K : Nat) : Cx := ⟨tt, [(17, dec_Good.con K), (35, sum_Compare.con K)], [], K, inlOf tt [(17, dec_Good.con K), (35, sum_Compare.con K)] [] K (getBody []) 0⟩
theorem point_isBound.eq (K : Nat) (x : PL point_isBound.sig.ps) : evalF (point_isBound.cx K) point_isBound.sig (bodyOf Tryz.f95) point_isBound.ht x = point_isBound.f K x := by kernel_rfl
theorem point_isBound.fok (K : Nat) : FOK Tryz.prog point_isBound.sig (fun x => point_isBound.f K x) 95 := fok_of_eval (tt := tt) (cons := [(17, dec_Good.con K), (35, sum_Compare.con K)]) (exts := []) (bodies := (getBody [])) (K := K) (d := 0) ⟨ttok, (getCon_cons (dec_Good.ok K) (getCon_cons (sum_Compare.ok K) (fun _ _ => getCon_nil))), (fun _ _ => getExt_nil), (fun _ _ => getBody_nil)⟩ draw bok95 (point_isBound.eq K)
theorem point_isBound.ok (K : Nat) : ConOK Tryz.prog 95 (point_isBound.con K) := con_ok bok95 (point_isBound.fok K)

noncomputable def point_isValue.f (K : Nat) (kind0 : Int) (p1 : List (List UInt8 × List UInt8) × Int × Bool × Int × Int × Int × Int × Bool × Int) : Option Bool :=
  (((
      bif kind0 == 2 then some true
      else
      bif p1.2.1 == 1 then
        some true
      else some (p1.2.1 == 3)) : Option Bool)).bind fun rises123 =>
  (dec_Good.f K (p1.2.2.2.2.2.1, p1.2.2.2.2.2.2.1)).bind fun r124 =>
  bif r124 then
    bif decide (p1.2.2.2.2.2.1 ≥ 0) then
      some true
    else some (!rises123)
  else some false
def point_isValue.sig : Sig := ⟨[(.c (.int .i64)), (.agg (.pair (.sl (.pair .str .str)) (.pair (.int .i64) (.pair .bool (.pair (.int .i64) (.pair (.int .i64) (.pair (.int .i64) (.pair (.int .i64) (.pair .bool (.int .i64))))))))))], [(.c .bool)]⟩
noncomputable def point_isValue.con (K : Nat) : Con := (mkCon point_isValue.sig (fun x => point_isValue.f K x.1 x.2))
noncomputable def point_isValue.ht : HT := .seq .nil (.join ⟨5, [], [], ⟨[], []⟩, [(.normal, ⟨[(5, .c (.v .bool))], []⟩)]⟩ (.seq .nil .nil))
noncomputable def point_isValue.cx (K : Nat) : Cx := ⟨tt, [(17, dec_Good.con K)], [], K, inlOf tt [(17, dec_Good.con K)] [] K (getBody []) 0⟩
theorem point_isValue.eq (K : Nat) (x : PL point_isValue.sig.ps) : evalF (point_isValue.cx K) point_isValue.sig (bodyOf Tryz.f96) point_isValue.ht x = point_isValue.f K x.1 x.2 := by kernel_rfl
theorem point_isValue.fok (K : Nat) : FOK Tryz.prog point_isValue.sig (fun x => point_isValue.f K x.1 x.2) 96 := fok_of_eval (tt := tt) (cons := [(17, dec_Good.con K)]) (exts := []) (bodies := (getBody [])) (K := K) (d := 0) ⟨ttok, (getCon_cons (dec_Good.ok K) (fun _ _ => getCon_nil)), (fun _ _ => getExt_nil), (fun _ _ => getBody_nil)⟩ draw bok96 (point_isValue.eq K)
theorem point_isValue.ok (K : Nat) : ConOK Tryz.prog 96 (point_isValue.con K) := con_ok bok96 (point_isValue.fok K)

noncomputable def point_isTime.f (K : Nat) (p0 : List (List UInt8 × List UInt8) × Int × Bool × Int × Int × Int × Int × Bool × Int) : Option Bool :=
  bif p0.2.2.2.2.2.2.2.2 == 0 then some true
  else
  bif p0.2.2.2.2.2.2.2.1 then
    bif decide (p0.2.2.2.2.2.2.2.2 ≥ (-1125899906842624)) then
      some (decide (p0.2.2.2.2.2.2.2.2 ≤ 1125899906842624))
    else some false
  else some false
def point_isTime.sig : Sig := ⟨[(.agg (.pair (.sl (.pair .str .str)) (.pair (.int .i64) (.pair .bool (.pair (.int .i64) (.pair (.int .i64) (.pair (.int .i64) (.pair (.int .i64) (.pair .bool (.int .i64))))))))))], [(.c .bool)]⟩
noncomputable def point_isTime.con (K : Nat) : Con := (mkCon point_isTime.sig (fun x => point_isTime.f K x))
noncomputable def point_isTime.ht : HT := .nil
noncomputable def point_isTime.cx (K : Nat) : Cx := ⟨tt, [], [], K, inlOf tt [] [] K (getBody []) 0⟩
theorem point_isTime.eq (K : Nat) (x : PL point_isTime.sig.ps) : evalF (point_isTime.cx K) point_isTime.sig (bodyOf Tryz.f97) point_isTime.ht x = point_isTime.f K x := by kernel_rfl
theorem point_isTime.fok (K : Nat) : FOK Tryz.prog point_isTime.sig (fun x => point_isTime.f K x) 97 := fok_of_eval (tt := tt) (cons := []) (exts := []) (bodies := (getBody [])) (K := K) (d := 0) ⟨ttok, (fun _ _ => getCon_nil), (fun _ _ => getExt_nil), (fun _ _ => getBody_nil)⟩ draw bok97 (point_isTime.eq K)
theorem point_isTime.ok (K : Nat) : ConOK Tryz.prog 97 (point_isTime.con K) := con_ok bok97 (point_isTime.fok K)

noncomputable def label_Get.f (K : Nat) (l0 : List (List UInt8 × List UInt8)) (name1 : List UInt8) : Option (List UInt8 × Bool) :=
  ((loopN K (fun (s_ : Int) =>
    match s_ with
    | t127 =>
      bif decide (t127 < (l0.length : Int)) then
        bif idx t127 l0.length then
          bif ((l0.getD t127.toNat (([] : List UInt8), ([] : List UInt8))).1) == name1 then
            some (.inr (.inr ((l0.getD t127.toNat (([] : List UInt8), ([] : List UInt8))).2, true)))
          else some (.inl (IntKind.i64.wrap (t127 + 1)))
        else none
      else some (.inr (.inl ()))) 0 : Option (Unit ⊕ (List UInt8 × Bool)))).bind fun e_ =>
  match e_ with
  | .inl _ =>
    some (([] : List UInt8), false)
  | .inr (t128, t129) =>
    some (t128, t129)
def label_Get.sig : Sig := ⟨[(.c (.sl (.pair .str .str))), (.c .str)], [(.c .str), (.c .bool)]⟩
noncomputable def label_Get.con (K : Nat) : Con := (mkCon label_Get.sig (fun x => label_Get.f K x.1 x.2))
noncomputable def label_Get.ht : HT := .seq .nil (.seq (.seq .nil (.block (.loop ⟨10, [4, 5, 7], [], ⟨[(10, .c (.v (.int .i64)))], []⟩, [(.exit 0, ⟨[], []⟩), (.ret, ⟨[(4, .c (.v .str)), (5, .c (.v .bool))], []⟩)]⟩ .nil))) .nil)
noncomputable def label_Get.cx (K : Nat) : Cx := ⟨tt, [], [], K, inlOf tt [] [] K (getBody []) 0⟩
theorem label_Get.eq (K : Nat) (x : PL label_Get.sig.ps) : evalF (label_Get.cx K) label_Get.sig (bodyOf Tryz.f111) label_Get.ht x = label_Get.f K x.1 x.2 := by kernel_rfl
theorem label_Get.fok (K : Nat) : FOK Tryz.prog label_Get.sig (fun x => label_Get.f K x.1 x.2) 111 := fok_of_eval (tt := tt) (cons := []) (exts := []) (bodies := (getBody [])) (K := K) (d := 0) ⟨ttok, (fun _ _ => getCon_nil), (fun _ _ => getExt_nil), (fun _ _ => getBody_nil)⟩ draw bok111 (label_Get.eq K)
theorem label_Get.ok (K : Nat) : ConOK Tryz.prog 111 (label_Get.con K) := con_ok bok111 (label_Get.fok K)

noncomputable def point_isFree.f (K : Nat) (p0 : List (List UInt8 × List UInt8) × Int × Bool × Int × Int × Int × Int × Bool × Int) : Option Bool :=
  (((
      bif p0.2.1 == 1 then some ([108, 101] : List UInt8)
      else
      bif p0.2.1 == 2 then
        some ([113, 117, 97, 110, 116, 105, 108, 101] : List UInt8)
      else some ([] : List UInt8)) : Option (List UInt8))).bind fun own130 =>
  (label_Get.f K p0.1 own130).bind fun (r131, r132) =>
  bif own130 == ([] : List UInt8) then
    some true
  else some (!r132)
def point_isFree.sig : Sig := ⟨[(.agg (.pair (.sl (.pair .str .str)) (.pair (.int .i64) (.pair .bool (.pair (.int .i64) (.pair (.int .i64) (.pair (.int .i64) (.pair (.int .i64) (.pair .bool (.int .i64))))))))))], [(.c .bool)]⟩
noncomputable def point_isFree.con (K : Nat) : Con := (mkCon point_isFree.sig (fun x => point_isFree.f K x))
noncomputable def point_isFree.ht : HT := .seq .nil (.seq .nil (.join ⟨3, [], [], ⟨[], []⟩, [(.normal, ⟨[(3, .c (.v .str))], []⟩)]⟩ (.seq .nil .nil)))
noncomputable def point_isFree.cx (K : Nat) : Cx := ⟨tt, [(111, label_Get.con K)], [], K, inlOf tt [(111, label_Get.con K)] [] K (getBody []) 0⟩
theorem point_isFree.eq (K : Nat) (x : PL point_isFree.sig.ps) : evalF (point_isFree.cx K) point_isFree.sig (bodyOf Tryz.f98) point_isFree.ht x = point_isFree.f K x := by kernel_rfl
theorem point_isFree.fok (K : Nat) : FOK Tryz.prog point_isFree.sig (fun x => point_isFree.f K x) 98 := fok_of_eval (tt := tt) (cons := [(111, label_Get.con K)]) (exts := []) (bodies := (getBody [])) (K := K) (d := 0) ⟨ttok, (getCon_cons (label_Get.ok K) (fun _ _ => getCon_nil)), (fun _ _ => getExt_nil), (fun _ _ => getBody_nil)⟩ draw bok98 (point_isFree.eq K)
theorem point_isFree.ok (K : Nat) : ConOK Tryz.prog 98 (point_isFree.con K) := con_ok bok98 (point_isFree.fok K)

noncomputable def point_Good.f (K : Nat) (kind0 : Int) (p1 : List (List UInt8 × List UInt8) × Int × Bool × Int × Int × Int × Int × Bool × Int) : Option Bool :=
  (point_Roles.f K kind0).bind fun r133 =>
  (slices_Contains_int_int.f K r133 p1.2.1).bind fun r134 =>
  bif r134 then
    (label_Good.f K p1.1).bind fun r135 =>
    bif r135 then
      (point_isBound.f K p1).bind fun r136 =>
      bif r136 then
        (point_isValue.f K kind0 p1).bind fun r137 =>
        bif r137 then
          (point_isTime.f K p1).bind fun r138 =>
          bif r138 then
            (point_isFree.f K p1).bind fun r139 =>
            some r139
          else some false
        else some false
      else some false
    else some false
  else some false
def point_Good.sig : Sig := ⟨[(.c (.int .i64)), (.agg (.pair (.sl (.pair .str .str)) (.pair (.int .i64) (.pair .bool (.pair (.int .i64) (.pair (.int .i64) (.pair (.int .i64) (.pair (.int .i64) (.pair .bool (.int .i64))))))))))], [(.c .bool)]⟩
noncomputable def point_Good.con (K : Nat) : Con := (mkCon point_Good.sig (fun x => point_Good.f K x.1 x.2))
noncomputable def point_Good.ht : HT := .nil
noncomputable def point_Good.cx (K : Nat) : Cx := ⟨tt, [(94, point_Roles.con K), (49, slices_Contains_int_int.con K), (33, label_Good.con K), (95, point_isBound.con K), (96, point_isValue.con K), (97, point_isTime.con K), (98, point_isFree.con K)], [], K, inlOf tt [(94, point_Roles.con K), (49, slices_Contains_int_int.con K), (33, label_Good.con K), (95, point_isBound.con K), (96, point_isValue.con K), (97, point_isTime.con K), (98, point_isFree.con K)] [] K (getBody []) 0⟩
theorem point_Good.eq (K : Nat) (x : PL point_Good.sig.ps) : evalF (point_Good.cx K) point_Good.sig (bodyOf Tryz.f74) point_Good.ht x = point_Good.f K x.1 x.2 := by kernel_rfl
theorem point_Good.fok (K : Nat) : FOK Tryz.prog point_Good.sig (fun x => point_Good.f K x.1 x.2) 74 := fok_of_eval (tt := tt) (cons := [(94, point_Roles.con K), (49, slices_Contains_int_int.con K), (33, label_Good.con K), (95, point_isBound.con K), (96, point_isValue.con K), (97, point_isTime.con K), (98, point_isFree.con K)]) (exts := []) (bodies := (getBody [])) (K := K) (d := 0) ⟨ttok, (getCon_cons (point_Roles.ok K) (getCon_cons (slices_Contains_int_int.ok K) (getCon_cons (label_Good.ok K) (getCon_cons (point_isBound.ok K) (getCon_cons (point_isValue.ok K) (getCon_cons (point_isTime.ok K) (getCon_cons (point_isFree.ok K) (fun _ _ => getCon_nil)))))))), (fun _ _ => getExt_nil), (fun _ _ => getBody_nil)⟩ draw bok74 (point_Good.eq K)
theorem point_Good.ok (K : Nat) : ConOK Tryz.prog 74 (point_Good.con K) := con_ok bok74 (point_Good.fok K)

noncomputable def cmp_Or_int.f (K : Nat) (vals0 : List Int) : Option Int :=
  ((loopN K (fun (s_ : Int) =>
    match s_ with
    | t142 =>
      bif decide (t142 < (vals0.length : Int)) then
        bif idx t142 vals0.length then
          bif (vals0.getD t142.toNat (0 : Int)) != 0 then
            some (.inr (.inr (vals0.getD t142.toNat (0 : Int))))
          else some (.inl (IntKind.i64.wrap (t142 + 1)))
        else none
      else some (.inr (.inl ()))) 0 : Option (Unit ⊕ Int))).bind fun e_ =>
  match e_ with
  | .inl _ =>
    some 0
  | .inr t143 =>
    some t143
def cmp_Or_int.sig : Sig := ⟨[(.c (.sl (.int .i64)))], [(.c (.int .i64))]⟩
noncomputable def cmp_Or_int.con (K : Nat) : Con := (mkCon cmp_Or_int.sig (fun x => cmp_Or_int.f K x))
noncomputable def cmp_Or_int.ht : HT := .seq .nil (.seq .nil (.seq (.seq .nil (.block (.loop ⟨8, [2, 5], [], ⟨[(8, .c (.v (.int .i64)))], []⟩, [(.exit 0, ⟨[], []⟩), (.ret, ⟨[(2, .c (.v (.int .i64)))], []⟩)]⟩ .nil))) .nil))
noncomputable def cmp_Or_int.cx (K : Nat) : Cx := ⟨tt, [], [], K, inlOf tt [] [] K (getBody []) 0⟩
theorem cmp_Or_int.eq (K : Nat) (x : PL cmp_Or_int.sig.ps) : evalF (cmp_Or_int.cx K) cmp_Or_int.sig (bodyOf Tryz.f112) cmp_Or_int.ht x = cmp_Or_int.f K x := by kernel_rfl
theorem cmp_Or_int.fok (K : Nat) : FOK Tryz.prog cmp_Or_int.sig (fun x => cmp_Or_int.f K x) 112 := fok_of_eval (tt := tt) (cons := []) (exts := []) (bodies := (getBody [])) (K := K) (d := 0) ⟨ttok, (fun _ _ => getCon_nil), (fun _ _ => getExt_nil), (fun _ _ => getBody_nil)⟩ draw bok112 (cmp_Or_int.eq K)
theorem cmp_Or_int.ok (K : Nat) : ConOK Tryz.prog 112 (cmp_Or_int.con K) := con_ok bok112 (cmp_Or_int.fok K)

noncomputable def bytealg_CompareString.f (K : Nat) (a0 : List UInt8) (b1 : List UInt8) : Option Int :=
  some (cmpL a0 b1)
def bytealg_CompareString.sig : Sig := ⟨[(.c .str), (.c .str)], [(.c (.int .i64))]⟩
noncomputable def bytealg_CompareString.con (K : Nat) : Con := (mkCon bytealg_CompareString.sig (fun x => bytealg_CompareString.f K x.1 x.2))
noncomputable def bytealg_CompareString.ht : HT := .nil
noncomputable def bytealg_CompareString.cx (K : Nat) : Cx := ⟨tt, [], [(133, .cmp)], K, inlOf tt [] [(133, .cmp)] K (getBody []) 0⟩
theorem bytealg_CompareString.eq (K : Nat) (x : PL bytealg_CompareString.sig.ps) : evalF (bytealg_CompareString.cx K) bytealg_CompareString.sig (bodyOf Tryz.f132) bytealg_CompareString.ht x = bytealg_CompareString.f K x.1 x.2 := by kernel_rfl
theorem bytealg_CompareString.fok (K : Nat) : FOK Tryz.prog bytealg_CompareString.sig (fun x => bytealg_CompareString.f K x.1 x.2) 132 := fok_of_eval (tt := tt) (cons := []) (exts := [(133, .cmp)]) (bodies := (getBody [])) (K := K) (d := 0) ⟨ttok, (fun _ _ => getCon_nil), (getExt_cons ext133 (fun _ _ => getExt_nil)), (fun _ _ => getBody_nil)⟩ draw bok132 (bytealg_CompareString.eq K)
theorem bytealg_CompareString.ok (K : Nat) : ConOK Tryz.prog 132 (bytealg_CompareString.con K) := con_ok bok132 (bytealg_CompareString.fok K)

noncomputable def strings_Compare.f (K : Nat) (a0 : List UInt8) (b1 : List UInt8) : Option Int :=
  (bytealg_CompareString.f K a0 b1).bind fun r144 =>
  some r144
def strings_Compare.sig : Sig := ⟨[(.c .str), (.c .str)], [(.c (.int .i64))]⟩
noncomputable def strings_Compare.con (K : Nat) : Con := (mkCon strings_Compare.sig (fun x => strings_Compare.f K x.1 x.2))
noncomputable def strings_Compare.ht : HT := .nil
noncomputable def strings_Compare.cx (K : Nat) : Cx := ⟨tt, [(132, bytealg_CompareString.con K)], [], K, inlOf tt [(132, bytealg_CompareString.con K)] [] K (getBody []) 0⟩
theorem strings_Compare.eq (K : Nat) (x : PL strings_Compare.sig.ps) : evalF (strings_Compare.cx K) strings_Compare.sig (bodyOf Tryz.f125) strings_Compare.ht x = strings_Compare.f K x.1 x.2 := by kernel_rfl
theorem strings_Compare.fok (K : Nat) : FOK Tryz.prog strings_Compare.sig (fun x => strings_Compare.f K x.1 x.2) 125 := fok_of_eval (tt := tt) (cons := [(132, bytealg_CompareString.con K)]) (exts := []) (bodies := (getBody [])) (K := K) (d := 0) ⟨ttok, (getCon_cons (bytealg_CompareString.ok K) (fun _ _ => getCon_nil)), (fun _ _ => getExt_nil), (fun _ _ => getBody_nil)⟩ draw bok125 (strings_Compare.eq K)
theorem strings_Compare.ok (K : Nat) : ConOK Tryz.prog 125 (strings_Compare.con K) := con_ok bok125 (strings_Compare.fok K)

end Go.Proofs.YtoobdenlgapcmaaGreat
