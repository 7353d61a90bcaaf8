/- What each function of the program comes to, and that it does, part 1. -/
import Derived.Test.YtclmdnfkdpdacaaTab
import Derived.KernelRfl
set_option linter.unusedVariables false
namespace Go.Proofs.Ytclmdnfkdpdacaa
open Go Go.Rf Go.Proofs Go.RowKit

noncomputable def utf_size.f (K : Nat) (c0 : Int) : Option Int :=
  bif decide (c0 < 128) then some 1
  else
  bif decide (c0 < 194) then some 0
  else
  bif decide (c0 < 224) then some 2
  else
  bif decide (c0 < 240) then some 3
  else
  bif decide (c0 < 245) then
    some 4
  else some 0
def utf_size.sig : Sig := ⟨[(.c (.int .u8))], [(.c (.int .i64))]⟩
noncomputable def utf_size.con (K : Nat) : Con := (mkCon utf_size.sig (fun x => utf_size.f K x))
noncomputable def utf_size.ht : HT := .nil
noncomputable def utf_size.cx (K : Nat) : Cx := ⟨tt, [], [], K, inlOf tt [] [] K (getBody []) 0⟩
theorem utf_size.eq (K : Nat) (x : PL utf_size.sig.ps) : evalF (utf_size.cx K) utf_size.sig (bodyOf Try.f68) utf_size.ht x = utf_size.f K x := by kernel_rfl
theorem utf_size.fok (K : Nat) : FOK Try.prog utf_size.sig (fun x => utf_size.f K x) 68 := fok_of_eval (tt := tt) (cons := []) (exts := []) (bodies := (getBody [])) (K := K) (d := 0) ⟨ttok, (fun _ _ => getCon_nil), (fun _ _ => getExt_nil), (fun _ _ => getBody_nil)⟩ draw bok68 (utf_size.eq K)
theorem utf_size.ok (K : Nat) : ConOK Try.prog 68 (utf_size.con K) := con_ok bok68 (utf_size.fok K)

noncomputable def utf_second.f (K : Nat) (c0 : Int) : Option (Int × Int) :=
  bif c0 == 224 then some (160, 191)
  else
  bif c0 == 237 then some (128, 159)
  else
  bif c0 == 240 then some (144, 191)
  else
  bif c0 == 244 then
    some (128, 143)
  else some (128, 191)
def utf_second.sig : Sig := ⟨[(.c (.int .u8))], [(.c (.int .u8)), (.c (.int .u8))]⟩
noncomputable def utf_second.con (K : Nat) : Con := (mkCon utf_second.sig (fun x => utf_second.f K x))
noncomputable def utf_second.ht : HT := .nil
noncomputable def utf_second.cx (K : Nat) : Cx := ⟨tt, [], [], K, inlOf tt [] [] K (getBody []) 0⟩
theorem utf_second.eq (K : Nat) (x : PL utf_second.sig.ps) : evalF (utf_second.cx K) utf_second.sig (bodyOf Try.f69) utf_second.ht x = utf_second.f K x := by kernel_rfl
theorem utf_second.fok (K : Nat) : FOK Try.prog utf_second.sig (fun x => utf_second.f K x) 69 := fok_of_eval (tt := tt) (cons := []) (exts := []) (bodies := (getBody [])) (K := K) (d := 0) ⟨ttok, (fun _ _ => getCon_nil), (fun _ _ => getExt_nil), (fun _ _ => getBody_nil)⟩ draw bok69 (utf_second.eq K)
theorem utf_second.ok (K : Nat) : ConOK Try.prog 69 (utf_second.con K) := con_ok bok69 (utf_second.fok K)

noncomputable def utf_front.f (K : Nat) (s0 : List UInt8) (at1 : Int) : Option (Int × Int × Bool) :=
  bif idx at1 s0.length then
    (utf_size.f K ((s0.getD at1.toNat 0).toNat : Int)).bind fun r1 =>
    bif r1 == 0 then some (0, 0, false)
    else
    bif idx at1 s0.length then
      bif idx r1 5 then
        bif decide (r1.toNat < 5) then
          bif idx at1 s0.length then
            (utf_second.f K ((s0.getD at1.toNat 0).toNat : Int)).bind fun (r2, r3) =>
            ((loopN K (fun (s_ : Int × Int × Int × Int) =>
              match s_ with
              | (r14, lo15, hi16, k17) =>
                bif decide (k17 < r1) then
                  (((
                      bif decide (k17 ≥ (IntKind.i64.wrap ((s0.length : Int) - at1))) then some true
                      else
                      bif idx (IntKind.i64.wrap (at1 + k17)) s0.length then
                        bif decide (((s0.getD ((IntKind.i64.wrap (at1 + k17)).toNat) 0).toNat : Int) < lo15) then some true
                        else
                        bif idx (IntKind.i64.wrap (at1 + k17)) s0.length then
                          some (decide (((s0.getD ((IntKind.i64.wrap (at1 + k17)).toNat) 0).toNat : Int) > hi16))
                        else none
                      else none) : Option Bool)).bind fun t18 =>
                  bif t18 then some (.inr (.inr (0, k17, false)))
                  else
                  bif idx (IntKind.i64.wrap (at1 + k17)) s0.length then
                    some (.inl (bitOp .or .i32 (IntKind.i32.wrap (r14 * 2 ^ 6)) (IntKind.i32.wrap (bitOp .and .u8 ((s0.getD ((IntKind.i64.wrap (at1 + k17)).toNat) 0).toNat : Int) 63)), 128, 191, IntKind.i64.wrap (k17 + 1)))
                  else none
                else some (.inr (.inl r14))) (IntKind.i32.wrap (bitOp .and .u8 ((s0.getD at1.toNat 0).toNat : Int) (([0, 127, 31, 15, 7] : List Int).getD r1.toNat (0 : Int))), r2, r3, 1) : Option (Int ⊕ (Int × Int × Bool)))).bind fun e_ =>
            match e_ with
            | .inl r19 =>
              some (r19, r1, true)
            | .inr (t20, t21, t22) =>
              some (t20, t21, t22)
          else none
        else none
      else none
    else none
  else none
def utf_front.sig : Sig := ⟨[(.c .str), (.c (.int .i64))], [(.c (.int .i32)), (.c (.int .i64)), (.c .bool)]⟩
noncomputable def utf_front.con (K : Nat) : Con := (mkCon utf_front.sig (fun x => utf_front.f K x.1 x.2))
noncomputable def utf_front.ht : HT := .seq .nil (.seq .nil (.seq .nil (.seq .nil (.seq .nil (.seq .nil (.seq (.seq .nil (.block (.loop ⟨8, [4, 5, 6], [], ⟨[(9, .c (.v (.int .i32))), (10, .c (.v (.int .u8))), (11, .c (.v (.int .u8))), (12, .c (.v (.int .i64)))], []⟩, [(.exit 0, ⟨[(9, .c (.v (.int .i32)))], []⟩), (.ret, ⟨[(4, .c (.v (.int .i32))), (5, .c (.v (.int .i64))), (6, .c (.v .bool))], []⟩)]⟩ (.seq .nil (.seq (.block (.seq (.join ⟨13, [], [], ⟨[], []⟩, [(.normal, ⟨[(63, .c (.v .bool))], []⟩)]⟩ (.seq .nil .nil)) .nil)) .nil))))) .nil))))))
noncomputable def utf_front.cx (K : Nat) : Cx := ⟨tt, [(68, utf_size.con K), (69, utf_second.con K)], [], K, inlOf tt [(68, utf_size.con K), (69, utf_second.con K)] [] K (getBody []) 0⟩
theorem utf_front.eq (K : Nat) (x : PL utf_front.sig.ps) : evalF (utf_front.cx K) utf_front.sig (bodyOf Try.f52) utf_front.ht x = utf_front.f K x.1 x.2 := by kernel_rfl
theorem utf_front.fok (K : Nat) : FOK Try.prog utf_front.sig (fun x => utf_front.f K x.1 x.2) 52 := fok_of_eval (tt := tt) (cons := [(68, utf_size.con K), (69, utf_second.con K)]) (exts := []) (bodies := (getBody [])) (K := K) (d := 0) ⟨ttok, (getCon_cons (utf_size.ok K) (getCon_cons (utf_second.ok K) (fun _ _ => getCon_nil))), (fun _ _ => getExt_nil), (fun _ _ => getBody_nil)⟩ draw bok52 (utf_front.eq K)
theorem utf_front.ok (K : Nat) : ConOK Try.prog 52 (utf_front.con K) := con_ok bok52 (utf_front.fok K)

noncomputable def utf_walk.f (K : Nat) (s0 : List UInt8) : Option (Int × Int) :=
  ((loopN K (fun (s_ : Int × Int) =>
    match s_ with
    | (count33, at34) =>
      bif decide (at34 < (s0.length : Int)) then
        (utf_front.f K s0 at34).bind fun (r35, r36, r37) =>
        bif !r37 then
          some (.inr (.inr ((-1), IntKind.i64.wrap (at34 + r36))))
        else some (.inl (IntKind.i64.wrap (count33 + 1), IntKind.i64.wrap (at34 + r36)))
      else some (.inr (.inl count33))) (0, 0) : Option (Int ⊕ (Int × Int)))).bind fun e_ =>
  match e_ with
  | .inl count38 =>
    some (count38, (-1))
  | .inr (t39, t40) =>
    some (t39, t40)
def utf_walk.sig : Sig := ⟨[(.c .str)], [(.c (.int .i64)), (.c (.int .i64))]⟩
noncomputable def utf_walk.con (K : Nat) : Con := (mkCon utf_walk.sig (fun x => utf_walk.f K x))
noncomputable def utf_walk.ht : HT := .seq .nil (.seq .nil (.seq (.seq .nil (.block (.loop ⟨1, [], [], ⟨[(4, .c (.v (.int .i64))), (5, .c (.v (.int .i64)))], []⟩, [(.exit 0, ⟨[(4, .c (.v (.int .i64)))], []⟩), (.ret, ⟨[(2, .c (.v (.int .i64))), (3, .c (.v (.int .i64)))], []⟩)]⟩ .nil))) .nil))
noncomputable def utf_walk.cx (K : Nat) : Cx := ⟨tt, [(52, utf_front.con K)], [], K, inlOf tt [(52, utf_front.con K)] [] K (getBody []) 0⟩
theorem utf_walk.eq (K : Nat) (x : PL utf_walk.sig.ps) : evalF (utf_walk.cx K) utf_walk.sig (bodyOf Try.f38) utf_walk.ht x = utf_walk.f K x := by kernel_rfl
theorem utf_walk.fok (K : Nat) : FOK Try.prog utf_walk.sig (fun x => utf_walk.f K x) 38 := fok_of_eval (tt := tt) (cons := [(52, utf_front.con K)]) (exts := []) (bodies := (getBody [])) (K := K) (d := 0) ⟨ttok, (getCon_cons (utf_front.ok K) (fun _ _ => getCon_nil)), (fun _ _ => getExt_nil), (fun _ _ => getBody_nil)⟩ draw bok38 (utf_walk.eq K)
theorem utf_walk.ok (K : Nat) : ConOK Try.prog 38 (utf_walk.con K) := con_ok bok38 (utf_walk.fok K)

noncomputable def utf_Bad.f (K : Nat) (s0 : List UInt8) : Option Int :=
  (utf_walk.f K s0).bind fun (r41, r42) =>
  some r42
def utf_Bad.sig : Sig := ⟨[(.c .str)], [(.c (.int .i64))]⟩
noncomputable def utf_Bad.con (K : Nat) : Con := (mkCon utf_Bad.sig (fun x => utf_Bad.f K x))
noncomputable def utf_Bad.ht : HT := .nil
noncomputable def utf_Bad.cx (K : Nat) : Cx := ⟨tt, [(38, utf_walk.con K)], [], K, inlOf tt [(38, utf_walk.con K)] [] K (getBody []) 0⟩
theorem utf_Bad.eq (K : Nat) (x : PL utf_Bad.sig.ps) : evalF (utf_Bad.cx K) utf_Bad.sig (bodyOf Try.f20) utf_Bad.ht x = utf_Bad.f K x := by kernel_rfl
theorem utf_Bad.fok (K : Nat) : FOK Try.prog utf_Bad.sig (fun x => utf_Bad.f K x) 20 := fok_of_eval (tt := tt) (cons := [(38, utf_walk.con K)]) (exts := []) (bodies := (getBody [])) (K := K) (d := 0) ⟨ttok, (getCon_cons (utf_walk.ok K) (fun _ _ => getCon_nil)), (fun _ _ => getExt_nil), (fun _ _ => getBody_nil)⟩ draw bok20 (utf_Bad.eq K)
theorem utf_Bad.ok (K : Nat) : ConOK Try.prog 20 (utf_Bad.con K) := con_ok bok20 (utf_Bad.fok K)

noncomputable def label_Value.f (K : Nat) (s0 : List UInt8) : Option Bool :=
  bif decide ((s0.length : Int) ≤ 60) then
    (utf_Bad.f K s0).bind fun r43 =>
    some (decide (r43 < 0))
  else some false
def label_Value.sig : Sig := ⟨[(.c .str)], [(.c .bool)]⟩
noncomputable def label_Value.con (K : Nat) : Con := (mkCon label_Value.sig (fun x => label_Value.f K x))
noncomputable def label_Value.ht : HT := .nil
noncomputable def label_Value.cx (K : Nat) : Cx := ⟨tt, [(20, utf_Bad.con K)], [], K, inlOf tt [(20, utf_Bad.con K)] [] K (getBody []) 0⟩
theorem label_Value.eq (K : Nat) (x : PL label_Value.sig.ps) : evalF (label_Value.cx K) label_Value.sig (bodyOf Try.f14) label_Value.ht x = label_Value.f K x := by kernel_rfl
theorem label_Value.fok (K : Nat) : FOK Try.prog label_Value.sig (fun x => label_Value.f K x) 14 := fok_of_eval (tt := tt) (cons := [(20, utf_Bad.con K)]) (exts := []) (bodies := (getBody [])) (K := K) (d := 0) ⟨ttok, (getCon_cons (utf_Bad.ok K) (fun _ _ => getCon_nil)), (fun _ _ => getExt_nil), (fun _ _ => getBody_nil)⟩ draw bok14 (label_Value.eq K)
theorem label_Value.ok (K : Nat) : ConOK Try.prog 14 (label_Value.con K) := con_ok bok14 (label_Value.fok K)

noncomputable def stringslite_IndexByte.f (K : Nat) (s0 : List UInt8) (c1 : Int) : Option Int :=
  some (idxByte s0 c1)
def stringslite_IndexByte.sig : Sig := ⟨[(.c .str), (.c (.int .u8))], [(.c (.int .i64))]⟩
noncomputable def stringslite_IndexByte.con (K : Nat) : Con := (mkCon stringslite_IndexByte.sig (fun x => stringslite_IndexByte.f K x.1 x.2))
noncomputable def stringslite_IndexByte.ht : HT := .nil
noncomputable def stringslite_IndexByte.cx (K : Nat) : Cx := ⟨tt, [], [(67, .indexByte)], K, inlOf tt [] [(67, .indexByte)] K (getBody []) 0⟩
theorem stringslite_IndexByte.eq (K : Nat) (x : PL stringslite_IndexByte.sig.ps) : evalF (stringslite_IndexByte.cx K) stringslite_IndexByte.sig (bodyOf Try.f51) stringslite_IndexByte.ht x = stringslite_IndexByte.f K x.1 x.2 := by kernel_rfl
theorem stringslite_IndexByte.fok (K : Nat) : FOK Try.prog stringslite_IndexByte.sig (fun x => stringslite_IndexByte.f K x.1 x.2) 51 := fok_of_eval (tt := tt) (cons := []) (exts := [(67, .indexByte)]) (bodies := (getBody [])) (K := K) (d := 0) ⟨ttok, (fun _ _ => getCon_nil), (getExt_cons ext67 (fun _ _ => getExt_nil)), (fun _ _ => getBody_nil)⟩ draw bok51 (stringslite_IndexByte.eq K)
theorem stringslite_IndexByte.ok (K : Nat) : ConOK Try.prog 51 (stringslite_IndexByte.con K) := con_ok bok51 (stringslite_IndexByte.fok K)

noncomputable def class_hasAny.f (K : Nat) (s0 : List UInt8) (any1 : List UInt8) : Option Bool :=
  ((loopN K (fun (s_ : List UInt8 × Int) =>
    match s_ with
    | (b0_111, b0_112) =>
      bif decide (b0_112 < (b0_111.length : Int)) then
        ((loopN K (fun (s_ : List UInt8 × Int) =>
          match s_ with
          | (b1_117, b1_118) =>
            bif decide (b1_118 < (b1_117.length : Int)) then
              bif ((Utf8.decode ⟨b0_111.toArray⟩ b0_112.toNat).1 : Int) == ((Utf8.decode ⟨b1_117.toArray⟩ b1_118.toNat).1 : Int) then
                some (.inr (.inr (true, b1_117, b1_118 + ((Utf8.decode ⟨b1_117.toArray⟩ b1_118.toNat).2 : Int))))
              else some (.inl (b1_117, b1_118 + ((Utf8.decode ⟨b1_117.toArray⟩ b1_118.toNat).2 : Int)))
            else some (.inr (.inl (b1_117, b1_118)))) (any1, 0) : Option ((List UInt8 × Int) ⊕ (Bool × List UInt8 × Int)))).bind fun e_ =>
        match e_ with
        | .inl (b1_119, b1_120) =>
          some (.inl (b0_111, b0_112 + ((Utf8.decode ⟨b0_111.toArray⟩ b0_112.toNat).2 : Int)))
        | .inr (t121, b1_122, b1_123) =>
          some (.inr (.inr (t121, b0_111, b0_112 + ((Utf8.decode ⟨b0_111.toArray⟩ b0_112.toNat).2 : Int))))
      else some (.inr (.inl (b0_111, b0_112)))) (s0, 0) : Option ((List UInt8 × Int) ⊕ (Bool × List UInt8 × Int)))).bind fun e_ =>
  match e_ with
  | .inl (b0_124, b0_125) =>
    some false
  | .inr (t126, b0_127, b0_128) =>
    some t126
def class_hasAny.sig : Sig := ⟨[(.c .str), (.c .str)], [(.c .bool)]⟩
noncomputable def class_hasAny.con (K : Nat) : Con := (mkCon class_hasAny.sig (fun x => class_hasAny.f K x.1 x.2))
noncomputable def class_hasAny.ht : HT := .seq .nil (.seq (.seq .nil (.block (.loop ⟨11, [4, 6, 8], [0], ⟨[], [(0, .iter)]⟩, [(.exit 0, ⟨[], [(0, .iter)]⟩), (.ret, ⟨[(4, .c (.v .bool))], [(0, .iter)]⟩)]⟩ (.seq .nil (.seq .nil (.block (.seq .nil (.seq .nil (.block (.loop ⟨16, [4, 8], [1], ⟨[], [(1, .iter)]⟩, [(.exit 2, ⟨[], [(1, .iter)]⟩), (.ret, ⟨[(4, .c (.v .bool))], [(1, .iter)]⟩)]⟩ .nil)))))))))) .nil)
noncomputable def class_hasAny.cx (K : Nat) : Cx := ⟨tt, [], [], K, inlOf tt [] [] K (getBody []) 0⟩
theorem class_hasAny.eq (K : Nat) (x : PL class_hasAny.sig.ps) : evalF (class_hasAny.cx K) class_hasAny.sig (bodyOf Try.f22) class_hasAny.ht x = class_hasAny.f K x.1 x.2 := by kernel_rfl
theorem class_hasAny.fok (K : Nat) : FOK Try.prog class_hasAny.sig (fun x => class_hasAny.f K x.1 x.2) 22 := fok_of_eval (tt := tt) (cons := []) (exts := []) (bodies := (getBody [])) (K := K) (d := 0) ⟨ttok, (fun _ _ => getCon_nil), (fun _ _ => getExt_nil), (fun _ _ => getBody_nil)⟩ draw bok22 (class_hasAny.eq K)
theorem class_hasAny.ok (K : Nat) : ConOK Try.prog 22 (class_hasAny.con K) := con_ok bok22 (class_hasAny.fok K)

noncomputable def class_inks.f (K : Nat) (v0 : List UInt8) (but1 : List UInt8) : Option Bool :=
  ((loopN K (fun (s_ : Int) =>
    match s_ with
    | t131 =>
      bif decide (t131 < (v0.length : Int)) then
        bif idx t131 v0.length then
          bif decide (((v0.getD t131.toNat 0).toNat : Int) ≤ 32) then some (.inr (.inr false))
          else
          bif idx t131 v0.length then
            bif decide (((v0.getD t131.toNat 0).toNat : Int) > 126) then
              some (.inr (.inr false))
            else some (.inl (IntKind.i64.wrap (t131 + 1)))
          else none
        else none
      else some (.inr (.inl ()))) 0 : Option (Unit ⊕ Bool))).bind fun e_ =>
  match e_ with
  | .inl _ =>
    bif !(v0 == ([] : List UInt8)) then
      (class_hasAny.f K v0 but1).bind fun r132 =>
      some (!r132)
    else some false
  | .inr t133 =>
    some t133
def class_inks.sig : Sig := ⟨[(.c .str), (.c .str)], [(.c .bool)]⟩
noncomputable def class_inks.con (K : Nat) : Con := (mkCon class_inks.sig (fun x => class_inks.f K x.1 x.2))
noncomputable def class_inks.ht : HT := .seq .nil (.seq (.seq .nil (.block (.loop ⟨8, [4, 5], [], ⟨[(8, .c (.v (.int .i64)))], []⟩, [(.exit 0, ⟨[], []⟩), (.ret, ⟨[(4, .c (.v .bool))], []⟩)]⟩ .nil))) .nil)
noncomputable def class_inks.cx (K : Nat) : Cx := ⟨tt, [(22, class_hasAny.con K)], [], K, inlOf tt [(22, class_hasAny.con K)] [] K (getBody []) 0⟩
theorem class_inks.eq (K : Nat) (x : PL class_inks.sig.ps) : evalF (class_inks.cx K) class_inks.sig (bodyOf Try.f16) class_inks.ht x = class_inks.f K x.1 x.2 := by kernel_rfl
theorem class_inks.fok (K : Nat) : FOK Try.prog class_inks.sig (fun x => class_inks.f K x.1 x.2) 16 := fok_of_eval (tt := tt) (cons := [(22, class_hasAny.con K)]) (exts := []) (bodies := (getBody [])) (K := K) (d := 0) ⟨ttok, (getCon_cons (class_hasAny.ok K) (fun _ _ => getCon_nil)), (fun _ _ => getExt_nil), (fun _ _ => getBody_nil)⟩ draw bok16 (class_inks.eq K)
theorem class_inks.ok (K : Nat) : ConOK Try.prog 16 (class_inks.con K) := con_ok bok16 (class_inks.fok K)

noncomputable def class_Value.f (K : Nat) (proto0 : Int) (v1 : List UInt8) : Option Bool :=
  (label_Value.f K v1).bind fun r134 =>
  bif !r134 then some false
  else
  bif proto0 == 1 then some true
  else
  bif proto0 == 2 then
    ((loopN K (fun (s_ : Int) =>
      match s_ with
      | t137 =>
        bif decide (t137 < (v1.length : Int)) then
          bif idx t137 v1.length then
            bif decide (((v1.getD t137.toNat 0).toNat : Int) < 32) then some (.inr (.inr false))
            else
            bif idx t137 v1.length then
              bif ((v1.getD t137.toNat 0).toNat : Int) == 127 then
                some (.inr (.inr false))
              else some (.inl (IntKind.i64.wrap (t137 + 1)))
            else none
          else none
        else some (.inr (.inl ()))) 0 : Option (Unit ⊕ Bool))).bind fun e_ =>
    match e_ with
    | .inl _ =>
      bif !(v1 == ([] : List UInt8)) then
        bif ([92] : List UInt8) == v1 then some false
        else
        (stringslite_IndexByte.f K v1 ((([92] : List UInt8).getD 0 0).toNat : Int)).bind fun r138 =>
        some (!(decide (r138 ≥ 0)))
      else some false
    | .inr t139 =>
      some t139
  else
  bif proto0 == 3 then
    (class_inks.f K v1 ([59] : List UInt8)).bind fun r140 =>
    some r140
  else
  bif proto0 == 4 then
    (class_inks.f K v1 ([44, 124] : List UInt8)).bind fun r141 =>
    some r141
  else some false
def class_Value.sig : Sig := ⟨[(.c (.int .i64)), (.c .str)], [(.c .bool)]⟩
noncomputable def class_Value.con (K : Nat) : Con := (mkCon class_Value.sig (fun x => class_Value.f K x.1 x.2))
noncomputable def class_Value.ht : HT := .seq .nil (.seq .nil (.seq (.seq .nil (.block (.seq .nil (.cond .nil (.seq .nil (.cond (.seq (.seq .nil (.block (.loop ⟨16, [4, 5], [], ⟨[(16, .c (.v (.int .i64)))], []⟩, [(.exit 1, ⟨[], []⟩), (.ret, ⟨[(4, .c (.v .bool))], []⟩)]⟩ .nil))) .nil) .nil)))))) .nil))
noncomputable def class_Value.cx (K : Nat) : Cx := ⟨tt, [(14, label_Value.con K), (51, stringslite_IndexByte.con K), (16, class_inks.con K)], [], K, inlOf tt [(14, label_Value.con K), (51, stringslite_IndexByte.con K), (16, class_inks.con K)] [] K (getBody [(15, bodyOf Try.f15), (21, bodyOf Try.f21), (39, bodyOf Try.f39)]) 3⟩
theorem class_Value.eq (K : Nat) (x : PL class_Value.sig.ps) : evalF (class_Value.cx K) class_Value.sig (bodyOf Try.f8) class_Value.ht x = class_Value.f K x.1 x.2 := by kernel_rfl
theorem class_Value.fok (K : Nat) : FOK Try.prog class_Value.sig (fun x => class_Value.f K x.1 x.2) 8 := fok_of_eval (tt := tt) (cons := [(14, label_Value.con K), (51, stringslite_IndexByte.con K), (16, class_inks.con K)]) (exts := []) (bodies := (getBody [(15, bodyOf Try.f15), (21, bodyOf Try.f21), (39, bodyOf Try.f39)])) (K := K) (d := 3) ⟨ttok, (getCon_cons (label_Value.ok K) (getCon_cons (stringslite_IndexByte.ok K) (getCon_cons (class_inks.ok K) (fun _ _ => getCon_nil)))), (fun _ _ => getExt_nil), (getBody_cons bok15 (getBody_cons bok21 (getBody_cons bok39 (fun _ _ => getBody_nil))))⟩ draw bok8 (class_Value.eq K)
theorem class_Value.ok (K : Nat) : ConOK Try.prog 8 (class_Value.con K) := con_ok bok8 (class_Value.fok K)

noncomputable def class_Kinds.f (K : Nat) (proto0 : Int) : Option (List Int) :=
  bif proto0 == 1 then some ([0, 1, 2, 3, 4] : List Int)
  else
  bif proto0 == 2 then some ([0, 1, 2] : List Int)
  else
  bif proto0 == 3 then some ([0] : List Int)
  else
  bif proto0 == 4 then
    some ([1, 2] : List Int)
  else some ([] : List Int)
def class_Kinds.sig : Sig := ⟨[(.c (.int .i64))], [(.c (.sl (.int .i64)))]⟩
noncomputable def class_Kinds.con (K : Nat) : Con := (mkCon class_Kinds.sig (fun x => class_Kinds.f K x))
noncomputable def class_Kinds.ht : HT := .nil
noncomputable def class_Kinds.cx (K : Nat) : Cx := ⟨tt, [], [], K, inlOf tt [] [] K (getBody []) 0⟩
theorem class_Kinds.eq (K : Nat) (x : PL class_Kinds.sig.ps) : evalF (class_Kinds.cx K) class_Kinds.sig (bodyOf Try.f9) class_Kinds.ht x = class_Kinds.f K x := by kernel_rfl
theorem class_Kinds.fok (K : Nat) : FOK Try.prog class_Kinds.sig (fun x => class_Kinds.f K x) 9 := fok_of_eval (tt := tt) (cons := []) (exts := []) (bodies := (getBody [])) (K := K) (d := 0) ⟨ttok, (fun _ _ => getCon_nil), (fun _ _ => getExt_nil), (fun _ _ => getBody_nil)⟩ draw bok9 (class_Kinds.eq K)
theorem class_Kinds.ok (K : Nat) : ConOK Try.prog 9 (class_Kinds.con K) := con_ok bok9 (class_Kinds.fok K)

noncomputable def label_Name.f (K : Nat) (s0 : List UInt8) : Option Bool :=
  ((loopN K (fun (s_ : Int) =>
    match s_ with
    | t144 =>
      bif decide (t144 < (s0.length : Int)) then
        bif idx t144 s0.length then
          bif decide (((s0.getD t144.toNat 0).toNat : Int) < 32) then some (.inr (.inr false))
          else
          bif idx t144 s0.length then
            bif ((s0.getD t144.toNat 0).toNat : Int) == 127 then
              some (.inr (.inr false))
            else some (.inl (IntKind.i64.wrap (t144 + 1)))
          else none
        else none
      else some (.inr (.inl ()))) 0 : Option (Unit ⊕ Bool))).bind fun e_ =>
  match e_ with
  | .inl _ =>
    bif !(s0 == ([] : List UInt8)) then
      bif decide ((s0.length : Int) ≤ 60) then
        (utf_Bad.f K s0).bind fun r145 =>
        some (decide (r145 < 0))
      else some false
    else some false
  | .inr t146 =>
    some t146
def label_Name.sig : Sig := ⟨[(.c .str)], [(.c .bool)]⟩
noncomputable def label_Name.con (K : Nat) : Con := (mkCon label_Name.sig (fun x => label_Name.f K x))
noncomputable def label_Name.ht : HT := .seq .nil (.seq (.seq .nil (.block (.loop ⟨6, [2, 3], [], ⟨[(6, .c (.v (.int .i64)))], []⟩, [(.exit 0, ⟨[], []⟩), (.ret, ⟨[(2, .c (.v .bool))], []⟩)]⟩ .nil))) .nil)
noncomputable def label_Name.cx (K : Nat) : Cx := ⟨tt, [(20, utf_Bad.con K)], [], K, inlOf tt [(20, utf_Bad.con K)] [] K (getBody []) 0⟩
theorem label_Name.eq (K : Nat) (x : PL label_Name.sig.ps) : evalF (label_Name.cx K) label_Name.sig (bodyOf Try.f40) label_Name.ht x = label_Name.f K x := by kernel_rfl
theorem label_Name.fok (K : Nat) : FOK Try.prog label_Name.sig (fun x => label_Name.f K x) 40 := fok_of_eval (tt := tt) (cons := [(20, utf_Bad.con K)]) (exts := []) (bodies := (getBody [])) (K := K) (d := 0) ⟨ttok, (getCon_cons (utf_Bad.ok K) (fun _ _ => getCon_nil)), (fun _ _ => getExt_nil), (fun _ _ => getBody_nil)⟩ draw bok40 (label_Name.eq K)
theorem label_Name.ok (K : Nat) : ConOK Try.prog 40 (label_Name.con K) := con_ok bok40 (label_Name.fok K)

noncomputable def family_kinds.f (K : Nat) : Option (List UInt8 × List UInt8 × List UInt8 × List UInt8 × List UInt8) :=
  some (([117, 110, 107, 110, 111, 119, 110] : List UInt8), ([103, 97, 117, 103, 101] : List UInt8), ([99, 111, 117, 110, 116, 101, 114] : List UInt8), ([104, 105, 115, 116, 111, 103, 114, 97, 109] : List UInt8), ([115, 117, 109, 109, 97, 114, 121] : List UInt8))
def family_kinds.sig : Sig := ⟨[], [(.agg (.pair .str (.pair .str (.pair .str (.pair .str .str)))))]⟩
noncomputable def family_kinds.con (K : Nat) : Con := (mkCon family_kinds.sig (fun _ => family_kinds.f K))
noncomputable def family_kinds.ht : HT := .nil
noncomputable def family_kinds.cx (K : Nat) : Cx := ⟨tt, [], [], K, inlOf tt [] [] K (getBody []) 0⟩
theorem family_kinds.eq (K : Nat) (x : PL family_kinds.sig.ps) : evalF (family_kinds.cx K) family_kinds.sig (bodyOf Try.f56) family_kinds.ht x = family_kinds.f K := by kernel_rfl
theorem family_kinds.fok (K : Nat) : FOK Try.prog family_kinds.sig (fun _ => family_kinds.f K) 56 := fok_of_eval (tt := tt) (cons := []) (exts := []) (bodies := (getBody [])) (K := K) (d := 0) ⟨ttok, (fun _ _ => getCon_nil), (fun _ _ => getExt_nil), (fun _ _ => getBody_nil)⟩ draw bok56 (family_kinds.eq K)
theorem family_kinds.ok (K : Nat) : ConOK Try.prog 56 (family_kinds.con K) := con_ok bok56 (family_kinds.fok K)

noncomputable def family_Typed.f (K : Nat) (kind0 : Int) : Option (List UInt8) :=
  (family_kinds.f K).bind fun r147 =>
  bif decide (kind0 < 0) then some ([] : List UInt8)
  else
  bif decide (kind0 ≥ 5) then some ([] : List UInt8)
  else
  bif idx kind0 5 then
    bif decide (kind0.toNat < 5) then
      some (([r147.1, r147.2.1, r147.2.2.1, r147.2.2.2.1, r147.2.2.2.2] : List (List UInt8)).getD kind0.toNat ([] : List UInt8))
    else none
  else none
def family_Typed.sig : Sig := ⟨[(.c (.int .i64))], [(.c .str)]⟩
noncomputable def family_Typed.con (K : Nat) : Con := (mkCon family_Typed.sig (fun x => family_Typed.f K x))
noncomputable def family_Typed.ht : HT := .nil
noncomputable def family_Typed.cx (K : Nat) : Cx := ⟨tt, [(56, family_kinds.con K)], [], K, inlOf tt [(56, family_kinds.con K)] [] K (getBody []) 0⟩
theorem family_Typed.eq (K : Nat) (x : PL family_Typed.sig.ps) : evalF (family_Typed.cx K) family_Typed.sig (bodyOf Try.f41) family_Typed.ht x = family_Typed.f K x := by kernel_rfl
theorem family_Typed.fok (K : Nat) : FOK Try.prog family_Typed.sig (fun x => family_Typed.f K x) 41 := fok_of_eval (tt := tt) (cons := [(56, family_kinds.con K)]) (exts := []) (bodies := (getBody [])) (K := K) (d := 0) ⟨ttok, (getCon_cons (family_kinds.ok K) (fun _ _ => getCon_nil)), (fun _ _ => getExt_nil), (fun _ _ => getBody_nil)⟩ draw bok41 (family_Typed.eq K)
theorem family_Typed.ok (K : Nat) : ConOK Try.prog 41 (family_Typed.con K) := con_ok bok41 (family_Typed.fok K)

noncomputable def slices_Index_int_int.f (K : Nat) (s0 : List Int) (v1 : Int) : Option Int :=
  ((loopN K (fun (s_ : Int) =>
    match s_ with
    | t150 =>
      bif decide (t150 < (s0.length : Int)) then
        bif idx t150 s0.length then
          bif v1 == (s0.getD t150.toNat (0 : Int)) then
            some (.inr (.inr t150))
          else some (.inl (IntKind.i64.wrap (t150 + 1)))
        else none
      else some (.inr (.inl ()))) 0 : Option (Unit ⊕ Int))).bind fun e_ =>
  match e_ with
  | .inl _ =>
    some (-1)
  | .inr t151 =>
    some t151
def slices_Index_int_int.sig : Sig := ⟨[(.c (.sl (.int .i64))), (.c (.int .i64))], [(.c (.int .i64))]⟩
noncomputable def slices_Index_int_int.con (K : Nat) : Con := (mkCon slices_Index_int_int.sig (fun x => slices_Index_int_int.f K x.1 x.2))
noncomputable def slices_Index_int_int.ht : HT := .seq .nil (.seq (.seq .nil (.block (.loop ⟨8, [4, 5], [], ⟨[(8, .c (.v (.int .i64)))], []⟩, [(.exit 0, ⟨[], []⟩), (.ret, ⟨[(4, .c (.v (.int .i64)))], []⟩)]⟩ .nil))) .nil)
noncomputable def slices_Index_int_int.cx (K : Nat) : Cx := ⟨tt, [], [], K, inlOf tt [] [] K (getBody []) 0⟩
theorem slices_Index_int_int.eq (K : Nat) (x : PL slices_Index_int_int.sig.ps) : evalF (slices_Index_int_int.cx K) slices_Index_int_int.sig (bodyOf Try.f46) slices_Index_int_int.ht x = slices_Index_int_int.f K x.1 x.2 := by kernel_rfl
theorem slices_Index_int_int.fok (K : Nat) : FOK Try.prog slices_Index_int_int.sig (fun x => slices_Index_int_int.f K x.1 x.2) 46 := fok_of_eval (tt := tt) (cons := []) (exts := []) (bodies := (getBody [])) (K := K) (d := 0) ⟨ttok, (fun _ _ => getCon_nil), (fun _ _ => getExt_nil), (fun _ _ => getBody_nil)⟩ draw bok46 (slices_Index_int_int.eq K)
theorem slices_Index_int_int.ok (K : Nat) : ConOK Try.prog 46 (slices_Index_int_int.con K) := con_ok bok46 (slices_Index_int_int.fok K)

noncomputable def slices_Contains_int_int.f (K : Nat) (s0 : List Int) (v1 : Int) : Option Bool :=
  (slices_Index_int_int.f K s0 v1).bind fun r152 =>
  some (decide (r152 ≥ 0))
def slices_Contains_int_int.sig : Sig := ⟨[(.c (.sl (.int .i64))), (.c (.int .i64))], [(.c .bool)]⟩
noncomputable def slices_Contains_int_int.con (K : Nat) : Con := (mkCon slices_Contains_int_int.sig (fun x => slices_Contains_int_int.f K x.1 x.2))
noncomputable def slices_Contains_int_int.ht : HT := .nil
noncomputable def slices_Contains_int_int.cx (K : Nat) : Cx := ⟨tt, [(46, slices_Index_int_int.con K)], [], K, inlOf tt [(46, slices_Index_int_int.con K)] [] K (getBody []) 0⟩
theorem slices_Contains_int_int.eq (K : Nat) (x : PL slices_Contains_int_int.sig.ps) : evalF (slices_Contains_int_int.cx K) slices_Contains_int_int.sig (bodyOf Try.f29) slices_Contains_int_int.ht x = slices_Contains_int_int.f K x.1 x.2 := by kernel_rfl
theorem slices_Contains_int_int.fok (K : Nat) : FOK Try.prog slices_Contains_int_int.sig (fun x => slices_Contains_int_int.f K x.1 x.2) 29 := fok_of_eval (tt := tt) (cons := [(46, slices_Index_int_int.con K)]) (exts := []) (bodies := (getBody [])) (K := K) (d := 0) ⟨ttok, (getCon_cons (slices_Index_int_int.ok K) (fun _ _ => getCon_nil)), (fun _ _ => getExt_nil), (fun _ _ => getBody_nil)⟩ draw bok29 (slices_Contains_int_int.eq K)
theorem slices_Contains_int_int.ok (K : Nat) : ConOK Try.prog 29 (slices_Contains_int_int.con K) := con_ok bok29 (slices_Contains_int_int.fok K)

noncomputable def point_Roles.f (K : Nat) (kind0 : Int) : Option (List Int) :=
  (((
      bif kind0 == 0 then some true
      else
      bif kind0 == 1 then
        some true
      else some (kind0 == 2)) : Option Bool)).bind fun t153 =>
  bif t153 then some ([0] : List Int)
  else
  bif kind0 == 3 then some ([1, 3, 4] : List Int)
  else
  bif kind0 == 4 then
    some ([2, 3, 4] : List Int)
  else some ([] : List Int)
def point_Roles.sig : Sig := ⟨[(.c (.int .i64))], [(.c (.sl (.int .i64)))]⟩
noncomputable def point_Roles.con (K : Nat) : Con := (mkCon point_Roles.sig (fun x => point_Roles.f K x))
noncomputable def point_Roles.ht : HT := .seq .nil (.seq (.seq .nil (.block (.join ⟨4, [], [], ⟨[], []⟩, [(.normal, ⟨[(4, .c (.v .bool))], []⟩)]⟩ (.seq .nil .nil)))) .nil)
noncomputable def point_Roles.cx (K : Nat) : Cx := ⟨tt, [], [], K, inlOf tt [] [] K (getBody []) 0⟩
theorem point_Roles.eq (K : Nat) (x : PL point_Roles.sig.ps) : evalF (point_Roles.cx K) point_Roles.sig (bodyOf Try.f57) point_Roles.ht x = point_Roles.f K x := by kernel_rfl
theorem point_Roles.fok (K : Nat) : FOK Try.prog point_Roles.sig (fun x => point_Roles.f K x) 57 := fok_of_eval (tt := tt) (cons := []) (exts := []) (bodies := (getBody [])) (K := K) (d := 0) ⟨ttok, (fun _ _ => getCon_nil), (fun _ _ => getExt_nil), (fun _ _ => getBody_nil)⟩ draw bok57 (point_Roles.eq K)
theorem point_Roles.ok (K : Nat) : ConOK Try.prog 57 (point_Roles.con K) := con_ok bok57 (point_Roles.fok K)

noncomputable def label_Good.f (K : Nat) (l0 : List (List UInt8 × List UInt8)) : Option Bool :=
  ((loopN K (fun (s_ : Int) =>
    match s_ with
    | t164 =>
      bif decide (t164 < (l0.length : Int)) then
        bif idx t164 l0.length then
          (((
              (label_Name.f K ((l0.getD t164.toNat (([] : List UInt8), ([] : List UInt8))).1)).bind fun r166 =>
              bif !r166 then some true
              else
              (label_Value.f K ((l0.getD t164.toNat (([] : List UInt8), ([] : List UInt8))).2)).bind fun r167 =>
              bif !r167 then some true
              else
              bif decide (t164 > 0) then
                bif idx (IntKind.i64.wrap (t164 - 1)) l0.length then
                  some (!(Op.bytesLess ((l0.getD ((IntKind.i64.wrap (t164 - 1)).toNat) (([] : List UInt8), ([] : List UInt8))).1) ((l0.getD t164.toNat (([] : List UInt8), ([] : List UInt8))).1)))
                else none
              else some false) : Option Bool)).bind fun t168 =>
          bif t168 then
            some (.inr (.inr false))
          else some (.inl (IntKind.i64.wrap (t164 + 1)))
        else none
      else some (.inr (.inl ()))) 0 : Option (Unit ⊕ Bool))).bind fun e_ =>
  match e_ with
  | .inl _ =>
    some (decide ((l0.length : Int) ≤ 8))
  | .inr t169 =>
    some t169
def label_Good.sig : Sig := ⟨[(.c (.sl (.pair .str .str)))], [(.c .bool)]⟩
noncomputable def label_Good.con (K : Nat) : Con := (mkCon label_Good.sig (fun x => label_Good.f K x))
noncomputable def label_Good.ht : HT := .seq .nil (.seq (.seq .nil (.block (.loop ⟨7, [2, 3, 4], [], ⟨[(7, .c (.v (.int .i64)))], []⟩, [(.exit 0, ⟨[], []⟩), (.ret, ⟨[(2, .c (.v .bool))], []⟩)]⟩ (.seq .nil (.seq .nil (.seq (.block (.seq .nil (.join ⟨8, [], [], ⟨[], []⟩, [(.normal, ⟨[(36, .c (.v .bool))], []⟩)]⟩ (.seq .nil .nil)))) .nil)))))) .nil)
noncomputable def label_Good.cx (K : Nat) : Cx := ⟨tt, [(40, label_Name.con K), (14, label_Value.con K)], [], K, inlOf tt [(40, label_Name.con K), (14, label_Value.con K)] [] K (getBody []) 0⟩
theorem label_Good.eq (K : Nat) (x : PL label_Good.sig.ps) : evalF (label_Good.cx K) label_Good.sig (bodyOf Try.f58) label_Good.ht x = label_Good.f K x := by kernel_rfl
theorem label_Good.fok (K : Nat) : FOK Try.prog label_Good.sig (fun x => label_Good.f K x) 58 := fok_of_eval (tt := tt) (cons := [(40, label_Name.con K), (14, label_Value.con K)]) (exts := []) (bodies := (getBody [])) (K := K) (d := 0) ⟨ttok, (getCon_cons (label_Name.ok K) (getCon_cons (label_Value.ok K) (fun _ _ => getCon_nil))), (fun _ _ => getExt_nil), (fun _ _ => getBody_nil)⟩ draw bok58 (label_Good.eq K)
theorem label_Good.ok (K : Nat) : ConOK Try.prog 58 (label_Good.con K) := con_ok bok58 (label_Good.fok K)

noncomputable def dec_Good.f (K : Nat) (d0 : Int × Int) : Option Bool :=
  bif decide (d0.2 ≥ 0) then
    bif decide (d0.2 ≤ 18) then
      bif d0.1 != (-9223372036854775808) then
        bif d0.2 == 0 then
          some true
        else some ((Int.tmod d0.1 10) != 0)
      else some false
    else some false
  else some false
def dec_Good.sig : Sig := ⟨[(.agg (.pair (.int .i64) (.int .i64)))], [(.c .bool)]⟩
noncomputable def dec_Good.con (K : Nat) : Con := (mkCon dec_Good.sig (fun x => dec_Good.f K x))
noncomputable def dec_Good.ht : HT := .nil
noncomputable def dec_Good.cx (K : Nat) : Cx := ⟨tt, [], [], K, inlOf tt [] [] K (getBody []) 0⟩
theorem dec_Good.eq (K : Nat) (x : PL dec_Good.sig.ps) : evalF (dec_Good.cx K) dec_Good.sig (bodyOf Try.f71) dec_Good.ht x = dec_Good.f K x := by kernel_rfl
theorem dec_Good.fok (K : Nat) : FOK Try.prog dec_Good.sig (fun x => dec_Good.f K x) 71 := fok_of_eval (tt := tt) (cons := []) (exts := []) (bodies := (getBody [])) (K := K) (d := 0) ⟨ttok, (fun _ _ => getCon_nil), (fun _ _ => getExt_nil), (fun _ _ => getBody_nil)⟩ draw bok71 (dec_Good.eq K)
theorem dec_Good.ok (K : Nat) : ConOK Try.prog 71 (dec_Good.con K) := con_ok bok71 (dec_Good.fok K)

noncomputable def sum_counted.f (K : Nat) (d0 : Int × Int) : Option (Int × Int) :=
  (dec_Good.f K d0).bind fun r170 =>
  bif !r170 then
    some ((0 : Int), (0 : Int))
  else some d0
def sum_counted.sig : Sig := ⟨[(.agg (.pair (.int .i64) (.int .i64)))], [(.agg (.pair (.int .i64) (.int .i64)))]⟩
noncomputable def sum_counted.con (K : Nat) : Con := (mkCon sum_counted.sig (fun x => sum_counted.f K x))
noncomputable def sum_counted.ht : HT := .nil
noncomputable def sum_counted.cx (K : Nat) : Cx := ⟨tt, [(71, dec_Good.con K)], [], K, inlOf tt [(71, dec_Good.con K)] [] K (getBody []) 0⟩
theorem sum_counted.eq (K : Nat) (x : PL sum_counted.sig.ps) : evalF (sum_counted.cx K) sum_counted.sig (bodyOf Try.f79) sum_counted.ht x = sum_counted.f K x := by kernel_rfl
theorem sum_counted.fok (K : Nat) : FOK Try.prog sum_counted.sig (fun x => sum_counted.f K x) 79 := fok_of_eval (tt := tt) (cons := [(71, dec_Good.con K)]) (exts := []) (bodies := (getBody [])) (K := K) (d := 0) ⟨ttok, (getCon_cons (dec_Good.ok K) (fun _ _ => getCon_nil)), (fun _ _ => getExt_nil), (fun _ _ => getBody_nil)⟩ draw bok79 (sum_counted.eq K)
theorem sum_counted.ok (K : Nat) : ConOK Try.prog 79 (sum_counted.con K) := con_ok bok79 (sum_counted.fok K)

noncomputable def sum_of.f (K : Nat) (n0 : Int) : Option (Int × Int × Int × Int) :=
  some (n0, (0 : Int), (0 : Int), (0 : Int))
def sum_of.sig : Sig := ⟨[(.c (.int .u64))], [(.agg (.pair (.int .u64) (.pair (.int .u64) (.pair (.int .u64) (.int .u64)))))]⟩
noncomputable def sum_of.con (K : Nat) : Con := (mkCon sum_of.sig (fun x => sum_of.f K x))
noncomputable def sum_of.ht : HT := .nil
noncomputable def sum_of.cx (K : Nat) : Cx := ⟨tt, [], [], K, inlOf tt [] [] K (getBody []) 0⟩
theorem sum_of.eq (K : Nat) (x : PL sum_of.sig.ps) : evalF (sum_of.cx K) sum_of.sig (bodyOf Try.f87) sum_of.ht x = sum_of.f K x := by kernel_rfl
theorem sum_of.fok (K : Nat) : FOK Try.prog sum_of.sig (fun x => sum_of.f K x) 87 := fok_of_eval (tt := tt) (cons := []) (exts := []) (bodies := (getBody [])) (K := K) (d := 0) ⟨ttok, (fun _ _ => getCon_nil), (fun _ _ => getExt_nil), (fun _ _ => getBody_nil)⟩ draw bok87 (sum_of.eq K)
theorem sum_of.ok (K : Nat) : ConOK Try.prog 87 (sum_of.con K) := con_ok bok87 (sum_of.fok K)

noncomputable def sum_abs.f (K : Nat) (m0 : Int) : Option Int :=
  bif decide (m0 < 0) then
    some (IntKind.u64.wrap (0 - IntKind.u64.wrap (m0)))
  else some (IntKind.u64.wrap (m0))
def sum_abs.sig : Sig := ⟨[(.c (.int .i64))], [(.c (.int .u64))]⟩
noncomputable def sum_abs.con (K : Nat) : Con := (mkCon sum_abs.sig (fun x => sum_abs.f K x))
noncomputable def sum_abs.ht : HT := .nil
noncomputable def sum_abs.cx (K : Nat) : Cx := ⟨tt, [], [], K, inlOf tt [] [] K (getBody []) 0⟩
theorem sum_abs.eq (K : Nat) (x : PL sum_abs.sig.ps) : evalF (sum_abs.cx K) sum_abs.sig (bodyOf Try.f88) sum_abs.ht x = sum_abs.f K x := by kernel_rfl
theorem sum_abs.fok (K : Nat) : FOK Try.prog sum_abs.sig (fun x => sum_abs.f K x) 88 := fok_of_eval (tt := tt) (cons := []) (exts := []) (bodies := (getBody [])) (K := K) (d := 0) ⟨ttok, (fun _ _ => getCon_nil), (fun _ _ => getExt_nil), (fun _ _ => getBody_nil)⟩ draw bok88 (sum_abs.eq K)
theorem sum_abs.ok (K : Nat) : ConOK Try.prog 88 (sum_abs.con K) := con_ok bok88 (sum_abs.fok K)

noncomputable def bits_Mul64.f (K : Nat) (x0 : Int) (y1 : Int) : Option (Int × Int) :=
  some (IntKind.u64.wrap ((IntKind.u64.wrap ((IntKind.u64.wrap ((Int.fdiv x0 (2 ^ 32)) * (Int.fdiv y1 (2 ^ 32)))) + (Int.fdiv (IntKind.u64.wrap ((IntKind.u64.wrap ((Int.fdiv x0 (2 ^ 32)) * (bitOp .and .u64 y1 4294967295))) + (Int.fdiv (IntKind.u64.wrap ((bitOp .and .u64 x0 4294967295) * (bitOp .and .u64 y1 4294967295))) (2 ^ 32)))) (2 ^ 32)))) + (Int.fdiv (IntKind.u64.wrap ((bitOp .and .u64 (IntKind.u64.wrap ((IntKind.u64.wrap ((Int.fdiv x0 (2 ^ 32)) * (bitOp .and .u64 y1 4294967295))) + (Int.fdiv (IntKind.u64.wrap ((bitOp .and .u64 x0 4294967295) * (bitOp .and .u64 y1 4294967295))) (2 ^ 32)))) 4294967295) + (IntKind.u64.wrap ((bitOp .and .u64 x0 4294967295) * (Int.fdiv y1 (2 ^ 32)))))) (2 ^ 32))), IntKind.u64.wrap (x0 * y1))
def bits_Mul64.sig : Sig := ⟨[(.c (.int .u64)), (.c (.int .u64))], [(.c (.int .u64)), (.c (.int .u64))]⟩
noncomputable def bits_Mul64.con (K : Nat) : Con := (mkCon bits_Mul64.sig (fun x => bits_Mul64.f K x.1 x.2))
noncomputable def bits_Mul64.ht : HT := .nil
noncomputable def bits_Mul64.cx (K : Nat) : Cx := ⟨tt, [], [], K, inlOf tt [] [] K (getBody []) 0⟩
theorem bits_Mul64.eq (K : Nat) (x : PL bits_Mul64.sig.ps) : evalF (bits_Mul64.cx K) bits_Mul64.sig (bodyOf Try.f94) bits_Mul64.ht x = bits_Mul64.f K x.1 x.2 := by kernel_rfl
theorem bits_Mul64.fok (K : Nat) : FOK Try.prog bits_Mul64.sig (fun x => bits_Mul64.f K x.1 x.2) 94 := fok_of_eval (tt := tt) (cons := []) (exts := []) (bodies := (getBody [])) (K := K) (d := 0) ⟨ttok, (fun _ _ => getCon_nil), (fun _ _ => getExt_nil), (fun _ _ => getBody_nil)⟩ draw bok94 (bits_Mul64.eq K)
theorem bits_Mul64.ok (K : Nat) : ConOK Try.prog 94 (bits_Mul64.con K) := con_ok bok94 (bits_Mul64.fok K)

noncomputable def sum_wide_times.f (K : Nat) (w0 : Int × Int × Int × Int) (n1 : Int) : Option (Int × Int × Int × Int) :=
  ((loopN K (fun (s_ : Int × Int × List Int) =>
    match s_ with
    | (carry180, t181, b0_182) =>
      bif decide (t181 < 4) then
        bif idx t181 4 then
          bif decide (t181.toNat < b0_182.length) then
            (bits_Mul64.f K (b0_182.getD t181.toNat (0 : Int)) n1).bind fun (r183, r184) =>
            bif idx t181 4 then
              bif decide (t181.toNat < b0_182.length) then
                some (.inl (IntKind.u64.wrap (r183 + (((r184.toNat + carry180.toNat + 0) / 18446744073709551616 : Nat) : Int)), IntKind.i64.wrap (t181 + 1), (b0_182.set t181.toNat (((r184.toNat + carry180.toNat + 0) % 18446744073709551616 : Nat) : Int))))
              else none
            else none
          else none
        else none
      else some (.inr b0_182)) (0, 0, ([w0.1, w0.2.1, w0.2.2.1, w0.2.2.2] : List Int)) : Option (List Int))).bind fun b0_185 =>
  some ((b0_185.getD 0 (0 : Int)), (b0_185.getD 1 (0 : Int)), (b0_185.getD 2 (0 : Int)), (b0_185.getD 3 (0 : Int)))
def sum_wide_times.sig : Sig := ⟨[(.agg (.pair (.int .u64) (.pair (.int .u64) (.pair (.int .u64) (.int .u64))))), (.c (.int .u64))], [(.agg (.pair (.int .u64) (.pair (.int .u64) (.pair (.int .u64) (.int .u64)))))]⟩
noncomputable def sum_wide_times.con (K : Nat) : Con := (mkCon sum_wide_times.sig (fun x => sum_wide_times.f K x.1 x.2))
noncomputable def sum_wide_times.ht : HT := .seq .nil (.seq .nil (.seq (.seq .nil (.block (.loop ⟨5, [], [0], ⟨[(5, .c (.v (.int .u64))), (11, .c (.v (.int .i64)))], [(0, .arr 117 (.int .u64))]⟩, [(.exit 0, ⟨[], [(0, .arr 117 (.int .u64))]⟩)]⟩ .nil))) .nil))
noncomputable def sum_wide_times.cx (K : Nat) : Cx := ⟨tt, [(94, bits_Mul64.con K)], [(95, .add64)], K, inlOf tt [(94, bits_Mul64.con K)] [(95, .add64)] K (getBody []) 0⟩
theorem sum_wide_times.eq (K : Nat) (x : PL sum_wide_times.sig.ps) : evalF (sum_wide_times.cx K) sum_wide_times.sig (bodyOf Try.f92) sum_wide_times.ht x = sum_wide_times.f K x.1 x.2 := by kernel_rfl
theorem sum_wide_times.fok (K : Nat) : FOK Try.prog sum_wide_times.sig (fun x => sum_wide_times.f K x.1 x.2) 92 := fok_of_eval (tt := tt) (cons := [(94, bits_Mul64.con K)]) (exts := [(95, .add64)]) (bodies := (getBody [])) (K := K) (d := 0) ⟨ttok, (getCon_cons (bits_Mul64.ok K) (fun _ _ => getCon_nil)), (getExt_cons ext95 (fun _ _ => getExt_nil)), (fun _ _ => getBody_nil)⟩ draw bok92 (sum_wide_times.eq K)
theorem sum_wide_times.ok (K : Nat) : ConOK Try.prog 92 (sum_wide_times.con K) := con_ok bok92 (sum_wide_times.fok K)

noncomputable def sum_wide_power.f (K : Nat) (w0 : Int × Int × Int × Int) (n1 : Int) (times2 : Int) : Option (Int × Int × Int × Int) :=
  ((loopN K (fun (s_ : Int × List Int) =>
    match s_ with
    | (t191, b0_192) =>
      bif decide (t191 < times2) then
        (sum_wide_times.f K ((b0_192.getD 0 (0 : Int)), (b0_192.getD 1 (0 : Int)), (b0_192.getD 2 (0 : Int)), (b0_192.getD 3 (0 : Int))) n1).bind fun r193 =>
        some (.inl (IntKind.i64.wrap (t191 + 1), ([r193.1, r193.2.1, r193.2.2.1, r193.2.2.2] : List Int)))
      else some (.inr b0_192)) (0, ([w0.1, w0.2.1, w0.2.2.1, w0.2.2.2] : List Int)) : Option (List Int))).bind fun b0_194 =>
  some ((b0_194.getD 0 (0 : Int)), (b0_194.getD 1 (0 : Int)), (b0_194.getD 2 (0 : Int)), (b0_194.getD 3 (0 : Int)))
def sum_wide_power.sig : Sig := ⟨[(.agg (.pair (.int .u64) (.pair (.int .u64) (.pair (.int .u64) (.int .u64))))), (.c (.int .u64)), (.c (.int .i64))], [(.agg (.pair (.int .u64) (.pair (.int .u64) (.pair (.int .u64) (.int .u64)))))]⟩
noncomputable def sum_wide_power.con (K : Nat) : Con := (mkCon sum_wide_power.sig (fun x => sum_wide_power.f K x.1 x.2.1 x.2.2))
noncomputable def sum_wide_power.ht : HT := .seq .nil (.seq (.seq .nil (.block (.loop ⟨8, [], [0], ⟨[(8, .c (.v (.int .i64)))], [(0, .arr 117 (.int .u64))]⟩, [(.exit 0, ⟨[], [(0, .arr 117 (.int .u64))]⟩)]⟩ .nil))) .nil)
noncomputable def sum_wide_power.cx (K : Nat) : Cx := ⟨tt, [(92, sum_wide_times.con K)], [], K, inlOf tt [(92, sum_wide_times.con K)] [] K (getBody []) 0⟩
theorem sum_wide_power.eq (K : Nat) (x : PL sum_wide_power.sig.ps) : evalF (sum_wide_power.cx K) sum_wide_power.sig (bodyOf Try.f89) sum_wide_power.ht x = sum_wide_power.f K x.1 x.2.1 x.2.2 := by kernel_rfl
theorem sum_wide_power.fok (K : Nat) : FOK Try.prog sum_wide_power.sig (fun x => sum_wide_power.f K x.1 x.2.1 x.2.2) 89 := fok_of_eval (tt := tt) (cons := [(92, sum_wide_times.con K)]) (exts := []) (bodies := (getBody [])) (K := K) (d := 0) ⟨ttok, (getCon_cons (sum_wide_times.ok K) (fun _ _ => getCon_nil)), (fun _ _ => getExt_nil), (fun _ _ => getBody_nil)⟩ draw bok89 (sum_wide_power.eq K)
theorem sum_wide_power.ok (K : Nat) : ConOK Try.prog 89 (sum_wide_power.con K) := con_ok bok89 (sum_wide_power.fok K)

noncomputable def sum_numberOf.f (K : Nat) (d0 : Int × Int) (s1 : Int) : Option (Bool × Int × Int × Int × Int × Int) :=
  (sum_abs.f K d0.1).bind fun r195 =>
  (sum_of.f K r195).bind fun r196 =>
  (sum_wide_power.f K r196 10 (IntKind.i64.wrap (s1 - d0.2))).bind fun r197 =>
  some (decide (d0.1 < 0), r197.1, r197.2.1, r197.2.2.1, r197.2.2.2, s1)
def sum_numberOf.sig : Sig := ⟨[(.agg (.pair (.int .i64) (.int .i64))), (.c (.int .i64))], [(.agg (.pair .bool (.pair (.int .u64) (.pair (.int .u64) (.pair (.int .u64) (.pair (.int .u64) (.int .i64)))))))]⟩
noncomputable def sum_numberOf.con (K : Nat) : Con := (mkCon sum_numberOf.sig (fun x => sum_numberOf.f K x.1 x.2))
noncomputable def sum_numberOf.ht : HT := .nil
noncomputable def sum_numberOf.cx (K : Nat) : Cx := ⟨tt, [(88, sum_abs.con K), (87, sum_of.con K), (89, sum_wide_power.con K)], [], K, inlOf tt [(88, sum_abs.con K), (87, sum_of.con K), (89, sum_wide_power.con K)] [] K (getBody []) 0⟩
theorem sum_numberOf.eq (K : Nat) (x : PL sum_numberOf.sig.ps) : evalF (sum_numberOf.cx K) sum_numberOf.sig (bodyOf Try.f80) sum_numberOf.ht x = sum_numberOf.f K x.1 x.2 := by kernel_rfl
theorem sum_numberOf.fok (K : Nat) : FOK Try.prog sum_numberOf.sig (fun x => sum_numberOf.f K x.1 x.2) 80 := fok_of_eval (tt := tt) (cons := [(88, sum_abs.con K), (87, sum_of.con K), (89, sum_wide_power.con K)]) (exts := []) (bodies := (getBody [])) (K := K) (d := 0) ⟨ttok, (getCon_cons (sum_abs.ok K) (getCon_cons (sum_of.ok K) (getCon_cons (sum_wide_power.ok K) (fun _ _ => getCon_nil)))), (fun _ _ => getExt_nil), (fun _ _ => getBody_nil)⟩ draw bok80 (sum_numberOf.eq K)
theorem sum_numberOf.ok (K : Nat) : ConOK Try.prog 80 (sum_numberOf.con K) := con_ok bok80 (sum_numberOf.fok K)

noncomputable def sum_wide_compare.f (K : Nat) (w0 : Int × Int × Int × Int) (v1 : Int × Int × Int × Int) : Option Int :=
  ((loopN K (fun (s_ : Int) =>
    match s_ with
    | i200 =>
      bif decide (i200 ≥ 0) then
        bif idx i200 4 then
          bif decide (i200.toNat < 4) then
            bif idx i200 4 then
              bif decide (i200.toNat < 4) then
                bif decide ((([w0.1, w0.2.1, w0.2.2.1, w0.2.2.2] : List Int).getD i200.toNat (0 : Int)) < (([v1.1, v1.2.1, v1.2.2.1, v1.2.2.2] : List Int).getD i200.toNat (0 : Int))) then some (.inr (.inr (-1)))
                else
                bif idx i200 4 then
                  bif decide (i200.toNat < 4) then
                    bif idx i200 4 then
                      bif decide (i200.toNat < 4) then
                        bif decide ((([w0.1, w0.2.1, w0.2.2.1, w0.2.2.2] : List Int).getD i200.toNat (0 : Int)) > (([v1.1, v1.2.1, v1.2.2.1, v1.2.2.2] : List Int).getD i200.toNat (0 : Int))) then
                          some (.inr (.inr 1))
                        else some (.inl (IntKind.i64.wrap (i200 - 1)))
                      else none
                    else none
                  else none
                else none
              else none
            else none
          else none
        else none
      else some (.inr (.inl ()))) 3 : Option (Unit ⊕ Int))).bind fun e_ =>
  match e_ with
  | .inl _ =>
    some 0
  | .inr t201 =>
    some t201
def sum_wide_compare.sig : Sig := ⟨[(.agg (.pair (.int .u64) (.pair (.int .u64) (.pair (.int .u64) (.int .u64))))), (.agg (.pair (.int .u64) (.pair (.int .u64) (.pair (.int .u64) (.int .u64)))))], [(.c (.int .i64))]⟩
noncomputable def sum_wide_compare.con (K : Nat) : Con := (mkCon sum_wide_compare.sig (fun x => sum_wide_compare.f K x.1 x.2))
noncomputable def sum_wide_compare.ht : HT := .seq .nil (.seq (.seq .nil (.block (.loop ⟨4, [], [], ⟨[(5, .c (.v (.int .i64)))], []⟩, [(.exit 0, ⟨[], []⟩), (.ret, ⟨[(4, .c (.v (.int .i64)))], []⟩)]⟩ .nil))) .nil)
noncomputable def sum_wide_compare.cx (K : Nat) : Cx := ⟨tt, [], [], K, inlOf tt [] [] K (getBody []) 0⟩
theorem sum_wide_compare.eq (K : Nat) (x : PL sum_wide_compare.sig.ps) : evalF (sum_wide_compare.cx K) sum_wide_compare.sig (bodyOf Try.f90) sum_wide_compare.ht x = sum_wide_compare.f K x.1 x.2 := by kernel_rfl
theorem sum_wide_compare.fok (K : Nat) : FOK Try.prog sum_wide_compare.sig (fun x => sum_wide_compare.f K x.1 x.2) 90 := fok_of_eval (tt := tt) (cons := []) (exts := []) (bodies := (getBody [])) (K := K) (d := 0) ⟨ttok, (fun _ _ => getCon_nil), (fun _ _ => getExt_nil), (fun _ _ => getBody_nil)⟩ draw bok90 (sum_wide_compare.eq K)
theorem sum_wide_compare.ok (K : Nat) : ConOK Try.prog 90 (sum_wide_compare.con K) := con_ok bok90 (sum_wide_compare.fok K)

noncomputable def sum_number_compare.f (K : Nat) (n0 : Bool × Int × Int × Int × Int × Int) (m1 : Bool × Int × Int × Int × Int × Int) : Option Int :=
  (((
      bif n0.1 then
        some m1.1
      else some false) : Option Bool)).bind fun t202 =>
  bif t202 then
    (sum_wide_compare.f K (m1.2.1, m1.2.2.1, m1.2.2.2.1, m1.2.2.2.2.1) (n0.2.1, n0.2.2.1, n0.2.2.2.1, n0.2.2.2.2.1)).bind fun r203 =>
    some r203
  else
  bif n0.1 then some (-1)
  else
  bif m1.1 then some 1
  else
  (sum_wide_compare.f K (n0.2.1, n0.2.2.1, n0.2.2.2.1, n0.2.2.2.2.1) (m1.2.1, m1.2.2.1, m1.2.2.2.1, m1.2.2.2.2.1)).bind fun r204 =>
  some r204
def sum_number_compare.sig : Sig := ⟨[(.agg (.pair .bool (.pair (.int .u64) (.pair (.int .u64) (.pair (.int .u64) (.pair (.int .u64) (.int .i64))))))), (.agg (.pair .bool (.pair (.int .u64) (.pair (.int .u64) (.pair (.int .u64) (.pair (.int .u64) (.int .i64)))))))], [(.c (.int .i64))]⟩
noncomputable def sum_number_compare.con (K : Nat) : Con := (mkCon sum_number_compare.sig (fun x => sum_number_compare.f K x.1 x.2))
noncomputable def sum_number_compare.ht : HT := .seq .nil (.seq (.block (.join ⟨5, [], [], ⟨[], []⟩, [(.normal, ⟨[(5, .c (.v .bool))], []⟩)]⟩ (.seq .nil .nil))) .nil)
noncomputable def sum_number_compare.cx (K : Nat) : Cx := ⟨tt, [(90, sum_wide_compare.con K)], [], K, inlOf tt [(90, sum_wide_compare.con K)] [] K (getBody []) 0⟩
theorem sum_number_compare.eq (K : Nat) (x : PL sum_number_compare.sig.ps) : evalF (sum_number_compare.cx K) sum_number_compare.sig (bodyOf Try.f81) sum_number_compare.ht x = sum_number_compare.f K x.1 x.2 := by kernel_rfl
theorem sum_number_compare.fok (K : Nat) : FOK Try.prog sum_number_compare.sig (fun x => sum_number_compare.f K x.1 x.2) 81 := fok_of_eval (tt := tt) (cons := [(90, sum_wide_compare.con K)]) (exts := []) (bodies := (getBody [])) (K := K) (d := 0) ⟨ttok, (getCon_cons (sum_wide_compare.ok K) (fun _ _ => getCon_nil)), (fun _ _ => getExt_nil), (fun _ _ => getBody_nil)⟩ draw bok81 (sum_number_compare.eq K)
theorem sum_number_compare.ok (K : Nat) : ConOK Try.prog 81 (sum_number_compare.con K) := con_ok bok81 (sum_number_compare.fok K)

noncomputable def sum_Compare.f (K : Nat) (a0 : Int × Int) (b1 : Int × Int) : Option Int :=
  (sum_counted.f K a0).bind fun r205 =>
  (sum_counted.f K b1).bind fun r206 =>
  (sum_numberOf.f K r205 (if (bif true then decide (r206.2 > r205.2) else decide (r206.2 < r205.2)) = true then r206.2 else r205.2)).bind fun r207 =>
  (sum_numberOf.f K r206 (if (bif true then decide (r206.2 > r205.2) else decide (r206.2 < r205.2)) = true then r206.2 else r205.2)).bind fun r208 =>
  (sum_number_compare.f K r207 r208).bind fun r209 =>
  some r209
def sum_Compare.sig : Sig := ⟨[(.agg (.pair (.int .i64) (.int .i64))), (.agg (.pair (.int .i64) (.int .i64)))], [(.c (.int .i64))]⟩
noncomputable def sum_Compare.con (K : Nat) : Con := (mkCon sum_Compare.sig (fun x => sum_Compare.f K x.1 x.2))
noncomputable def sum_Compare.ht : HT := .nil
noncomputable def sum_Compare.cx (K : Nat) : Cx := ⟨tt, [(79, sum_counted.con K), (80, sum_numberOf.con K), (81, sum_number_compare.con K)], [], K, inlOf tt [(79, sum_counted.con K), (80, sum_numberOf.con K), (81, sum_number_compare.con K)] [] K (getBody []) 0⟩
theorem sum_Compare.eq (K : Nat) (x : PL sum_Compare.sig.ps) : evalF (sum_Compare.cx K) sum_Compare.sig (bodyOf Try.f72) sum_Compare.ht x = sum_Compare.f K x.1 x.2 := by kernel_rfl
theorem sum_Compare.fok (K : Nat) : FOK Try.prog sum_Compare.sig (fun x => sum_Compare.f K x.1 x.2) 72 := fok_of_eval (tt := tt) (cons := [(79, sum_counted.con K), (80, sum_numberOf.con K), (81, sum_number_compare.con K)]) (exts := []) (bodies := (getBody [])) (K := K) (d := 0) ⟨ttok, (getCon_cons (sum_counted.ok K) (getCon_cons (sum_numberOf.ok K) (getCon_cons (sum_number_compare.ok K) (fun _ _ => getCon_nil)))), (fun _ _ => getExt_nil), (fun _ _ => getBody_nil)⟩ draw bok72 (sum_Compare.eq K)
theorem sum_Compare.ok (K : Nat) : ConOK Try.prog 72 (sum_Compare.con K) := con_ok bok72 (sum_Compare.fok K)

noncomputable def point_isBound.f (K : Nat) (p0 : List (List UInt8 × List UInt8) × Int × Bool × Int × Int × Int × Int × Bool × Int) : Option Bool :=
  (((
      (((
          bif p0.2.1 == 1 then
            some (!p0.2.2.1)
          else some false) : Option Bool)).bind fun t216 =>
      bif t216 then
        (dec_Good.f K (p0.2.2.2.1, p0.2.2.2.2.1)).bind fun r217 =>
        some (.inr r217)
      else
      bif p0.2.1 == 2 then
        bif !p0.2.2.1 then
          (dec_Good.f K (p0.2.2.2.1, p0.2.2.2.2.1)).bind fun r218 =>
          bif r218 then
            bif decide (p0.2.2.2.1 ≥ 0) then
              (sum_Compare.f K (p0.2.2.2.1, p0.2.2.2.2.1) (1, (0 : Int))).bind fun r219 =>
              some (.inr (decide (r219 ≤ 0)))
            else some (.inr false)
          else some (.inr false)
        else some (.inr false)
      else some (.inl ())) : Option (Unit ⊕ Bool))).bind fun e_ =>
  match e_ with
  | .inl _ =>
    bif (p0.2.2.2.1 == (0 : Int)) && ((p0.2.2.2.2.1 == (0 : Int)) && true) then
      bif p0.2.1 == 1 then
        some true
      else some (!p0.2.2.1)
    else some false
  | .inr t220 =>
    some t220
def point_isBound.sig : Sig := ⟨[(.agg (.pair (.sl (.pair .str .str)) (.pair (.int .i64) (.pair .bool (.pair (.int .i64) (.pair (.int .i64) (.pair (.int .i64) (.pair (.int .i64) (.pair .bool (.int .i64))))))))))], [(.c .bool)]⟩
noncomputable def point_isBound.con (K : Nat) : Con := (mkCon point_isBound.sig (fun x => point_isBound.f K x))
noncomputable def point_isBound.ht : HT := .seq .nil (.join ⟨2, [], [], ⟨[], []⟩, [(.normal, ⟨[], []⟩), (.ret, ⟨[(2, .c (.v .bool))], []⟩)]⟩ (.seq (.block (.join ⟨3, [], [], ⟨[], []⟩, [(.normal, ⟨[(3, .c (.v .bool))], []⟩)]⟩ (.seq .nil .nil))) .nil))
noncomputable def point_isBound.cx (K : Nat) : Cx := ⟨tt, [(71, dec_Good.con K), (72, sum_Compare.con K)], [], K, inlOf tt [(71, dec_Good.con K), (72, sum_Compare.con K)] [] K (getBody []) 0⟩
theorem point_isBound.eq (K : Nat) (x : PL point_isBound.sig.ps) : evalF (point_isBound.cx K) point_isBound.sig (bodyOf Try.f59) point_isBound.ht x = point_isBound.f K x := by kernel_rfl
theorem point_isBound.fok (K : Nat) : FOK Try.prog point_isBound.sig (fun x => point_isBound.f K x) 59 := fok_of_eval (tt := tt) (cons := [(71, dec_Good.con K), (72, sum_Compare.con K)]) (exts := []) (bodies := (getBody [])) (K := K) (d := 0) ⟨ttok, (getCon_cons (dec_Good.ok K) (getCon_cons (sum_Compare.ok K) (fun _ _ => getCon_nil))), (fun _ _ => getExt_nil), (fun _ _ => getBody_nil)⟩ draw bok59 (point_isBound.eq K)
theorem point_isBound.ok (K : Nat) : ConOK Try.prog 59 (point_isBound.con K) := con_ok bok59 (point_isBound.fok K)

noncomputable def point_isValue.f (K : Nat) (kind0 : Int) (p1 : List (List UInt8 × List UInt8) × Int × Bool × Int × Int × Int × Int × Bool × Int) : Option Bool :=
  (((
      bif kind0 == 2 then some true
      else
      bif p1.2.1 == 1 then
        some true
      else some (p1.2.1 == 3)) : Option Bool)).bind fun rises221 =>
  (dec_Good.f K (p1.2.2.2.2.2.1, p1.2.2.2.2.2.2.1)).bind fun r222 =>
  bif r222 then
    bif decide (p1.2.2.2.2.2.1 ≥ 0) then
      some true
    else some (!rises221)
  else some false
def point_isValue.sig : Sig := ⟨[(.c (.int .i64)), (.agg (.pair (.sl (.pair .str .str)) (.pair (.int .i64) (.pair .bool (.pair (.int .i64) (.pair (.int .i64) (.pair (.int .i64) (.pair (.int .i64) (.pair .bool (.int .i64))))))))))], [(.c .bool)]⟩
noncomputable def point_isValue.con (K : Nat) : Con := (mkCon point_isValue.sig (fun x => point_isValue.f K x.1 x.2))
noncomputable def point_isValue.ht : HT := .seq .nil (.join ⟨5, [], [], ⟨[], []⟩, [(.normal, ⟨[(5, .c (.v .bool))], []⟩)]⟩ (.seq .nil .nil))
noncomputable def point_isValue.cx (K : Nat) : Cx := ⟨tt, [(71, dec_Good.con K)], [], K, inlOf tt [(71, dec_Good.con K)] [] K (getBody []) 0⟩
theorem point_isValue.eq (K : Nat) (x : PL point_isValue.sig.ps) : evalF (point_isValue.cx K) point_isValue.sig (bodyOf Try.f60) point_isValue.ht x = point_isValue.f K x.1 x.2 := by kernel_rfl
theorem point_isValue.fok (K : Nat) : FOK Try.prog point_isValue.sig (fun x => point_isValue.f K x.1 x.2) 60 := fok_of_eval (tt := tt) (cons := [(71, dec_Good.con K)]) (exts := []) (bodies := (getBody [])) (K := K) (d := 0) ⟨ttok, (getCon_cons (dec_Good.ok K) (fun _ _ => getCon_nil)), (fun _ _ => getExt_nil), (fun _ _ => getBody_nil)⟩ draw bok60 (point_isValue.eq K)
theorem point_isValue.ok (K : Nat) : ConOK Try.prog 60 (point_isValue.con K) := con_ok bok60 (point_isValue.fok K)

noncomputable def point_isTime.f (K : Nat) (p0 : List (List UInt8 × List UInt8) × Int × Bool × Int × Int × Int × Int × Bool × Int) : Option Bool :=
  bif p0.2.2.2.2.2.2.2.2 == 0 then some true
  else
  bif p0.2.2.2.2.2.2.2.1 then
    bif decide (p0.2.2.2.2.2.2.2.2 ≥ (-1125899906842624)) then
      some (decide (p0.2.2.2.2.2.2.2.2 ≤ 1125899906842624))
    else some false
  else some false
def point_isTime.sig : Sig := ⟨[(.agg (.pair (.sl (.pair .str .str)) (.pair (.int .i64) (.pair .bool (.pair (.int .i64) (.pair (.int .i64) (.pair (.int .i64) (.pair (.int .i64) (.pair .bool (.int .i64))))))))))], [(.c .bool)]⟩
noncomputable def point_isTime.con (K : Nat) : Con := (mkCon point_isTime.sig (fun x => point_isTime.f K x))
noncomputable def point_isTime.ht : HT := .nil
noncomputable def point_isTime.cx (K : Nat) : Cx := ⟨tt, [], [], K, inlOf tt [] [] K (getBody []) 0⟩
theorem point_isTime.eq (K : Nat) (x : PL point_isTime.sig.ps) : evalF (point_isTime.cx K) point_isTime.sig (bodyOf Try.f61) point_isTime.ht x = point_isTime.f K x := by kernel_rfl
theorem point_isTime.fok (K : Nat) : FOK Try.prog point_isTime.sig (fun x => point_isTime.f K x) 61 := fok_of_eval (tt := tt) (cons := []) (exts := []) (bodies := (getBody [])) (K := K) (d := 0) ⟨ttok, (fun _ _ => getCon_nil), (fun _ _ => getExt_nil), (fun _ _ => getBody_nil)⟩ draw bok61 (point_isTime.eq K)
theorem point_isTime.ok (K : Nat) : ConOK Try.prog 61 (point_isTime.con K) := con_ok bok61 (point_isTime.fok K)

end Go.Proofs.Ytclmdnfkdpdacaa
