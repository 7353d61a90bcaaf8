/- Every operation that only computes is what the evaluator says. -/
import Derived.Test.YtoobdenlgapcmaaGreatRfA
import Derived.Laws.Entries
import Derived.Laws.StructEq
import Derived.ChangeKeysEq
import Derived.Laws.BytesArg
import Derived.Laws.Strings2
import Derived.Laws.Tables
set_option linter.unusedVariables false
set_option linter.unusedSimpArgs false
set_option linter.unusedSectionVars false
/- Operations that only compute, held against the machine's. -/
namespace Go.Rf
open Go.RowKit
set_option linter.unusedSectionVars false
variable [LowTab]

/-! ### The table of types -/
def tdOf : TypeDesc → TD
  | .int k => .int k
  | .bool => .bool
  | .string => .str
  | .slice e => .slice e
  | .array n e => .array n e
  | .struct fs => .struct (fs.toList.map fun f => (f.type, f.offset, f.name == "_"))
  | .pointer e => .ptr e
  | .func _ _ _ => .func
  | _ => .other

def isAggD : TypeDesc → Bool
  | .struct _ => true
  | .array _ _ => true
  | _ => false

def zval : CV → Value
  | .v (.int k) x => .int k x
  | .v .bool x => .bool x
  | .v .str l => .string ⟨List.toArray l⟩
  | .nilsl => .slice none 0 0
  | .nilptr => .pointer none
  | .nilfn => .nilFunc
  | _ => Go.undef

def zeroV (i : TI) : Value := if i.agg = true then .agg (i.zero.map zval).toArray else (i.zero.map zval).headD Go.undef

/-- A cell that is a zero value's. -/
def zok : CV → Bool
  | .v (.int _) _ => true
  | .v .bool _ => true
  | .v .str _ => true
  | .nilsl => true
  | .nilptr => true
  | .nilfn => true
  | _ => false

structure TIok (P : Program) (T : TypeId) (i : TI) : Prop where
  info : ∃ f, P.info? T = some f ∧ f.size = i.size ∧ f.bytes = i.bytes ∧ f.zero = some (zeroV i)
  und : ∃ d, P.underlying T = some d ∧ tdOf d = i.td
  zlen : i.zero.length = i.size
  zoks : i.zero.all zok = true
  one : i.agg = false → i.size = 1
  zty : ∀ t, i.ty = some t → implodeAll [] t i.zero = some t.dflt
  stood : i.agg = true → P.stoodInHeld T = false

structure TTok (P : Program) (tt : TT) : Prop where
  ok : ∀ T i, tt.get T = some i → TIok P T i
  depth : 12 ≤ P.depth

section
variable {P : Program} {tt : TT}

theorem TIok.run_und {T : TypeId} {i : TI} (h : TIok P T i) : ∃ d, tdOf d = i.td ∧ ∀ w, (underlying T).run P w = .ok d w := by
  obtain ⟨d, h1, h2⟩ := h.und
  exact ⟨d, h2, fun w => run_underlying h1 w⟩
theorem TIok.run_size {T : TypeId} {i : TI} (h : TIok P T i) (w : World) : (sizeOf T).run P w = .ok i.size w := by
  obtain ⟨f, h1, h2, _⟩ := h.info
  simp [sizeOf, typeInfo, h1, h2]
theorem TIok.run_info {T : TypeId} {i : TI} (h : TIok P T i) : ∃ f, f.size = i.size ∧ f.bytes = i.bytes ∧ f.zero = some (zeroV i) ∧ P.info? T = some f ∧ ∀ w, (typeInfo T).run P w = .ok f w := by
  obtain ⟨f, h1, h2, h3, h4⟩ := h.info
  exact ⟨f, h2, h3, h4, h1, fun w => by simp [typeInfo, h1]⟩
theorem TIok.run_zero {T : TypeId} {i : TI} (h : TIok P T i) (w : World) : (zeroValue T).run P w = .ok (zeroV i) w := by
  obtain ⟨f, h1, h2, h3, h4⟩ := h.info
  simp [zeroValue, typeInfo, h1, h4]
theorem aggOf {d : TypeDesc} {td : TD} (h : tdOf d = td) : (isAggD d = true ↔ (∃ n e, td = .array n e) ∨ ∃ fs, td = .struct fs) := by
  subst h
  cases d <;> simp [isAggD, tdOf]
theorem TI.agg_iff (i : TI) : i.agg = true ↔ (∃ n e, i.td = .array n e) ∨ ∃ fs, i.td = .struct fs := by
  unfold TI.agg
  cases i.td <;> simp
theorem TIok.run_agg {T : TypeId} {i : TI} (h : TIok P T i) (w : World) : (isAgg T).run P w = .ok i.agg w := by
  obtain ⟨d, h1, h2⟩ := h.run_und
  have h3 : isAggD d = i.agg := by
    rw [Bool.eq_iff_iff, aggOf h1, TI.agg_iff]
  simp only [isAgg, Sem.run_bind, h2, Result.andThen_ok]
  rw [← h3]
  cases d <;> rfl
theorem tdOf_slice {d : TypeDesc} {e : TypeId} (h : tdOf d = .slice e) : d = .slice e := by cases d <;> simp [tdOf] at h; subst h; rfl
theorem tdOf_array {d : TypeDesc} {n : Nat} {e : TypeId} (h : tdOf d = .array n e) : d = .array n e := by cases d <;> simp [tdOf] at h; obtain ⟨rfl, rfl⟩ := h; rfl
theorem tdOf_str {d : TypeDesc} (h : tdOf d = .str) : d = .string := by cases d <;> simp [tdOf] at h; rfl
theorem tdOf_bool {d : TypeDesc} (h : tdOf d = .bool) : d = .bool := by cases d <;> simp [tdOf] at h; rfl
theorem tdOf_int {d : TypeDesc} {k : IntKind} (h : tdOf d = .int k) : d = .int k := by cases d <;> simp [tdOf] at h; subst h; rfl
theorem tdOf_ptr {d : TypeDesc} {e : TypeId} (h : tdOf d = .ptr e) : d = .pointer e := by cases d <;> simp [tdOf] at h; subst h; rfl
theorem tdOf_struct {d : TypeDesc} {fs : List (TypeId × Nat × Bool)} (h : tdOf d = .struct fs) : ∃ l : Array Field, d = .struct l ∧ fs = l.toList.map fun f => (f.type, f.offset, f.name == "_") := by
  cases d <;> simp [tdOf] at h
  exact ⟨_, rfl, h.symm⟩
end

/-! ### Values looked at -/
section
variable {G : Gh} {st : List Blk} {w : World}
theorem RAV_int {k : IntKind} {x : Int} {v : Value} : RAV G st w (.s (.c (.v (.int k) x))) v ↔ v = .int k x := by simp [RAV, RSV, RCV, Rep]
theorem RAV_bool {x : Bool} {v : Value} : RAV G st w (.s (.c (.v .bool x))) v ↔ v = .bool x := by simp [RAV, RSV, RCV, Rep]
theorem RAV_str {l : List UInt8} {v : Value} : RAV G st w (.s (.c (.v .str l))) v ↔ v = .string ⟨l.toArray⟩ := by simp [RAV, RSV, RCV, Rep]
theorem RCV_int {k : IntKind} {x : Int} {v : Value} : RCV G st w (.v (.int k) x) v ↔ v = .int k x := by simp [RCV, Rep]
theorem RCV_bool {x : Bool} {v : Value} : RCV G st w (.v .bool x) v ↔ v = .bool x := by simp [RCV, Rep]
theorem RCV_str {l : List UInt8} {v : Value} : RCV G st w (.v .str l) v ↔ v = .string ⟨l.toArray⟩ := by simp [RCV, Rep]

theorem constV_sound (v : Value) : RAV G st w (constV v) v := by
  unfold constV
  split
  · exact RAV_int.2 rfl
  · exact RAV_bool.2 rfl
  · exact RAV_str.2 (by simp)
  · rfl
  · rfl
  · rfl
  · trivial

theorem opd_sound {s : St} {a : Act} (hF : SimF G s.st w s.sl a.tmps) (x : Operand) : RAV G s.st w (opd s x) (a.eval x) := by
  cases x with
  | tmp t =>
    simp only [opd, Act.eval]
    rcases Nat.lt_or_ge t s.sl.length with h | h
    · have h' : t < a.tmps.size := by rw [← hF.1]; exact h
      have := hF.2 t s.sl[t] a.tmps[t] (List.getElem?_eq_getElem h) (Array.getElem?_eq_getElem h')
      simpa [List.getD_eq_getElem?_getD, List.getElem?_eq_getElem h, h'] using this
    · have h' : a.tmps.size ≤ t := by rw [← hF.1]; exact h
      simp [List.getD_eq_getElem?_getD, List.getElem?_eq_none h, h', RAV, RSV, RCV]
  | const v => exact constV_sound v
  | global g => trivial
  | func f => exact ⟨[], by simp [Act.eval], rfl, fun i p h => by simp at h⟩
end

/-! ### Cells and typed values -/
section
variable {G : Gh} {st : List Blk} {w : World}

theorem explode_len : ∀ (t : Ty) (x : t.den), (explode t x).length = t.size
  | .int _, _ => rfl
  | .bool, _ => rfl
  | .str, _ => rfl
  | .sl _, _ => rfl
  | .pair a b, x => by simp [explode, Ty.size, explode_len a, explode_len b]

theorem explode_sound : ∀ {t : Ty} {x : t.den} {cs : List Value}, Rep G.S w t x cs → RCs G st w (explode t x) cs
  | .int k, x, cs, h => by rw [Rep] at h; subst h; exact ⟨RCV_int.2 rfl, trivial⟩
  | .bool, x, cs, h => by rw [Rep] at h; subst h; exact ⟨RCV_bool.2 rfl, trivial⟩
  | .str, x, cs, h => by rw [Rep] at h; subst h; exact ⟨RCV_str.2 rfl, trivial⟩
  | .sl t, x, cs, h => by
    have h0 := h
    rw [Rep] at h
    obtain ⟨A, c, rfl, _⟩ := h
    exact ⟨h0, trivial⟩
  | .pair a b, x, cs, h => by
    rw [Rep] at h
    obtain ⟨c1, c2, rfl, h1, h2⟩ := h
    exact (explode_sound h1).append (explode_sound h2)

theorem explode_back : ∀ {t : Ty} {x : t.den} {cs : List Value}, RCs G st w (explode t x) cs → Rep G.S w t x cs
  | .int k, x, [v], h => h.1
  | .bool, x, [v], h => h.1
  | .str, x, [v], h => h.1
  | .sl t, x, [v], h => h.1
  | .int k, x, [], h => h.elim
  | .bool, x, [], h => h.elim
  | .str, x, [], h => h.elim
  | .sl t, x, [], h => h.elim
  | .int k, x, _ :: _ :: _, h => h.2.elim
  | .bool, x, _ :: _ :: _, h => h.2.elim
  | .str, x, _ :: _ :: _, h => h.2.elim
  | .sl t, x, _ :: _ :: _, h => h.2.elim
  | .pair a b, x, cs, h => by
    rw [Rep]
    have h1 := RCs.take a.size h
    have h2 := RCs.drop a.size h
    have hl := explode_len a x.1
    simp only [explode] at h1 h2
    rw [List.take_left' hl] at h1
    rw [List.drop_left' hl] at h2
    exact ⟨_, _, (List.take_append_drop a.size cs).symm, explode_back h1, explode_back h2⟩

/-- A cell looked up as a value of a type. What is read of rows is not written while it is told so. -/
theorem one_v {t : Ty} {c : CV} {x : t.den} (hc : ∀ b n, c ≠ .own b n) (h : one st t c = some x) {v : Value} (hv : RCV G st w c v) : Rep G.S w t x [v] := by
  cases c with
  | v t' y =>
    simp only [one] at h
    split at h
    · rename_i e
      subst e
      simp only [Option.some.injEq] at h
      subst h
      exact hv
    · cases h
  | own b n => exact absurd rfl (hc b n)
  | nilsl =>
    cases t <;> simp [one] at h
    subst h
    cases hv
    rw [Rep]
    exact ⟨none, 0, rfl, Nat.le_refl _, fun h => absurd h (by simp)⟩
  | _ => simp [one] at h

/-- A row, its block let in among what is read. -/
theorem row_rep {tt : TT} {B b ver : Nat} {e : TypeId} {t : Ty} {xs : List t.den} {S' : Nat → Prop} (hb : RBlk tt B G st w b (.row ver e t xs)) (hS : ∀ g, G.S g → S' g) (hc : ∀ g, conc G b (.row ver e t xs) = some g → S' g) {v : Value} (hv : G.m b = .hdr v) :
    Rep S' w (.sl t) xs [v] := by
  obtain ⟨v', cells, h1, h2, h3, h4⟩ := hb
  rw [hv] at h1
  injection h1 with h1
  subst h1
  rw [Rep]
  obtain ⟨hl, hA | ⟨g, cap, cur, rfl, hB, hh, hn, hm, hs, htk⟩⟩ := h2
  · obtain ⟨A, rfl, hn, _⟩ := hA
    exact ⟨A, 0, by rw [hn], by omega, fun h => by omega⟩
  · refine ⟨_, cap + 1, rfl, hn, fun hp => ⟨_, rfl, hc g (by simp [conc, hv, rowBlk]), fun j x hj => ?_⟩⟩
    refine ⟨_, (h3.2 j x hj).mono hS (fun _ _ => rfl), fun i u hu => ?_⟩
    have hjl : j < xs.length := (List.getElem?_eq_some_iff.1 hj).1
    rw [add_add, add_plain]
    rw [List.getElem?_take] at hu
    split at hu
    · rename_i hi
      rw [List.getElem?_drop, ← htk, List.getElem?_take] at hu
      split at hu
      · simp only [World.cell?, hh, Option.isSome_none]
        simpa using hu
      · cases hu
    · cases hu

theorem one_sound {tt : TT} {B : Nat} {S' : Nat → Prop} {t : Ty} {c : CV} {x : t.den} (hM : SimM tt B G st w) (hS : ∀ g, G.S g → S' g) (hc : ∀ b n blk g, c = .own b n → st[b]? = some blk → conc G b blk = some g → S' g) (h : one st t c = some x) {v : Value} (hv : RCV G st w c v) : Rep S' w t x [v] := by
  cases c with
  | own b n =>
    simp only [one] at h
    simp only [RCV] at hv
    cases hst : st[b]? with
    | none => rw [hst] at h; cases h
    | some blk =>
      rw [hst] at h hv
      cases blk <;> simp only at h hv <;> first | cases h | skip
      · rename_i ver e t' xs
        cases hver : Nat.beq ver n
        · rw [hver] at h; cases h
        · rw [hver] at h
          simp only [cond_true] at h
          split at h
          · rename_i et
            subst et
            simp only [Option.some.injEq] at h
            subst h
            exact row_rep (hM.blks b _ hst) hS (fun g hg => hc b n _ g rfl hst hg) (hv.2 (Nat.eq_of_beq_eq_true hver).symm)
          · cases h
      · rename_i ver t' xs
        cases hver : Nat.beq ver n
        · rw [hver] at h; cases h
        · rw [hver] at h
          simp only [cond_true] at h
          split at h
          · rename_i et
            subst et
            simp only [Option.some.injEq] at h
            subst h
            exact (hv.2 (Nat.eq_of_beq_eq_true hver).symm).mono hS (fun _ _ => rfl)
          · cases h
  | _ => exact (one_v (st := st) (fun b n h => by cases h) h hv).mono hS (fun _ _ => rfl)

/-- Which machine blocks cells lead to by rows of their own. -/
def OwnIn (G : Gh) (st : List Blk) (cs : List CV) (S' : Nat → Prop) : Prop := ∀ b n blk g, CV.own b n ∈ cs → st[b]? = some blk → conc G b blk = some g → S' g

theorem implode_sound {tt : TT} {B : Nat} {S' : Nat → Prop} (hM : SimM tt B G st w) (hS : ∀ g, G.S g → S' g) : ∀ {t : Ty} {cs r : List CV} {x : t.den} {vs : List Value}, OwnIn G st cs S' → implode st t cs = some (x, r) → RCs G st w cs vs →
    ∃ v1 v2, vs = v1 ++ v2 ∧ Rep S' w t x v1 ∧ RCs G st w r v2 ∧ (∀ c ∈ r, c ∈ cs) ∧ cs.length = t.size + r.length := by
  intro t
  have single : ∀ {t : Ty} {c : CV} {cs : List CV} {x : t.den} {vs : List Value}, t.size = 1 → OwnIn G st (c :: cs) S' → one st t c = some x → RCs G st w (c :: cs) vs → ∃ v1 v2, vs = v1 ++ v2 ∧ Rep S' w t x v1 ∧ RCs G st w cs v2 ∧ (∀ c' ∈ cs, c' ∈ c :: cs) ∧ (c :: cs).length = t.size + cs.length := by
    intro t c cs x vs h1 ho hy hv
    cases vs with
    | nil => exact hv.elim
    | cons v vs =>
      exact ⟨[v], vs, rfl, one_sound hM hS (fun b n blk g e hst hg => ho b n blk g (by rw [e]; exact List.mem_cons_self ..) hst hg) hy hv.1, hv.2, fun c' h' => List.mem_cons_of_mem _ h', by rw [h1]; simp [Nat.add_comm]⟩
  induction t with
  | int k =>
    intro cs r x vs ho h hv
    cases cs with
    | nil => simp [implode] at h
    | cons c cs =>
      simp only [implode] at h
      split at h
      · rename_i y hy
        simp only [Option.some.injEq, Prod.mk.injEq] at h
        obtain ⟨rfl, rfl⟩ := h
        exact single rfl ho hy hv
      · cases h
  | bool =>
    intro cs r x vs ho h hv
    cases cs with
    | nil => simp [implode] at h
    | cons c cs =>
      simp only [implode] at h
      split at h
      · rename_i y hy
        simp only [Option.some.injEq, Prod.mk.injEq] at h
        obtain ⟨rfl, rfl⟩ := h
        exact single rfl ho hy hv
      · cases h
  | str =>
    intro cs r x vs ho h hv
    cases cs with
    | nil => simp [implode] at h
    | cons c cs =>
      simp only [implode] at h
      split at h
      · rename_i y hy
        simp only [Option.some.injEq, Prod.mk.injEq] at h
        obtain ⟨rfl, rfl⟩ := h
        exact single rfl ho hy hv
      · cases h
  | sl t _ =>
    intro cs r x vs ho h hv
    cases cs with
    | nil => simp [implode] at h
    | cons c cs =>
      simp only [implode] at h
      split at h
      · rename_i y hy
        simp only [Option.some.injEq, Prod.mk.injEq] at h
        obtain ⟨rfl, rfl⟩ := h
        exact single rfl ho hy hv
      · cases h
  | pair a b iha ihb =>
    intro cs r x vs ho h hv
    simp only [implode] at h
    split at h
    · rename_i x1 r1 h1
      split at h
      · rename_i x2 r2 h2
        simp only [Option.some.injEq, Prod.mk.injEq] at h
        obtain ⟨rfl, rfl⟩ := h
        obtain ⟨v1, v2, rfl, g1, g2, g3, g4⟩ := iha ho h1 hv
        obtain ⟨v3, v4, rfl, k1, k2, k3, k4⟩ := ihb (fun b n blk g hm => ho b n blk g (g3 _ hm)) h2 g2
        refine ⟨v1 ++ v3, v4, by rw [List.append_assoc], ?_, k2, fun c hc => g3 _ (k3 _ hc), by simp only [Ty.size]; omega⟩
        rw [Rep]
        exact ⟨v1, v3, rfl, g1, k1⟩
      · cases h
    · cases h

theorem implodeAll_sound {tt : TT} {B : Nat} {S' : Nat → Prop} {t : Ty} {cs : List CV} {x : t.den} {vs : List Value} (hM : SimM tt B G st w) (hS : ∀ g, G.S g → S' g) (ho : OwnIn G st cs S') (h : implodeAll st t cs = some x) (hv : RCs G st w cs vs) : Rep S' w t x vs := by
  unfold implodeAll at h
  split at h
  · rename_i y h1
    simp only [Option.some.injEq] at h
    subst h
    obtain ⟨v1, v2, rfl, g1, g2, _⟩ := implode_sound hM hS ho h1 hv
    cases v2 with
    | nil => simpa using g1
    | cons _ _ => exact g2.elim
  · cases h

theorem implodeRows_sound {tt : TT} {B : Nat} {S' : Nat → Prop} {t : Ty} (hM : SimM tt B G st w) (hS : ∀ g, G.S g → S' g) : ∀ {n : Nat} {cs : List CV} {xs : List t.den} {vs : List Value}, OwnIn G st cs S' → implodeRows st t n cs = some xs → RCs G st w cs vs → xs.length = n ∧ Rows S' w t xs vs
  | 0, [], xs, vs, _, h, hv => by
    simp only [implodeRows, Option.some.injEq] at h
    subst h
    cases vs with
    | nil => exact ⟨rfl, by simp [Rows]⟩
    | cons _ _ => exact hv.elim
  | 0, _ :: _, xs, vs, _, h, _ => by simp [implodeRows] at h
  | n + 1, cs, xs, vs, ho, h, hv => by
    simp only [implodeRows] at h
    split at h
    · rename_i x r h1
      split at h
      · rename_i ys h2
        simp only [Option.some.injEq] at h
        subst h
        obtain ⟨v1, v2, rfl, g1, g2, g3, _⟩ := implode_sound hM hS ho h1 hv
        obtain ⟨e1, e2, e3⟩ := implodeRows_sound hM hS (fun b n blk g hm => ho b n blk g (g3 _ hm)) h2 g2
        have hl := g1.len
        refine ⟨by simp [e1], by simp [e2, hl, Nat.add_mul, Nat.add_comm], fun j y hj => ?_⟩
        cases j with
        | zero =>
          simp only [List.getElem?_cons_zero, Option.some.injEq] at hj
          subst hj
          rw [Nat.zero_mul, List.drop_zero, List.take_left' hl]
          exact g1
        | succ j =>
          have := e3 j y (by simpa using hj)
          rw [Nat.add_mul, Nat.one_mul, Nat.add_comm, ← List.drop_drop, List.drop_left' hl]
          exact this
      · cases h
    · cases h

end
end Go.Rf

/- Operations that only compute, held against the machine's, part 2: each of them. -/
namespace Go.Rf
open Go.RowKit
set_option linter.unusedSectionVars false
variable [LowTab]

section
variable {P : Program} {tt : TT} {G : Gh} {st : List Blk} {w : World} {B : Nat}

theorem part_sound {T : TypeId} {i : TI} (hT : TIok P T i) {cs : List CV} {arr : List Value} {off : Nat} {av : AV} (h : partA i cs off = some av) (hr : RCs G st w cs arr) (w' : World) :
    ∃ v, RAV G st w av v ∧ (part T arr.toArray off).run P w' = .ok v w' := by
  unfold partA at h
  cases ha : i.agg with
  | true =>
    rw [ha] at h
    simp only [cond_true] at h
    cases hb : Nat.ble (off + i.size) cs.length with
    | false => rw [hb] at h; cases h
    | true =>
      rw [hb] at h
      simp only [cond_true, Option.some.injEq] at h
      subst h
      refine ⟨.agg ((arr.drop off).take i.size).toArray, ⟨_, rfl, (hr.drop off).take i.size⟩, ?_⟩
      simp only [part, Sem.run_bind, hT.run_agg, ha, Result.andThen_ok, if_true, hT.run_size, Sem.run_pure]
      congr 2
      apply Array.ext'
      simp [List.take_drop]
  | false =>
    rw [ha] at h
    simp only [cond_false] at h
    split at h
    · rename_i c hc
      simp only [Option.some.injEq] at h
      subst h
      obtain ⟨v, hv, hrv⟩ := hr.get hc
      refine ⟨v, hrv, ?_⟩
      simp only [part, Sem.run_bind, hT.run_agg, ha, Result.andThen_ok, Bool.false_eq_true, if_false]
      simp [hv]
    · cases h

theorem load_sound {T : TypeId} {i : TI} (hT : TIok P T i) {cs : List CV} {arr : List Value} {off : Nat} {av : AV} (h : partA i cs off = some av) (hr : RCs G st w cs arr) {ad : Addr} (hc : CellsAt w ad arr) :
    ∃ v, RAV G st w av v ∧ (loadVar T (ad.add off)).run P w = .ok v w := by
  unfold partA at h
  cases ha : i.agg with
  | true =>
    rw [ha] at h
    simp only [cond_true] at h
    cases hb : Nat.ble (off + i.size) cs.length with
    | false => rw [hb] at h; cases h
    | true =>
      rw [hb] at h
      simp only [cond_true, Option.some.injEq] at h
      subst h
      have hle : off + i.size ≤ arr.length := by rw [← hr.len]; exact Nat.le_of_ble_eq_true hb
      have hlen : ((arr.drop off).take i.size).length = i.size := by rw [List.length_take, List.length_drop]; omega
      refine ⟨.agg ((arr.drop off).take i.size).toArray, ⟨_, rfl, (hr.drop off).take i.size⟩, ?_⟩
      have hl := run_loadCells_list (P := P) w (ad.add off) ((arr.drop off).take i.size) (hc.sub off i.size)
      rw [hlen] at hl
      simp only [loadVar, Sem.run_bind, hT.run_agg, ha, Result.andThen_ok, if_true, hT.run_size, hl, Sem.run_pure]
  | false =>
    rw [ha] at h
    simp only [cond_false] at h
    split at h
    · rename_i c hcc
      simp only [Option.some.injEq] at h
      subst h
      obtain ⟨v, hv, hrv⟩ := hr.get hcc
      refine ⟨v, hrv, ?_⟩
      simp only [loadVar, Sem.run_bind, hT.run_agg, ha, Result.andThen_ok, Bool.false_eq_true, if_false, run_load, hc off v hv]
    · cases h

theorem cells_at {g : Nat} {arr : List Value} {T : TypeId} {fr : Nat × Nat} (h : w.heap[g]? = some (.cells arr.toArray T fr)) : CellsAt w ⟨g, 0, none⟩ arr := by
  intro i u hu
  rw [add_plain, Nat.zero_add]
  simp only [World.cell?, h, Option.isSome_none, Bool.false_eq_true, if_false]
  simpa using hu

/-- The cells of one element of a row, of an array. -/
theorem elem_at {g : Nat} {cur : List Value} {T : TypeId} {fr : Nat × Nat} (h : w.heap[g]? = some (.cells cur.toArray T fr)) (o n : Nat) : CellsAt w ⟨g, o, none⟩ ((cur.drop o).take n) := by
  have := (cells_at h).sub o n
  rwa [add_plain, Nat.zero_add] at this

/-! ### Whole numbers, strings, bools -/
theorem eqGuard_plain (op : BinOp) (T : TypeId) (x y : Operand) (a b : Value) (ha : a ≠ .nilIface) (hg : ∀ cs, a ≠ .agg cs) : (eqGuard op T x y a b).run P w = .ok () w := by
  unfold eqGuard
  cases op <;> first
    | rfl
    | (cases a <;> first | exact absurd rfl ha | exact absurd rfl (hg _) | rfl | (cases b <;> rfl))

theorem binI_sound {op : BinOp} {k : IntKind} {a b : Int} {av : AV} (h : binI op k a b = some (true, av)) (T : TypeId) (hs : op ≠ .shl) (hs' : op ≠ .shr) : ∃ v, RAV G st w av v ∧ (binOp op T (.int k a) (.int k b)).run P w = .ok v w := by
  unfold binI at h
  cases op <;> simp only [Option.some.injEq, Prod.mk.injEq, true_and] at h <;> first | exact absurd rfl hs | exact absurd rfl hs' | skip
  case add => subst h; exact ⟨_, RAV_int.2 rfl, by simp [binOp, Op.intArith]⟩
  case sub => subst h; exact ⟨_, RAV_int.2 rfl, by simp [binOp, Op.intArith]⟩
  case mul => subst h; exact ⟨_, RAV_int.2 rfl, by simp [binOp, Op.intArith]⟩
  case quo => obtain ⟨h1, rfl⟩ := h; exact ⟨_, RAV_int.2 rfl, by simp only [bne_iff_ne, ne_eq] at h1; simp [binOp, Op.intDiv, h1]⟩
  case rem => obtain ⟨h1, rfl⟩ := h; exact ⟨_, RAV_int.2 rfl, by simp only [bne_iff_ne, ne_eq] at h1; simp [binOp, Op.intDiv, h1]⟩
  case and => subst h; exact ⟨_, RAV_int.2 rfl, by simp [binOp, Op.intBits, bitOp]⟩
  case or => subst h; exact ⟨_, RAV_int.2 rfl, by simp [binOp, Op.intBits, bitOp]⟩
  case xor => subst h; exact ⟨_, RAV_int.2 rfl, by simp [binOp, Op.intBits, bitOp]⟩
  case andNot => subst h; exact ⟨_, RAV_int.2 rfl, by simp [binOp, Op.intBits, bitOp]⟩
  case eql => subst h; exact ⟨_, RAV_bool.2 rfl, by simp [binOp, Op.intCmp]⟩
  case neq => subst h; exact ⟨_, RAV_bool.2 rfl, by simp [binOp, Op.intCmp]⟩
  case lss => subst h; exact ⟨_, RAV_bool.2 rfl, by simp [binOp, Op.intCmp]⟩
  case leq => subst h; exact ⟨_, RAV_bool.2 rfl, by simp [binOp, Op.intCmp]⟩
  case gtr => subst h; exact ⟨_, RAV_bool.2 rfl, by simp [binOp, Op.intCmp]⟩
  case geq => subst h; exact ⟨_, RAV_bool.2 rfl, by simp [binOp, Op.intCmp]⟩

theorem shiftI_sound {op : BinOp} {k k' : IntKind} {a b : Int} {av : AV} (h : shiftI op k a b = some (true, av)) (T : TypeId) : ∃ v, RAV G st w av v ∧ (binOp op T (.int k a) (.int k' b)).run P w = .ok v w := by
  unfold shiftI at h
  cases op <;> simp only [Option.some.injEq, Prod.mk.injEq, decide_eq_true_eq] at h <;> first | cases h; done | skip
  all_goals
    obtain ⟨h1, rfl⟩ := h
    refine ⟨_, RAV_int.2 rfl, ?_⟩
    have : ¬ b < 0 := by omega
    simp [binOp, Op.shift, this]

theorem maxI64 : IntKind.i64.max = 9223372036854775807 := by decide

theorem binS_sound {op : BinOp} {a b : List UInt8} {av : AV} (h : binS op a b = some (true, av)) (T : TypeId) : ∃ v, RAV G st w av v ∧ (binOp op T (.string ⟨a.toArray⟩) (.string ⟨b.toArray⟩)).run P w = .ok v w := by
  unfold binS at h
  have e : (binOp op T (.string ⟨a.toArray⟩) (.string ⟨b.toArray⟩)) = Op.stringOp op ⟨a.toArray⟩ ⟨b.toArray⟩ := by cases op <;> rfl
  rw [e]
  cases op <;> simp only [Option.some.injEq, Prod.mk.injEq, decide_eq_true_eq, true_and] at h <;> first | cases h; done | skip
  case add =>
    obtain ⟨h1, rfl⟩ := h
    refine ⟨_, RAV_str.2 rfl, ?_⟩
    have h2 : ¬ (((⟨a.toArray⟩ : ByteArray).size + (⟨b.toArray⟩ : ByteArray).size : Nat) : Int) > IntKind.i64.max := by
      rw [maxI64]
      show ¬ ((a.toArray.size + b.toArray.size : Nat) : Int) > _
      simp only [List.size_toArray]
      unfold LIM at h1
      omega
    simp only [Op.stringOp, h2, if_false, Sem.run_pure]
    congr 2
  case eql => subst h; exact ⟨_, RAV_bool.2 rfl, by simp [Op.stringOp]⟩
  case neq => subst h; exact ⟨_, RAV_bool.2 rfl, by simp [Op.stringOp]⟩
  case lss => subst h; exact ⟨_, RAV_bool.2 rfl, by simp [Op.stringOp]⟩
  case leq => subst h; exact ⟨_, RAV_bool.2 rfl, by simp [Op.stringOp]⟩
  case gtr => subst h; exact ⟨_, RAV_bool.2 rfl, by simp [Op.stringOp]⟩
  case geq => subst h; exact ⟨_, RAV_bool.2 rfl, by simp [Op.stringOp]⟩

theorem eqB_sound {op : BinOp} {e : Bool} {av : AV} (h : eqB op e = some (true, av)) : (op = .eql ∧ av = .bool e) ∨ (op = .neq ∧ av = .bool !e) := by
  unfold eqB at h
  cases op <;> simp at h
  · exact .inl ⟨rfl, h.symm⟩
  · exact .inr ⟨rfl, h.symm⟩

/-! ### Structs compared -/
theorem eqFs_cons {chk : TypeId → Option (List TD)} {size : Nat} {T' : TypeId} {o : Nat} {blank : Bool} {r : List (TypeId × Nat × Bool)} {off : Nat} {l : List TD} (h : eqFs tt chk size ((T', o, blank) :: r) off = some l) :
    blank = false ∧ o = off ∧ ∃ l1 l2 i', chk T' = some l1 ∧ tt.get T' = some i' ∧ eqFs tt chk size r (off + i'.size) = some l2 ∧ l = l1 ++ l2 := by
  simp only [eqFs] at h
  cases hb : (!blank && Nat.beq o off) with
  | false => rw [hb] at h; cases h
  | true =>
    rw [hb] at h
    simp only [Bool.and_eq_true, Bool.not_eq_true'] at hb
    simp only [cond_true] at h
    split at h
    · rename_i l1 i' h1 h2
      split at h
      · rename_i l2 h3
        simp only [Option.some.injEq] at h
        exact ⟨hb.1, Nat.eq_of_beq_eq_true hb.2, l1, l2, i', h1, h2, h3, h.symm⟩
      · cases h
    · cases h

theorem eqGuardType_false (ok : TTok P tt) : ∀ (n : Nat) (T : TypeId) (l : List TD), eqTds tt n T = some l → ∀ d, n ≤ d → P.eqGuardType d T = false
  | 0, _, _, h, _, _ => by simp [eqTds] at h
  | n + 1, T, l, h, d, hd => by
    obtain ⟨d, rfl⟩ : ∃ d', d = d' + 1 := ⟨d - 1, by omega⟩
    simp only [eqTds] at h
    cases hT : tt.get T with
    | none => rw [hT] at h; cases h
    | some i =>
      rw [hT] at h
      simp only [] at h
      obtain ⟨u, hu, htd⟩ := (ok.ok T i hT).und
      simp only [Program.eqGuardType, hu]
      cases u <;> simp only [tdOf] at htd <;> rw [← htd] at h <;> simp only [reduceCtorEq] at h <;> try rfl
      case array m e =>
        split at h
        · rename_i l1 j h1 h2
          exact eqGuardType_false ok n e l1 h1 d (by omega)
        · cases h
      rename_i fs
      have key : ∀ (l : List Field) (off : Nat) (r : List TD), eqFs tt (eqTds tt n) i.size (l.map fun f => (f.type, f.offset, f.name == "_")) off = some r → (l.any fun f => f.name != "_" && P.eqGuardType d f.type) = false := by
        intro l
        induction l with
        | nil => intros; rfl
        | cons f l ih =>
          intro off r h
          obtain ⟨_, _, l1, l2, i', h1, _, h3, _⟩ := eqFs_cons h
          simp only [List.any_cons, eqGuardType_false ok n f.type l1 h1 d (by omega), Bool.and_false, Bool.false_or]
          exact ih _ _ h3
      have := key fs.toList 0 l h
      show (fs.any fun f => f.name != "_" && P.eqGuardType d f.type) = false
      rw [← Array.any_toList]
      exact this

theorem eqCells_split : ∀ {l1 l2 : List TD} {xs ys : List CV} {e : Bool}, eqCells (l1 ++ l2) xs ys = some e → l1.length ≤ xs.length → l1.length ≤ ys.length →
    ∃ e1 e2, eqCells l1 (xs.take l1.length) (ys.take l1.length) = some e1 ∧ eqCells l2 (xs.drop l1.length) (ys.drop l1.length) = some e2 ∧ e = (e1 && e2)
  | [], l2, xs, ys, e, h, _, _ => ⟨true, e, by simp [eqCells], by simpa using h, by simp⟩
  | t :: l1, l2, [], _, e, h, hx, _ => by simp at hx
  | t :: l1, l2, _, [], e, h, _, hy => by simp at hy
  | t :: l1, l2, x :: xs, y :: ys, e, h, hx, hy => by
    simp only [List.cons_append, eqCells] at h
    split at h
    · rename_i e0 he0
      split at h
      · rename_i e' he'
        obtain ⟨e1, e2, h1, h2, rfl⟩ := eqCells_split he' (by simpa using hx) (by simpa using hy)
        simp only [Option.some.injEq] at h
        exact ⟨e0 && e1, e2, by simp [eqCells, he0, h1], by simpa using h2, by rw [← h, Bool.and_assoc]⟩
      · cases h
    · cases h

theorem eqTds_len (ok : TTok P tt) : ∀ (n : Nat) (T : TypeId) (i : TI) (l : List TD), tt.get T = some i → eqTds tt n T = some l → l.length = i.size
  | 0, _, _, _, _, h => by simp [eqTds] at h
  | n + 1, T, i, l, hT, h => by
    simp only [eqTds, hT] at h
    have h1 := (ok.ok T i hT).one
    split at h
    · rename_i htd; simp only [Option.some.injEq] at h; subst h; exact (h1 (by simp [TI.agg, htd])).symm
    · rename_i htd; simp only [Option.some.injEq] at h; subst h; exact (h1 (by simp [TI.agg, htd])).symm
    · rename_i htd; simp only [Option.some.injEq] at h; subst h; exact (h1 (by simp [TI.agg, htd])).symm
    · rename_i fs htd
      have key : ∀ (l : List (TypeId × Nat × Bool)) (off : Nat) (r : List TD), eqFs tt (eqTds tt n) i.size l off = some r → off + r.length = i.size := by
        intro l
        induction l with
        | nil =>
          intro off r h
          simp only [eqFs] at h
          cases hb : Nat.beq off i.size with
          | false => rw [hb] at h; cases h
          | true =>
            rw [hb] at h
            simp only [cond_true, Option.some.injEq] at h
            subst h
            simpa using Nat.eq_of_beq_eq_true hb
        | cons f l ih =>
          intro off r h
          obtain ⟨T', o, bl⟩ := f
          obtain ⟨_, _, l1, l2, i', h2, h3, h4, rfl⟩ := eqFs_cons h
          have := ih _ _ h4
          have e1 := eqTds_len ok n T' i' l1 h3 h2
          rw [List.length_append]
          omega
      have := key fs 0 l h
      omega
    · rename_i m e htd
      split at h
      · rename_i l1 j h1 h2
        cases hb : Nat.beq i.size (m * j.size) with
        | false => rw [hb] at h; cases h
        | true =>
          rw [hb] at h
          simp only [cond_true, Option.some.injEq] at h
          subst h
          rw [Nat.eq_of_beq_eq_true hb, List.length_flatten, List.map_replicate, List.sum_replicate_nat, eqTds_len ok n e j l1 h2 h1]
      · cases h
    · cases h

/-- A value out of its cells. -/
def valOf (i : TI) (arr : List Value) : Value := if i.agg = true then .agg arr.toArray else arr.headD Go.undef

theorem part_val {T : TypeId} {i : TI} (hT : TIok P T i) (arr : List Value) (off : Nat) (hl : off + i.size ≤ arr.length) (w' : World) : (part T arr.toArray off).run P w' = .ok (valOf i ((arr.drop off).take i.size)) w' := by
  unfold valOf
  cases ha : i.agg with
  | true =>
    simp only [part, Sem.run_bind, hT.run_agg, ha, Result.andThen_ok, if_true, hT.run_size, Sem.run_pure]
    congr 2
    apply Array.ext'
    simp [List.take_drop]
  | false =>
    have h1 := hT.one ha
    simp only [part, Sem.run_bind, hT.run_agg, ha, Result.andThen_ok, Bool.false_eq_true, if_false]
    have hlt : off < arr.length := by omega
    have : arr.toArray[off]? = some arr[off] := by simp [hlt]
    rw [this, h1]
    simp only [Sem.run_pure]
    congr 1
    rw [List.headD_eq_head?_getD, List.head?_take, if_neg (by omega), List.head?_drop, List.getElem?_eq_getElem hlt]
    rfl

theorem eqCell_int {k0 : IntKind} {c d : CV} {e : Bool} (h : eqCell (.int k0) c d = some e) : ∃ k x y, c = .v (.int k) x ∧ d = .v (.int k) y ∧ e = (x == y) := by
  unfold eqCell at h
  split at h <;> try contradiction
  split at h
  · rename_i hk
    subst hk
    simp only [Option.some.injEq] at h
    exact ⟨_, _, _, rfl, rfl, h.symm⟩
  · cases h
theorem eqCell_bool {c d : CV} {e : Bool} (h : eqCell .bool c d = some e) : ∃ x y, c = .v .bool x ∧ d = .v .bool y ∧ e = (x == y) := by
  unfold eqCell at h
  split at h <;> try contradiction
  simp only [Option.some.injEq] at h
  exact ⟨_, _, rfl, rfl, h.symm⟩
theorem eqCell_str {c d : CV} {e : Bool} (h : eqCell .str c d = some e) : ∃ (x y : List UInt8), c = .v .str x ∧ d = .v .str y ∧ e = (x == y) := by
  unfold eqCell at h
  split at h <;> try contradiction
  simp only [Option.some.injEq] at h
  exact ⟨_, _, rfl, rfl, h.symm⟩

theorem eqFields_cons (d : Nat) (xs ys : Array Value) (f : Field) (fs : List Field) (hf : (f.name == "_") = false) {a b : Value} {r : Bool} {w' : World}
    (h1 : (part f.type xs f.offset).run P w' = .ok a w') (h2 : (part f.type ys f.offset).run P w' = .ok b w') (h3 : (Op.equalIn d f.type a b).run P w' = .ok r w') :
    (Op.eqFields d xs ys (f :: fs)).run P w' = if r = false then .ok false w' else (Op.eqFields d xs ys fs).run P w' := by
  have hne : f.name ≠ "_" := by simpa using hf
  simp only [Op.eqFields, hne, ne_eq, not_false_eq_true, if_true, Sem.run_bind, h1, h2, h3, Result.andThen_ok]
  cases r <;> simp

theorem eq_sound (ok : TTok P tt) : ∀ (n : Nat) (T : TypeId) (i : TI) (l : List TD) (xs ys : List CV) (as bs : List Value) (e : Bool) (d : Nat), tt.get T = some i → eqTds tt n T = some l → RCs G st w xs as → RCs G st w ys bs → xs.length = i.size → ys.length = i.size →
    eqCells l xs ys = some e → n ≤ d → ∀ w', (Op.equalIn d T (valOf i as) (valOf i bs)).run P w' = .ok e w'
  | 0, _, _, _, _, _, _, _, _, _, _, h, _, _, _, _, _, _ => by simp [eqTds] at h
  | n + 1, T, i, l, xs, ys, as, bs, e, d, hT, h, hx, hy, lx, ly, he, hd => by
    intro w'
    obtain ⟨d, rfl⟩ : ∃ d', d = d' + 1 := ⟨d - 1, by omega⟩
    obtain ⟨u, hu, htd⟩ := (ok.ok T i hT).und
    have h1 := (ok.ok T i hT).one
    have hst := (ok.ok T i hT).stood
    simp only [eqTds, hT] at h
    have leaf : i.agg = false → ∀ t, [t] = l → ∃ c c' v v', as = [v] ∧ bs = [v'] ∧ RCV G st w c v ∧ RCV G st w c' v' ∧ eqCell t c c' = some e := by
      intro ha t ht
      subst ht
      have e1 := h1 ha
      have la := hx.len
      have lb := hy.len
      obtain ⟨c, rfl⟩ := List.length_eq_one_iff.1 (lx.trans e1)
      obtain ⟨c', rfl⟩ := List.length_eq_one_iff.1 (ly.trans e1)
      obtain ⟨v, rfl⟩ := List.length_eq_one_iff.1 (la.symm.trans rfl)
      obtain ⟨v', rfl⟩ := List.length_eq_one_iff.1 (lb.symm.trans rfl)
      refine ⟨c, c', v, v', rfl, rfl, hx.1, hy.1, ?_⟩
      simp only [eqCells] at he
      split at he
      · rename_i e0 he0
        simp only [Bool.and_true, Option.some.injEq] at he
        rw [he0, he]
      · cases he
    split at h
    · rename_i k htd'
      have ha : i.agg = false := by simp [TI.agg, htd']
      obtain ⟨c, c', v, v', rfl, rfl, hv, hv', hc⟩ := leaf ha _ (Option.some.inj h)
      rw [htd'] at htd
      have hu' := tdOf_int htd
      subst hu'
      obtain ⟨k', x, y, rfl, rfl, rfl⟩ := eqCell_int hc
      rw [RCV_int.1 hv, RCV_int.1 hv']
      simp only [valOf, ha, Bool.false_eq_true, if_false, List.headD_cons]
      exact run_equalIn_int w' d T _ _ _ _ hu
    · rename_i htd'
      have ha : i.agg = false := by simp [TI.agg, htd']
      obtain ⟨c, c', v, v', rfl, rfl, hv, hv', hc⟩ := leaf ha _ (Option.some.inj h)
      rw [htd'] at htd
      have hu' := tdOf_bool htd
      subst hu'
      obtain ⟨x, y, rfl, rfl, rfl⟩ := eqCell_bool hc
      rw [RCV_bool.1 hv, RCV_bool.1 hv']
      simp only [valOf, ha, Bool.false_eq_true, if_false, List.headD_cons]
      exact run_equalIn_bool' w' d T _ _ hu
    · rename_i htd'
      have ha : i.agg = false := by simp [TI.agg, htd']
      obtain ⟨c, c', v, v', rfl, rfl, hv, hv', hc⟩ := leaf ha _ (Option.some.inj h)
      rw [htd'] at htd
      have hu' := tdOf_str htd
      subst hu'
      obtain ⟨x, y, rfl, rfl, rfl⟩ := eqCell_str hc
      rw [RCV_str.1 hv, RCV_str.1 hv']
      simp only [valOf, ha, Bool.false_eq_true, if_false, List.headD_cons]
      have := run_equalIn_string w' d T ⟨x.toArray⟩ ⟨y.toArray⟩ hu
      simpa using this
    · rename_i fs htd'
      have ha : i.agg = true := by simp [TI.agg, htd']
      rw [htd'] at htd
      obtain ⟨F, rfl, hF⟩ := tdOf_struct htd
      have hfo : P.fieldsOf T = F := by simp [Program.fieldsOf, hu]
      simp only [valOf, ha, if_true]
      rw [run_equalIn_struct w' d T _ _ (by rw [hfo]; exact hu) (hst ha), hfo]
      have la := hx.len
      have lb := hy.len
      have key : ∀ (L : List Field) (off : Nat) (r : List TD) (e : Bool), eqFs tt (eqTds tt n) i.size (L.map fun f => (f.type, f.offset, f.name == "_")) off = some r → off + r.length = i.size → eqCells r (xs.drop off) (ys.drop off) = some e →
          (Op.eqFields d as.toArray bs.toArray L).run P w' = .ok e w' := by
        intro L
        induction L with
        | nil =>
          intro off r e hr hl he
          simp only [List.map_nil, eqFs] at hr
          cases hb : Nat.beq off i.size with
          | false => rw [hb] at hr; cases hr
          | true =>
            rw [hb] at hr
            simp only [cond_true, Option.some.injEq] at hr
            subst hr
            have ho : off = i.size := by simpa using hl
            rw [List.drop_of_length_le (by omega), List.drop_of_length_le (by omega)] at he
            simp only [eqCells, Option.some.injEq] at he
            subst he
            rfl
        | cons f L ih =>
          intro off r e hr hl he
          rw [List.map_cons] at hr
          obtain ⟨hbl, ho, l1, l2, i', h2, h3, h4, rfl⟩ := eqFs_cons hr
          have e1 := eqTds_len ok n f.type i' l1 h3 h2
          rw [List.length_append] at hl
          obtain ⟨b1, b2, g1, g2, rfl⟩ := eqCells_split he (by rw [List.length_drop]; omega) (by rw [List.length_drop]; omega)
          have hi' := ok.ok f.type i' h3
          have p1 := part_val hi' as off (by omega) w'
          have p2 := part_val hi' bs off (by omega) w'
          rw [e1] at g1 g2
          have q := eq_sound ok n f.type i' l1 _ _ _ _ b1 d h3 h2 ((hx.drop off).take i'.size) ((hy.drop off).take i'.size) (by rw [List.length_take, List.length_drop]; omega) (by rw [List.length_take, List.length_drop]; omega) g1 (by omega) w'
          rw [eqFields_cons d as.toArray bs.toArray f L hbl (ho ▸ p1) (ho ▸ p2) q]
          rw [List.drop_drop, List.drop_drop] at g2
          have := ih (off + i'.size) l2 b2 h4 (by omega) g2
          cases b1 <;> simp [this]
      exact key F.toList 0 l e (by rw [← hF]; exact h) (by rw [Nat.zero_add]; exact eqTds_len ok (n + 1) T i l hT (by simp only [eqTds, hT, htd']; exact h)) (by simpa using he)
    · rename_i m el htd'
      split at h
      · rename_i l1 j g1 g2
        cases hb : Nat.beq i.size (m * j.size) with
        | false => rw [hb] at h; cases h
        | true =>
        rw [hb] at h
        simp only [cond_true, Option.some.injEq] at h
        subst h
        have hsz := Nat.eq_of_beq_eq_true hb
        have ha : i.agg = true := by simp [TI.agg, htd']
        rw [htd'] at htd
        have hu' := tdOf_array htd
        subst hu'
        have hj := ok.ok el j g2
        obtain ⟨f, hf1, hf2, _, _⟩ := hj.info
        have hcell : P.cellsOf el = j.size := by unfold Program.cellsOf; rw [hf1]; exact hf2
        have e1 := eqTds_len ok n el j l1 g2 g1
        simp only [valOf, ha, if_true]
        rw [run_equalIn_array w' d as.toArray bs.toArray hu hf1, hcell]
        have la := hx.len
        have lb := hy.len
        have key : ∀ (m' o : Nat) (e : Bool), o + m' = m → eqCells (List.replicate m' l1).flatten (xs.drop (o * j.size)) (ys.drop (o * j.size)) = some e →
            (Op.eqItems d el j.size as.toArray bs.toArray (List.range' o m')).run P w' = .ok e w' := by
          intro m'
          induction m' with
          | zero =>
            intro o e' ho he'
            have ho' : o = m := by omega
            rw [ho', List.drop_of_length_le (by omega), List.drop_of_length_le (by omega)] at he'
            simp only [List.replicate_zero, List.flatten_nil, eqCells, Option.some.injEq] at he'
            subst he'
            rfl
          | succ m' ih =>
            intro o e' ho he'
            have hle : (o + 1) * j.size ≤ m * j.size := Nat.mul_le_mul_right _ (by omega)
            rw [Nat.add_mul, Nat.one_mul] at hle
            rw [List.replicate_succ, List.flatten_cons] at he'
            obtain ⟨b1, b2, q1, q2, rfl⟩ := eqCells_split he' (by rw [List.length_drop]; omega) (by rw [List.length_drop]; omega)
            have p1 := part_val hj as (o * j.size) (by omega) w'
            have p2 := part_val hj bs (o * j.size) (by omega) w'
            rw [e1] at q1 q2
            have q := eq_sound ok n el j l1 _ _ _ _ b1 d g2 g1 ((hx.drop (o * j.size)).take j.size) ((hy.drop (o * j.size)).take j.size) (by rw [List.length_take, List.length_drop]; omega) (by rw [List.length_take, List.length_drop]; omega) q1 (by omega) w'
            rw [List.drop_drop, List.drop_drop] at q2
            have hnx : o * j.size + j.size = (o + 1) * j.size := by rw [Nat.add_mul, Nat.one_mul]
            rw [hnx] at q2
            have := ih (o + 1) b2 (by omega) q2
            rw [List.range'_succ]
            simp only [Op.eqItems, Sem.run_bind, p1, p2, q, Result.andThen_ok]
            cases b1 <;> simp [this]
        have := key m 0 e (by omega) (by simpa using he)
        rw [List.range_eq_range']
        exact this
      · cases h
    · cases h

end
end Go.Rf

/- Operations that only compute, held against the machine's, part 3: all of them together. -/
namespace Go.Rf
open Go.RowKit
set_option linter.unusedSectionVars false
variable [LowTab]

section
variable {P : Program} {tt : TT} {G : Gh} {st : List Blk} {w : World} {B : Nat}

/-- A related value that is compared. -/
theorem run_equalIn_nil (d : Nat) (T e : TypeId) (ad : Addr) (hd : P.underlying T = some (.pointer e)) (w' : World) : (Op.equalIn (d + 1) T (.pointer (some ad)) (.pointer none)).run P w' = .ok false w' := by
  simp [Op.equalIn, run_underlying hd]

theorem nonNil_sound {c : CV} {v : Value} (h : isNonNil st c = true) (hv : RCV G st w c v) : ∃ ad, v = .pointer (some ad) := by
  cases c <;> simp only [isNonNil, Bool.false_eq_true] at h
  · obtain ⟨_, g, _, h2⟩ := hv; exact ⟨_, h2⟩
  · simp only [RCV] at hv
    split at h
    · rename_i hst
      rw [hst] at hv
      obtain ⟨g, _, h2⟩ := hv
      exact ⟨_, h2⟩
    · rename_i hst
      rw [hst] at hv
      obtain ⟨_, g, _, _, h2⟩ := hv.2 (Nat.eq_of_beq_eq_true h).symm
      exact ⟨_, h2⟩
    · cases h
  · obtain ⟨ad, cs, h1, _⟩ := hv; exact ⟨_, h1⟩

theorem binA_sound (ok : TTok P tt) {op : BinOp} {T : TypeId} {x y av : AV} {u v : Value} (_hM : SimM tt B G st w) (h : binA tt st op T x y = some (true, av)) (hu : RAV G st w x u) (hv : RAV G st w y v) (ox oy : Operand) :
    ∃ r, RAV G st w av r ∧ (do eqGuard op T ox oy u v; binOp op T u v : Sem Value).run P w = .ok r w := by
  unfold binA at h
  split at h
  · rename_i k a k' b
    rw [RAV_int] at hu hv
    subst hu; subst hv
    have hg := eqGuard_plain (P := P) (w := w) op T ox oy (.int k a) (.int k' b) (by simp) (by simp)
    split at h
    · obtain ⟨r, h1, h2⟩ := shiftI_sound (P := P) (G := G) (st := st) (w := w) (k' := k') h T
      exact ⟨r, h1, by simp [hg, h2]⟩
    · obtain ⟨r, h1, h2⟩ := shiftI_sound (P := P) (G := G) (st := st) (w := w) (k' := k') h T
      exact ⟨r, h1, by simp [hg, h2]⟩
    · rename_i hs hs'
      split at h
      · rename_i hk
        subst hk
        obtain ⟨r, h1, h2⟩ := binI_sound (P := P) (G := G) (st := st) (w := w) h T (fun e => hs e) (fun e => hs' e)
        exact ⟨r, h1, by simp [hg, h2]⟩
      · cases h
  · rename_i a b
    rw [RAV_bool] at hu hv
    subst hu; subst hv
    have hg := eqGuard_plain (P := P) (w := w) op T ox oy (.bool a) (.bool b) (by simp) (by simp)
    split at h
    · rename_i i hT
      obtain ⟨d, hd, htd⟩ := (ok.ok T _ hT).und
      have hd' := tdOf_bool htd
      subst hd'
      have he : ∀ w', (Op.equal T (.bool a) (.bool b)).run P w' = .ok (a == b) w' := fun w' => run_equalIn_bool' w' 9999 T a b hd
      rcases eqB_sound h with ⟨rfl, rfl⟩ | ⟨rfl, rfl⟩
      · exact ⟨_, RAV_bool.2 rfl, by simp [hg, binOp, he]⟩
      · exact ⟨_, RAV_bool.2 rfl, by simp [hg, binOp, he]⟩
    · cases h
  · rename_i a b
    rw [RAV_str] at hu hv
    subst hu; subst hv
    have hg := eqGuard_plain (P := P) (w := w) op T ox oy (.string ⟨List.toArray a⟩) (.string ⟨List.toArray b⟩) (by simp) (by simp)
    obtain ⟨r, h1, h2⟩ := binS_sound (P := P) (G := G) (st := st) (w := w) h T
    exact ⟨r, h1, by simp [hg, h2]⟩
  · rename_i xs ys
    obtain ⟨as, rfl, hx⟩ := hu
    obtain ⟨bs, rfl, hy⟩ := hv
    cases hag : isAggT tt T with
    | false => rw [hag] at h; cases h
    | true =>
    rw [hag] at h
    simp only [cond_true] at h
    split at h
    · rename_i l hl
      split at h
      · rename_i e he
        have hgt := eqGuardType_false ok 12 T l hl P.depth ok.depth
        have hg : (eqGuard op T ox oy (.agg as.toArray) (.agg bs.toArray)).run P w = .ok () w := by
          unfold eqGuard
          cases op <;> first | rfl | (simp [hgt])
        -- the type's row
        have hT : ∃ i, tt.get T = some i := by
          cases hT : tt.get T with
          | none => simp [eqTds, hT] at hl
          | some i => exact ⟨i, rfl⟩
        obtain ⟨i, hT⟩ := hT
        have hll := eqTds_len ok 12 T i l hT hl
        have eqlen : ∀ (l : List TD) (xs ys : List CV) (e : Bool), eqCells l xs ys = some e → xs.length = l.length ∧ ys.length = l.length := by
          intro l
          induction l with
          | nil =>
            intro xs ys e h
            cases xs <;> cases ys <;> simp [eqCells] at h <;> exact ⟨rfl, rfl⟩
          | cons t l ih =>
            intro xs ys e h
            cases xs with
            | nil => simp [eqCells] at h
            | cons x xs =>
              cases ys with
              | nil => simp [eqCells] at h
              | cons y ys =>
                simp only [eqCells] at h
                split at h
                · split at h
                  · rename_i h2
                    obtain ⟨e1, e2⟩ := ih _ _ _ h2
                    exact ⟨by simp [e1], by simp [e2]⟩
                  · cases h
                · cases h
        obtain ⟨lx, ly⟩ := eqlen _ _ _ _ he
        cases ha : i.agg with
        | false => simp [isAggT, hT, ha] at hag
        | true =>
          have q := eq_sound ok 12 T i l xs ys as bs e 10000 hT hl hx hy (by omega) (by omega) he (by omega)
          simp only [valOf, ha, if_true] at q
          have he' : ∀ w', (Op.equal T (.agg as.toArray) (.agg bs.toArray)).run P w' = .ok e w' := q
          rcases eqB_sound h with ⟨rfl, rfl⟩ | ⟨rfl, rfl⟩
          · exact ⟨_, RAV_bool.2 rfl, by simp [hg, binOp, he']⟩
          · exact ⟨_, RAV_bool.2 rfl, by simp [hg, binOp, he']⟩
      · cases h
    · cases h
  · rename_i p
    split at h
    · rename_i e i hT
      cases hn : isNonNil st p with
      | false => rw [hn] at h; cases h
      | true =>
        rw [hn] at h
        simp only [cond_true] at h
        obtain ⟨d, hd, htd⟩ := (ok.ok T _ hT).und
        have hd' := tdOf_ptr htd
        subst hd'
        obtain ⟨ad, rfl⟩ := nonNil_sound hn hu
        have hv' : v = .pointer none := hv
        subst hv'
        have hg := eqGuard_plain (P := P) (w := w) op T ox oy (.pointer (some ad)) (.pointer none) (by simp) (by simp)
        have he : ∀ w', (Op.equal T (.pointer (some ad)) (.pointer none)).run P w' = .ok false w' := fun w' => run_equalIn_nil 9999 T _ ad hd w'
        rcases eqB_sound h with ⟨rfl, rfl⟩ | ⟨rfl, rfl⟩
        · exact ⟨_, RAV_bool.2 rfl, by simp [hg, binOp, he]⟩
        · exact ⟨_, RAV_bool.2 rfl, by simp [hg, binOp, he]⟩
    · cases h
  · cases h

end
end Go.Rf

/- Operations that only compute, held against the machine's, part 4. -/
namespace Go.Rf
open Go.RowKit
set_option linter.unusedSectionVars false
variable [LowTab]

section
variable {P : Program} {tt : TT} {G : Gh} {st : List Blk} {w : World} {B : Nat}

theorem unA_sound {op : UnOp} {x av : AV} {u : Value} (h : unA op x = some (true, av)) (hu : RAV G st w x u) : ∃ r, RAV G st w av r ∧ (Op.unary op u).run P w = .ok r w := by
  unfold unA at h
  split at h
  · simp only [Option.some.injEq, Prod.mk.injEq, true_and] at h
    subst h
    rw [RAV_int] at hu
    subst hu
    exact ⟨_, RAV_int.2 rfl, by simp [Op.unary, Op.intArith]⟩
  · rename_i k a
    simp only [Option.some.injEq, Prod.mk.injEq, true_and] at h
    subst h
    rw [RAV_int] at hu
    subst hu
    refine ⟨_, RAV_int.2 rfl, ?_⟩
    simp only [Op.unary, Op.intBits, bitOp, Sem.run_pure]
    cases k.signed <;> rfl
  · simp only [Option.some.injEq, Prod.mk.injEq, true_and] at h
    subst h
    rw [RAV_bool] at hu
    subst hu
    exact ⟨_, RAV_bool.2 rfl, by simp [Op.unary]⟩
  · cases h

/-- The bytes of a slice, read. -/
theorem bytes_run (w' : World) {ad : Addr} {l : List Int} (c : Nat) (hc : ∀ (j : Nat) (x : Int), l[j]? = some x → w'.cell? (ad.add j) = some (.int .u8 x)) :
    (Conv.bytesToString (.slice (some ad) l.length c)).run P w' = .ok (.string ⟨(bytesOf l).toArray⟩) w' := by
  have hl := run_loadCells_list (P := P) w' ad (l.map fun x => Value.int .u8 x) (fun j v hv => by
    rw [List.getElem?_map] at hv
    cases hx : l[j]? with
    | none => rw [hx] at hv; cases hv
    | some x => rw [hx] at hv; simp only [Option.map_some, Option.some.injEq] at hv; subst hv; exact hc j x hx)
  rw [List.length_map] at hl
  simp only [Conv.bytesToString, Sem.run_bind, hl, Result.andThen_ok]
  rw [← Array.forIn_toList]
  have key : ∀ (l : List Int) (acc : ByteArray), (forIn (l.map fun x => Value.int .u8 x) acc (fun c r => do
        let .int .u8 n := c | stuck "bytesToString: byte expected"
        pure (ForInStep.yield (r.push (UInt8.ofNat n.toNat)))) : Sem ByteArray).run P w' = .ok ⟨acc.data ++ (bytesOf l).toArray⟩ w' := by
    intro l
    induction l with
    | nil => intro acc; simp [bytesOf]
    | cons x l ih =>
      intro acc
      simp only [List.map_cons, List.forIn_cons, Sem.run_bind, Sem.run_pure, Result.andThen_ok]
      rw [ih]
      congr 2
      simp [bytesOf, ByteArray.push]
  have := key l ByteArray.empty
  erw [this]
  simp [ByteArray.empty, ByteArray.emptyWithCapacity]
  rfl

theorem convA_sound (ok : TTok P tt) {src dst : TypeId} {x av : AV} {u : Value} (hM : SimM tt B G st w) (h : convA tt st src dst x = some (true, av)) (hu : RAV G st w x u) : ∃ r, RAV G st w av r ∧ (convert src dst u).run P w = .ok r w := by
  unfold convA at h
  split at h
  · rename_i i j hi hj
    obtain ⟨d, hd, hr⟩ := (ok.ok _ _ hi).run_und
    obtain ⟨d', hd', hr'⟩ := (ok.ok _ _ hj).run_und
    split at h
    · rename_i k0 k k1 a h1 h2
      rw [h1] at hd
      rw [h2] at hd'
      have e1 := tdOf_int hd
      have e2 := tdOf_int hd'
      subst e1; subst e2
      rw [RAV_int] at hu
      subst hu
      simp only [Option.some.injEq, Prod.mk.injEq, true_and] at h
      subst h
      exact ⟨_, RAV_int.2 rfl, by simp [convert, hr, hr', Conv.intToInt]⟩
    · rename_i a h1 h2
      rw [h1] at hd
      rw [h2] at hd'
      have e1 := tdOf_str hd
      have e2 := tdOf_str hd'
      subst e1; subst e2
      rw [RAV_str] at hu
      subst hu
      simp only [Option.some.injEq, Prod.mk.injEq, true_and] at h
      subst h
      exact ⟨_, RAV_str.2 rfl, by simp [convert, hr, hr']⟩
    · rename_i e c h1 h2
      rw [h1] at hd
      rw [h2] at hd'
      have e1 := tdOf_slice hd
      have e2 := tdOf_str hd'
      subst e1; subst e2
      split at h
      · rename_i z hz
        obtain ⟨d3, hd3, hr3⟩ := (ok.ok _ _ hz).run_und
        have e3 := tdOf_int hd3
        subst e3
        split at h
        · rename_i l hl
          simp only [Option.some.injEq, Prod.mk.injEq, true_and] at h
          subst h
          have hrep := one_sound (S' := fun _ => True) hM (fun _ _ => trivial) (fun _ _ _ _ _ _ _ => trivial) hl hu
          rw [Rep] at hrep
          obtain ⟨A, c', hA, hle, hc⟩ := hrep
          simp only [List.cons.injEq, and_true] at hA
          subst hA
          refine ⟨.string ⟨(bytesOf l).toArray⟩, RAV_str.2 rfl, ?_⟩
          simp only [convert, Sem.run_bind, hr, hr', hr3, Result.andThen_ok]
          rcases Nat.eq_zero_or_pos (List.length (α := Int) l) with h0 | h0
          · have : l = ([] : List Int) := List.eq_nil_of_length_eq_zero h0
            subst this
            cases A with
            | none => simp [Conv.bytesToString, bytesOf]; rfl
            | some ad => exact bytes_run (P := P) w (l := []) c' (fun j x hj => by simp at hj)
          · obtain ⟨ad, rfl, _, hx⟩ := hc h0
            refine bytes_run (P := P) w (l := l) c' fun j x hj => ?_
            obtain ⟨rs, h3, h4⟩ := hx j x hj
            rw [Rep] at h3
            subst h3
            have := h4 0 _ rfl
            simpa [Ty.size, add_add] using this
        · cases h
      · cases h
    · cases h
  · cases h

theorem bounds_sound {n c : Nat} (hnc : n ≤ c) {lo hi : Option AV} {l h : Nat} (hb : bounds n lo hi = some (true, l, h)) {lo' hi' : Option Value}
    (h1 : (lo = none ∧ lo' = none) ∨ ∃ x v, lo = some x ∧ lo' = some v ∧ RAV G st w x v) (h2 : (hi = none ∧ hi' = none) ∨ ∃ x v, hi = some x ∧ hi' = some v ∧ RAV G st w x v) (isS : Bool) (w' : World) :
    l ≤ h ∧ h ≤ n ∧ (Instr.sliceBounds isS n c lo' hi' none).run P w' = .ok (l, h, c) w' := by
  have int : ∀ {k : IntKind} {a : Int} {v : Value}, RAV G st w (.s (.c (.v (.int k) a))) v → v = .int k a := fun h => RAV_int.1 h
  unfold bounds at hb
  split at hb
  · rcases h1 with ⟨_, rfl⟩ | ⟨x, v, e, _⟩
    · rcases h2 with ⟨_, rfl⟩ | ⟨x, v, e, _⟩
      · simp only [Option.some.injEq, Prod.mk.injEq, true_and] at hb
        obtain ⟨rfl, rfl⟩ := hb
        exact ⟨Nat.zero_le _, Nat.le_refl _, by simp [Instr.sliceBounds]⟩
      · cases e
    · cases e
  · rename_i k a
    rcases h1 with ⟨e, _⟩ | ⟨x, v, e, rfl, hv⟩
    · cases e
    · simp only [Option.some.injEq] at e
      subst e
      have := int hv
      subst this
      rcases h2 with ⟨_, rfl⟩ | ⟨x, v, e, _⟩
      · simp only [Option.some.injEq, Prod.mk.injEq, Bool.and_eq_true, decide_eq_true_eq] at hb
        obtain ⟨⟨h3, h4⟩, rfl, rfl⟩ := hb
        change Int at a
        replace h3 : (0 : Int) ≤ a := h3
        replace h4 : a ≤ (n : Int) := h4
        exact ⟨by omega, Nat.le_refl _, by simp [Instr.sliceBounds, Instr.sliceBound, asIntOf, h3, h4]⟩
      · cases e
  · rename_i k a
    rcases h1 with ⟨_, rfl⟩ | ⟨x, v, e, _⟩
    · rcases h2 with ⟨e, _⟩ | ⟨x, v, e, rfl, hv⟩
      · cases e
      · simp only [Option.some.injEq] at e
        subst e
        have := int hv
        subst this
        simp only [Option.some.injEq, Prod.mk.injEq, Bool.and_eq_true, decide_eq_true_eq] at hb
        obtain ⟨⟨h3, h4⟩, rfl, rfl⟩ := hb
        change Int at a
        replace h3 : (0 : Int) ≤ a := h3
        replace h4 : a ≤ (n : Int) := h4
        have h5 : a ≤ (c : Int) := by omega
        exact ⟨Nat.zero_le _, by omega, by simp [Instr.sliceBounds, Instr.sliceBound, asIntOf, h3, h5]⟩
    · cases e
  · rename_i k a k' b
    rcases h1 with ⟨e, _⟩ | ⟨x, v, e, rfl, hv⟩
    · cases e
    · simp only [Option.some.injEq] at e
      subst e
      have := int hv
      subst this
      rcases h2 with ⟨e, _⟩ | ⟨x, v, e, rfl, hv⟩
      · cases e
      · simp only [Option.some.injEq] at e
        subst e
        have := int hv
        subst this
        simp only [Option.some.injEq, Prod.mk.injEq, Bool.and_eq_true, decide_eq_true_eq] at hb
        obtain ⟨⟨⟨h3, h4⟩, h5⟩, rfl, rfl⟩ := hb
        change Int at a
        change Int at b
        replace h3 : (0 : Int) ≤ a := h3
        replace h4 : a ≤ b := h4
        replace h5 : b ≤ (n : Int) := h5
        have h6 : b ≤ (c : Int) := by omega
        have h7 : 0 ≤ b := by omega
        exact ⟨by omega, by omega, by simp [Instr.sliceBounds, Instr.sliceBound, asIntOf, h3, h6, h7]; intro h; omega⟩
  · cases hb

/-- What a cut of a slice that is read is. -/
theorem rep_cut {S : Nat → Prop} {w' : World} {t : Ty} {xs : List t.den} {A : Option Addr} {c l h : Nat} (hr : Rep S w' (.sl t) xs [.slice A xs.length c]) (h1 : l ≤ h) (h2 : h ≤ xs.length) {size : Nat} (hs : size = t.size) :
    Rep S w' (.sl t) ((xs.take h).drop l) [.slice (if c = l then A else A.map (·.add (l * size))) (h - l) (c - l)] := by
  rw [Rep] at hr ⊢
  obtain ⟨A', c', e, hle, hx⟩ := hr
  simp only [List.cons.injEq, Value.slice.injEq, and_true, true_and] at e
  obtain ⟨rfl, rfl⟩ := e
  have hlen : List.length (α := t.den) ((xs.take h).drop l) = h - l := by rw [List.length_drop, List.length_take]; omega
  refine ⟨_, _, by rw [hlen], by rw [hlen]; omega, fun hp => ?_⟩
  rw [hlen] at hp
  obtain ⟨ad, rfl, hS, hx⟩ := hx (show 0 < List.length (α := t.den) xs by omega)
  have hne : ¬ c = l := by omega
  rw [if_neg hne]
  refine ⟨ad.add (l * size), rfl, by rw [add_block]; exact hS, fun j x hj => ?_⟩
  have hj' : (show List t.den from xs)[l + j]? = some x := by
    have hj2 : ((xs.take h).drop l)[j]? = some x := hj
    rw [List.getElem?_drop, List.getElem?_take] at hj2
    split at hj2
    · exact hj2
    · cases hj2
  obtain ⟨rs, h3, h4⟩ := hx (l + j) x hj'
  refine ⟨rs, h3, ?_⟩
  rw [add_add, hs]
  rw [Nat.add_mul] at h4
  exact h4

theorem opt_sound {s : St} {a : Act} (hF : SimF G s.st w s.sl a.tmps) (o : Option Operand) : (o.map (opd s) = none ∧ o.map a.eval = none) ∨ ∃ x v, o.map (opd s) = some x ∧ o.map a.eval = some v ∧ RAV G s.st w x v := by
  cases o with
  | none => exact .inl ⟨rfl, rfl⟩
  | some x => exact .inr ⟨_, _, rfl, rfl, opd_sound hF x⟩

theorem isZero_sound {o : Option AV} {v : Option Value} (h : isZero o = true) (hv : (o = none ∧ v = none) ∨ ∃ x u, o = some x ∧ v = some u ∧ RAV G st w x u) : ∃ k, v = some (.int k 0) := by
  unfold isZero at h
  split at h
  · rename_i k
    rcases hv with ⟨e, _⟩ | ⟨x, u, e, rfl, hr⟩
    · cases e
    · simp only [Option.some.injEq] at e
      subst e
      exact ⟨k, by rw [RAV_int.1 hr]⟩
  · cases h

theorem elemOK_sound (ok : TTok P tt) {T : TypeId} {size : Nat} (h : elemOK tt T size = true) : ∃ e, (∀ w', (underlying T).run P w' = .ok (.slice e) w') ∧ ∀ w', (sizeOf e).run P w' = .ok size w' := by
  unfold elemOK at h
  split at h
  · rename_i e _ _ _ _ hT
    obtain ⟨d, hd, hr⟩ := (ok.ok _ _ hT).run_und
    have e1 := tdOf_slice hd
    subst e1
    split at h
    · rename_i j hj
      exact ⟨e, hr, fun w' => by rw [(ok.ok _ _ hj).run_size, Nat.eq_of_beq_eq_true h]⟩
    · cases h
  · cases h

theorem elemIs_sound (ok : TTok P tt) {T : TypeId} (h : elemIs tt T = true) : ∃ e z, (∀ w', (underlying T).run P w' = .ok (.slice e) w') ∧ ∀ w', (sizeOf e).run P w' = .ok z w' := by
  unfold elemIs at h
  split at h
  · rename_i e _ _ _ _ hT
    obtain ⟨d, hd, hr⟩ := (ok.ok _ _ hT).run_und
    have e1 := tdOf_slice hd
    subst e1
    obtain ⟨j, hj⟩ := Option.isSome_iff_exists.1 h
    exact ⟨e, j.size, hr, fun w' => (ok.ok _ _ hj).run_size w'⟩
  · cases h

theorem sliceA_sound (ok : TTok P tt) {T : TypeId} {x av : AV} {lo hi mx : Option AV} {u : Value} {lo' hi' mx' : Option Value} (h : sliceA tt T x lo hi mx = some (true, av)) (hu : RAV G st w x u)
    (h1 : (lo = none ∧ lo' = none) ∨ ∃ x v, lo = some x ∧ lo' = some v ∧ RAV G st w x v) (h2 : (hi = none ∧ hi' = none) ∨ ∃ x v, hi = some x ∧ hi' = some v ∧ RAV G st w x v) (h3 : (mx = none ∧ mx' = none) ∨ ∃ x v, mx = some x ∧ mx' = some v ∧ RAV G st w x v) :
    ∃ r, RAV G st w av r ∧ (Instr.sliceAt T u lo' hi' mx').run P w = .ok r w := by
  unfold sliceA at h
  split at h
  · rename_i s
    rw [RAV_str] at hu
    subst hu
    obtain rfl : mx' = none := by
      rcases h3 with h3 | ⟨_, _, e, _⟩
      · exact h3.2
      · cases e
    split at h
    · rename_i hT
      obtain ⟨d, hd, hr⟩ := (ok.ok _ _ hT).run_und
      have e1 := tdOf_str hd
      subst e1
      split at h
      · rename_i g l hh hb
        simp only [Option.some.injEq, Prod.mk.injEq] at h
        obtain ⟨rfl, rfl⟩ := h
        obtain ⟨_, hle, hrun⟩ := bounds_sound (P := P) (Nat.le_refl _) hb h1 h2 false w
        refine ⟨_, RAV_str.2 rfl, ?_⟩
        simp only [Instr.sliceAt, Instr.slice, Sem.run_bind, hr, Result.andThen_ok]
        have hsz : (⟨List.toArray s⟩ : ByteArray).size = List.length (α := UInt8) s := by simp [ByteArray.size]
        simp only [Option.isSome_none, Bool.false_eq_true, if_false, hsz, Sem.run_bind, hrun, Result.andThen_ok, Sem.run_pure]
        congr 2
        rw [ByteArray.extract_mk, List.drop_take]
      · cases h
    · cases h
  · rename_i t xs
    obtain rfl : mx' = none := by
      rcases h3 with h3 | ⟨_, _, e, _⟩
      · exact h3.2
      · cases e
    cases he : elemOK tt T t.size with
    | false => rw [he] at h; cases h
    | true =>
      rw [he] at h
      simp only [cond_true] at h
      obtain ⟨e, hr, hz⟩ := elemOK_sound ok he
      split at h
      · rename_i g l hh hb
        simp only [Option.some.injEq, Prod.mk.injEq] at h
        obtain ⟨rfl, rfl⟩ := h
        have hrep : Rep G.S w (.sl t) xs [u] := hu
        have h0 := hrep
        rw [Rep] at h0
        obtain ⟨A, c, hA, hle, _⟩ := h0
        simp only [List.cons.injEq, and_true] at hA
        subst hA
        obtain ⟨hlh, hhn, hrun⟩ := bounds_sound (P := P) hle hb h1 h2 true w
        refine ⟨_, rep_cut hrep hlh hhn rfl, ?_⟩
        simp only [Instr.sliceAt, Instr.slice, Sem.run_bind, hr, Result.andThen_ok, hrun, hz, Sem.run_pure]
      · cases h
  · cases h

/-! ### Fields, elements, loads -/
theorem fieldOf_sound (ok : TTok P tt) {T : TypeId} {f : Nat} {i : TI} {off : Nat} (h : fieldOf tt T f = some (i, off)) : ∃ (F : Array Field) (fd : Field), (∀ w', (underlying T).run P w' = .ok (.struct F) w') ∧ F[f]? = some fd ∧ fd.offset = off ∧ TIok P fd.type i := by
  unfold fieldOf at h
  split at h
  · rename_i fs _ _ _ _ hT
    obtain ⟨d, hd, hr⟩ := (ok.ok _ _ hT).run_und
    obtain ⟨F, rfl, hF⟩ := tdOf_struct hd
    split at h
    · rename_i T' o b hf
      split at h
      · rename_i j hj
        simp only [Option.some.injEq, Prod.mk.injEq] at h
        obtain ⟨rfl, rfl⟩ := h
        rw [hF, List.getElem?_map] at hf
        cases hx : F.toList[f]? with
        | none => rw [hx] at hf; cases hf
        | some fd =>
          rw [hx] at hf
          simp only [Option.map_some, Option.some.injEq, Prod.mk.injEq] at hf
          obtain ⟨rfl, rfl, _⟩ := hf
          exact ⟨F, fd, hr, by simpa using hx, rfl, ok.ok _ _ hj⟩
      · cases h
    · cases h
  · cases h

theorem fieldAddrA_sound (ok : TTok P tt) {T : TypeId} {x av : AV} {f : Nat} {u : Value} (h : fieldAddrA tt st T x f = some (true, av)) (hu : RAV G st w x u) :
    ∃ r, RAV G st w av r ∧ (Instr.fieldAt T u f).run P w = .ok r w := by
  unfold fieldAddrA at h
  split at h
  · rename_i i o hf
    obtain ⟨F, fd, hr, hfd, hoff, hi⟩ := fieldOf_sound ok hf
    cases hz : Nat.beq i.size 0 with
    | true => rw [hz] at h; cases h
    | false =>
      rw [hz] at h
      simp only [cond_false] at h
      have hz' : ¬ i.size = 0 := by
        intro e
        rw [e] at hz
        cases hz
      have run : ∀ ad : Addr, (Instr.fieldAt T (.pointer (some ad)) f).run P w = .ok (.pointer (some (ad.add o))) w := by
        intro ad
        simp only [Instr.fieldAt, Sem.run_bind, hr, Result.andThen_ok, hfd, Instr.sureAddr, Sem.run_pure, fieldPlace, hi.run_size, if_neg hz', hoff]
      split at h
      · rename_i b off
        simp only [Option.some.injEq, Prod.mk.injEq, true_and] at h
        subst h
        obtain ⟨hl, g, hg, rfl⟩ := hu
        refine ⟨_, ⟨hl, g, hg, rfl⟩, ?_⟩
        rw [run, add_plain]
      · rename_i b n j off
        cases hn : isNonNil st (.eptr b n j off) with
        | false => rw [hn] at h; cases h
        | true =>
        rw [hn] at h
        simp only [cond_true, Option.some.injEq, Prod.mk.injEq, true_and] at h
        subst h
        have hu0 : RCV G st w (.eptr b n j off) u := hu
        simp only [RCV] at hu0
        simp only [isNonNil] at hn
        split at hn
        · rename_i T' t xs hst
          rw [hst] at hu0
          obtain ⟨g, hg, rfl⟩ := hu0
          refine ⟨.pointer (some ⟨g, j * t.size + (off + o), none⟩), ?_, ?_⟩
          · show RCV G st w (.eptr b n j (off + o)) _
            simp only [RCV, hst]
            exact ⟨g, hg, rfl⟩
          · rw [run, add_plain, Nat.add_assoc]
        · rename_i ver e t xs hst
          rw [hst] at hu0
          obtain ⟨hle, hh⟩ := hu0
          obtain ⟨hd, g, hg, hrb, rfl⟩ := hh (Nat.eq_of_beq_eq_true hn).symm
          refine ⟨.pointer (some ⟨g, j * t.size + (off + o), none⟩), ?_, ?_⟩
          · show RCV G st w (.eptr b n j (off + o)) _
            simp only [RCV, hst]
            exact ⟨hle, fun _ => ⟨hd, g, hg, hrb, rfl⟩⟩
          · rw [run, add_plain, Nat.add_assoc]
        · cases hn
      · rename_i t v off
        simp only [Option.some.injEq, Prod.mk.injEq, true_and] at h
        subst h
        obtain ⟨ad, cs, rfl, hS, hrep, hc⟩ := hu
        exact ⟨_, ⟨ad, cs, rfl, hS, hrep, hc⟩, by rw [run, add_add]⟩
      · cases h
  · cases h

theorem field_sound (ok : TTok P tt) {T : TypeId} {f : Nat} {i : TI} {o : Nat} {cs : List CV} {av : AV} {u : Value} (hf : fieldOf tt T f = some (i, o)) (h : partA i cs o = some av) (hu : RAV G st w (.s (.agg cs)) u) :
    ∃ r, RAV G st w av r ∧ (Instr.field T u f).run P w = .ok r w := by
  obtain ⟨F, fd, hr, hfd, hoff, hi⟩ := fieldOf_sound ok hf
  obtain ⟨arr, rfl, hrc⟩ := hu
  obtain ⟨v, h1, h2⟩ := part_sound hi h hrc w
  refine ⟨v, h1, ?_⟩
  simp only [Instr.field, Sem.run_bind, hr, Result.andThen_ok, hfd, asAgg, Sem.run_pure, hoff, h2]

theorem idx_iff {i : Int} {n : Nat} : idx i n = true ↔ 0 ≤ i ∧ i < (n : Int) := by simp [idx]

/-- An element's address, told of a row or an array. -/
theorem eptr_move {b n j off k : Nat} {u : Value} (hn : isNonNil st (.eptr b n j off) = true) (hu : RCV G st w (.eptr b n j off) u) : ∃ ad, u = .pointer (some ad) ∧ RCV G st w (.eptr b n j (off + k)) (.pointer (some (ad.add k))) := by
  simp only [RCV] at hu ⊢
  simp only [isNonNil] at hn
  split at hn
  · rename_i T' t xs hst
    rw [hst] at hu ⊢
    obtain ⟨g, hg, rfl⟩ := hu
    exact ⟨_, rfl, g, hg, by rw [add_plain, Nat.add_assoc]⟩
  · rename_i ver e t xs hst
    rw [hst] at hu ⊢
    obtain ⟨hle, hh⟩ := hu
    obtain ⟨hd, g, hg, hrb, rfl⟩ := hh (Nat.eq_of_beq_eq_true hn).symm
    exact ⟨_, rfl, hle, fun _ => ⟨hd, g, hg, hrb, by rw [add_plain, Nat.add_assoc]⟩⟩
  · cases hn

theorem rep_elem {S : Nat → Prop} {w' : World} {t : Ty} {xs : List t.den} {A : Option Addr} {n c : Nat} (hr : Rep S w' (.sl t) xs [.slice A n c]) {i : Nat} (hi : i < xs.length) :
    n = xs.length ∧ ∃ ad cs, A = some ad ∧ S ad.block ∧ Rep S w' t (xs.getD i t.dflt) cs ∧ CellsAt w' (ad.add (i * t.size)) cs := by
  rw [Rep] at hr
  obtain ⟨A', c', e, hle, hx⟩ := hr
  simp only [List.cons.injEq, Value.slice.injEq, and_true] at e
  obtain ⟨rfl, rfl, rfl⟩ := e
  obtain ⟨ad, rfl, hS, hx⟩ := hx (show 0 < List.length (α := t.den) xs by omega)
  obtain ⟨rs, h1, h2⟩ := hx i xs[i] (List.getElem?_eq_getElem hi)
  refine ⟨rfl, ad, rs, rfl, hS, ?_, h2⟩
  rw [List.getD_eq_getElem?_getD, List.getElem?_eq_getElem hi]
  exact h1

theorem indexAddrA_sound (ok : TTok P tt) {T : TypeId} {x ix av : AV} {u v : Value} (hM : SimM tt B G st w) (h : indexAddrA tt st T x ix = some (true, av)) (hu : RAV G st w x u) (hv : RAV G st w ix v) :
    ∃ r, RAV G st w av r ∧ (Instr.indexAt T u v).run P w = .ok r w := by
  unfold indexAddrA at h
  split at h
  · rename_i k i
    rw [RAV_int] at hv
    subst hv
    change Int at i
    split at h
    · -- a slice that is read
      rename_i e _ _ _ _ t xs hT
      obtain ⟨d, hd, hr⟩ := (ok.ok _ _ hT).run_und
      have e1 := tdOf_slice hd
      subst e1
      split at h
      · rename_i j hj
        cases hz : Nat.beq j.size t.size with
        | false => rw [hz] at h; cases h
        | true =>
          rw [hz] at h
          simp only [cond_true, Option.some.injEq, Prod.mk.injEq] at h
          obtain ⟨hi, rfl⟩ := h
          obtain ⟨h0, h1⟩ := idx_iff.1 hi
          have hrep : Rep G.S w (.sl t) xs [u] := hu
          have h00 := hrep
          rw [Rep] at h00
          obtain ⟨A, c, hA, _⟩ := h00
          simp only [List.cons.injEq, and_true] at hA
          subst hA
          obtain ⟨_, ad, cs, rfl, hS, h3, h4⟩ := rep_elem hrep (i := i.toNat) (show i.toNat < List.length (α := t.den) xs by omega)
          refine ⟨.pointer (some (ad.add (i.toNat * t.size))), ⟨ad.add (i.toNat * t.size), cs, rfl, by rw [add_block]; exact hS, h3, h4⟩, ?_⟩
          have h5 : 0 ≤ i ∧ i < ((List.length (α := t.den) xs : Nat) : Int) := ⟨h0, h1⟩
          simp only [Instr.indexAt, Sem.run_bind, asIntOf, Sem.run_pure, Result.andThen_ok, hr, h5, and_self, if_true, (ok.ok _ _ hj).run_size, Nat.eq_of_beq_eq_true hz]
      · cases h
    · -- a row of one's own
      rename_i e _ _ _ _ b n hT
      obtain ⟨d, hd, hr⟩ := (ok.ok _ _ hT).run_und
      have e1 := tdOf_slice hd
      subst e1
      have hu0 : RCV G st w (.own b n) u := hu
      simp only [RCV] at hu0
      split at h
      · rename_i j ver e' t xs hj hst
        rw [hst] at hu0
        cases hz : (Nat.beq j.size t.size && Nat.beq ver n) with
        | false => rw [hz] at h; cases h
        | true =>
          rw [hz] at h
          simp only [cond_true, Option.some.injEq, Prod.mk.injEq] at h
          simp only [Bool.and_eq_true] at hz
          obtain ⟨hz1, hz2⟩ := hz
          obtain ⟨hi, rfl⟩ := h
          obtain ⟨h0, h1⟩ := idx_iff.1 hi
          have hver := Nat.eq_of_beq_eq_true hz2
          have hhdr := hu0.2 hver.symm
          obtain ⟨v', cells, h2, h3, h4, h5⟩ := hM.blks b _ hst
          rw [hhdr] at h2
          injection h2 with h2
          subst h2
          obtain ⟨hl, ⟨A, rfl, hn, hAv⟩ | ⟨g, cap, cur, rfl, hB, hh, hnl, hm, hs, htk⟩⟩ := h3
          · omega
          · refine ⟨.pointer (some ((⟨g, 0, none⟩ : Addr).add (i.toNat * t.size))), ?_, ?_⟩
            · show RCV G st w (.eptr b n i.toNat 0) _
              simp only [RCV, hst]
              exact ⟨hu0.1, fun _ => ⟨_, g, hhdr, rfl, by rw [add_plain]; simp⟩⟩
            · have h6 : 0 ≤ i ∧ i < ((xs.length : Nat) : Int) := ⟨h0, h1⟩
              simp only [Instr.indexAt, Sem.run_bind, asIntOf, Sem.run_pure, Result.andThen_ok, hr, h6, and_self, if_true, (ok.ok _ _ hj).run_size, Nat.eq_of_beq_eq_true hz1]
      · rename_i j ver t xs hj hst
        rw [hst] at hu0
        cases hz : (Nat.beq j.size t.size && Nat.beq ver n) with
        | false => rw [hz] at h; cases h
        | true =>
          rw [hz] at h
          simp only [cond_true, Option.some.injEq, Prod.mk.injEq] at h
          simp only [Bool.and_eq_true] at hz
          obtain ⟨hz1, hz2⟩ := hz
          obtain ⟨hi, rfl⟩ := h
          obtain ⟨h0, h1⟩ := idx_iff.1 hi
          have hrep := hu0.2 (Nat.eq_of_beq_eq_true hz2).symm
          have h00 := hrep
          rw [Rep] at h00
          obtain ⟨A, c, hA, _⟩ := h00
          simp only [List.cons.injEq, and_true] at hA
          subst hA
          obtain ⟨_, ad, cs, rfl, hS, h3, h4⟩ := rep_elem hrep (i := i.toNat) (show i.toNat < xs.length by omega)
          refine ⟨.pointer (some (ad.add (i.toNat * t.size))), ⟨ad.add (i.toNat * t.size), cs, rfl, by rw [add_block]; exact hS, h3, h4⟩, ?_⟩
          have h5 : 0 ≤ i ∧ i < ((xs.length : Nat) : Int) := ⟨h0, h1⟩
          simp only [Instr.indexAt, Sem.run_bind, asIntOf, Sem.run_pure, Result.andThen_ok, hr, h5, and_self, if_true, (ok.ok _ _ hj).run_size, Nat.eq_of_beq_eq_true hz1]
      · cases h
    · -- an array's variable
      rename_i n e _ _ _ _ b off hT
      obtain ⟨d, hd, hr⟩ := (ok.ok _ _ hT).run_und
      have e1 := tdOf_array hd
      subst e1
      obtain ⟨hl, g, hg, rfl⟩ := hu
      split at h
      · rename_i j T' t xs hj hst
        cases hz : (Nat.beq j.size t.size && Nat.beq off 0 && Nat.ble 2 n) with
        | false => rw [hz] at h; cases h
        | true =>
          rw [hz] at h
          simp only [cond_true, Option.some.injEq, Prod.mk.injEq] at h
          simp only [Bool.and_eq_true] at hz
          obtain ⟨⟨hz1, hz2⟩, _⟩ := hz
          obtain ⟨hi, rfl⟩ := h
          obtain ⟨h0, h1⟩ := idx_iff.1 hi
          have ho := Nat.eq_of_beq_eq_true hz2
          subst ho
          refine ⟨.pointer (some ((⟨g, 0, none⟩ : Addr).add (i.toNat * t.size))), ?_, ?_⟩
          · show RCV G st w (.eptr b 0 i.toNat 0) _
            simp only [RCV, hst]
            exact ⟨g, hg, by rw [add_plain]; simp⟩
          · simp only [Instr.indexAt, Sem.run_bind, asIntOf, Sem.run_pure, Result.andThen_ok, hr, Instr.sureAddr, h0, h1, and_self, if_true, (ok.ok _ _ hj).run_size, Nat.eq_of_beq_eq_true hz1]
      · rename_i j T' cs hj hst
        cases hz : Nat.ble 2 n with
        | false => rw [hz] at h; cases h
        | true =>
          rw [hz] at h
          simp only [cond_true, Option.some.injEq, Prod.mk.injEq] at h
          obtain ⟨hi, rfl⟩ := h
          obtain ⟨h0, h1⟩ := idx_iff.1 hi
          refine ⟨.pointer (some ((⟨g, off, none⟩ : Addr).add (i.toNat * j.size))), ⟨hl, g, hg, by rw [add_plain]⟩, ?_⟩
          simp only [Instr.indexAt, Sem.run_bind, asIntOf, Sem.run_pure, Result.andThen_ok, hr, Instr.sureAddr, h0, h1, and_self, if_true, (ok.ok _ _ hj).run_size]
      · cases h
    · -- an array in an element
      rename_i n e _ _ _ _ b ver k off hT
      obtain ⟨d, hd, hr⟩ := (ok.ok _ _ hT).run_und
      have e1 := tdOf_array hd
      subst e1
      split at h
      · rename_i j hj
        cases hz : (Nat.ble 2 n && isNonNil st (.eptr b ver k off)) with
        | false => rw [hz] at h; cases h
        | true =>
          rw [hz] at h
          simp only [cond_true, Option.some.injEq, Prod.mk.injEq] at h
          simp only [Bool.and_eq_true] at hz
          obtain ⟨hi, rfl⟩ := h
          obtain ⟨h0, h1⟩ := idx_iff.1 hi
          obtain ⟨ad, rfl, h2⟩ := eptr_move (w := w) (k := i.toNat * j.size) hz.2 (show RCV G st w (.eptr b ver k off) u from hu)
          refine ⟨_, h2, ?_⟩
          simp only [Instr.indexAt, Sem.run_bind, asIntOf, Sem.run_pure, Result.andThen_ok, hr, Instr.sureAddr, h0, h1, and_self, if_true, (ok.ok _ _ hj).run_size]
      · cases h
    · rename_i n e _ _ _ _ t v off hT
      obtain ⟨d, hd, hr⟩ := (ok.ok _ _ hT).run_und
      have e1 := tdOf_array hd
      subst e1
      split at h
      · rename_i j hj
        cases hz : Nat.ble 2 n with
        | false => rw [hz] at h; cases h
        | true =>
          rw [hz] at h
          simp only [cond_true, Option.some.injEq, Prod.mk.injEq] at h
          obtain ⟨hi, rfl⟩ := h
          obtain ⟨h0, h1⟩ := idx_iff.1 hi
          obtain ⟨ad, cs, rfl, hS, h3, h4⟩ := hu
          refine ⟨_, ⟨ad, cs, rfl, hS, h3, h4⟩, ?_⟩
          simp only [Instr.indexAt, Sem.run_bind, asIntOf, Sem.run_pure, Result.andThen_ok, hr, Instr.sureAddr, h0, h1, and_self, if_true, (ok.ok _ _ hj).run_size, add_add]
      · cases h
    · -- a row of rows
      rename_i e _ _ _ _ b n hT
      obtain ⟨d, hd, hr⟩ := (ok.ok _ _ hT).run_und
      have e1 := tdOf_slice hd
      subst e1
      obtain ⟨hl, g, hg, rfl⟩ := hu
      split at h
      · rename_i j hj
        simp only [Option.some.injEq, Prod.mk.injEq] at h
        obtain ⟨hi, rfl⟩ := h
        obtain ⟨h0, h1⟩ := idx_iff.1 hi
        have h5 : 0 ≤ i ∧ i < ((n : Nat) : Int) := ⟨h0, h1⟩
        refine ⟨.pointer (some ((⟨g, 0, none⟩ : Addr).add (i.toNat * j.size))), ⟨hl, g, hg, by rw [add_plain, Nat.zero_add]⟩, ?_⟩
        simp only [Instr.indexAt, Sem.run_bind, asIntOf, Sem.run_pure, Result.andThen_ok, hr, h5, and_self, if_true, (ok.ok _ _ hj).run_size]
      · cases h
    · cases h
  · cases h

theorem one_nil {t : Ty} {c : CV} {x : t.den} (h : one [] t c = some x) : (∀ b n, c ≠ .own b n) ∧ one st t c = some x := by
  cases c with
  | own b n => simp [one] at h
  | _ => exact ⟨fun b n e => (by cases e), h⟩

theorem implode_nil : ∀ {t : Ty} {cs r : List CV} {x : t.den}, implode [] t cs = some (x, r) → ∃ l, cs = l ++ r ∧ (∀ b n, CV.own b n ∉ l) ∧ implode st t cs = some (x, r) := by
  intro t
  have single : ∀ {t : Ty} {c : CV} {cs : List CV} {x : t.den}, one [] t c = some x → ∃ l, c :: cs = l ++ cs ∧ (∀ b n, CV.own b n ∉ l) ∧ one st t c = some x := by
    intro t c cs x h
    obtain ⟨h1, h2⟩ := one_nil (st := st) h
    exact ⟨[c], rfl, fun b n hm => h1 b n (by simpa using hm : CV.own b n = c).symm, h2⟩
  induction t with
  | pair a b iha ihb =>
    intro cs r x h
    simp only [implode] at h ⊢
    split at h
    · rename_i y r1 hy
      split at h
      · rename_i z r2 hz
        simp only [Option.some.injEq, Prod.mk.injEq] at h
        obtain ⟨rfl, rfl⟩ := h
        obtain ⟨l1, rfl, h1, e1⟩ := iha hy
        obtain ⟨l2, rfl, h2, e2⟩ := ihb hz
        refine ⟨l1 ++ l2, by simp, fun b n hm => ?_, by rw [e1]; simp only; rw [e2]⟩
        rcases List.mem_append.1 hm with hm | hm
        · exact h1 b n hm
        · exact h2 b n hm
      · cases h
    · cases h
  | _ =>
    intro cs r x h
    cases cs with
    | nil => simp [implode] at h
    | cons c cs =>
      simp only [implode] at h ⊢
      split at h
      · rename_i y hy
        simp only [Option.some.injEq, Prod.mk.injEq] at h
        obtain ⟨rfl, rfl⟩ := h
        obtain ⟨l, h1, h2, h3⟩ := single (cs := cs) hy
        exact ⟨l, h1, h2, by rw [h3]⟩
      · cases h

theorem implodeRows_nil {t : Ty} : ∀ {n : Nat} {cs : List CV} {xs : List t.den}, implodeRows [] t n cs = some xs → (∀ b n, CV.own b n ∉ cs) ∧ implodeRows st t n cs = some xs
  | 0, [], _, h => ⟨by simp, h⟩
  | 0, _ :: _, _, h => by simp [implodeRows] at h
  | n + 1, cs, xs, h => by
    simp only [implodeRows] at h ⊢
    split at h
    · rename_i y r hy
      split at h
      · rename_i ys hys
        simp only [Option.some.injEq] at h
        subst h
        obtain ⟨l, rfl, h1, e1⟩ := implode_nil (st := st) hy
        obtain ⟨h2, e2⟩ := implodeRows_nil hys
        refine ⟨fun b n hm => ?_, by rw [e1]; simp only; rw [e2]⟩
        rcases List.mem_append.1 hm with hm | hm
        · exact h1 b n hm
        · exact h2 b n hm
      · cases h
    · cases h

def lone (cs : List CV) : AV := match cs with
  | [c] => .cv c
  | _ => .cv .any

/-- A value whose cells are told. -/
theorem valOf_sound {T : TypeId} {j : TI} (hT : TIok P T j) {cs : List CV} {arr : List Value} (hr : RCs G st w cs arr) (hl : cs.length = j.size) :
    RAV G st w (bif j.agg then .s (.agg cs) else lone cs) (valOf j arr) := by
  unfold valOf
  cases ha : j.agg with
  | true => exact ⟨_, rfl, hr⟩
  | false =>
    have h1 := hT.one ha
    rw [h1] at hl
    obtain ⟨c, rfl⟩ := List.length_eq_one_iff.1 hl
    obtain ⟨v, rfl⟩ := List.length_eq_one_iff.1 (hr.len.symm.trans hl)
    exact hr.1

theorem indexA_sound (ok : TTok P tt) {T : TypeId} {x ix av : AV} {u v : Value} (hM : SimM tt B G st w) (h : indexA tt T x ix = some (true, av)) (hu : RAV G st w x u) (hv : RAV G st w ix v) :
    ∃ r, RAV G st w av r ∧ (Instr.index T u v).run P w = .ok r w := by
  unfold indexA at h
  split at h
  · rename_i k i
    rw [RAV_int] at hv
    subst hv
    change Int at i
    split at h
    · rename_i s hT
      obtain ⟨d, hd, hr⟩ := (ok.ok _ _ hT).run_und
      have e1 := tdOf_str hd
      subst e1
      rw [RAV_str] at hu
      subst hu
      simp only [Option.some.injEq, Prod.mk.injEq] at h
      obtain ⟨hi, rfl⟩ := h
      obtain ⟨h0, h1⟩ := idx_iff.1 hi
      refine ⟨_, RAV_int.2 rfl, ?_⟩
      have hlt : i.toNat < List.length (α := UInt8) s := by omega
      have hsz : (⟨List.toArray s⟩ : ByteArray)[i.toNat]? = some (List.get (α := UInt8) s ⟨i.toNat, hlt⟩) := by
        have : i.toNat < (⟨List.toArray s⟩ : ByteArray).size := by simpa [ByteArray.size] using hlt
        rw [getElem?_pos (⟨List.toArray s⟩ : ByteArray) i.toNat this]
        rfl
      simp only [Instr.index, Sem.run_bind, asIntOf, Sem.run_pure, Result.andThen_ok, hr, h0, if_true, hsz]
      rw [List.getD_eq_getElem?_getD, List.getElem?_eq_getElem hlt]
      rfl
    · rename_i n e _ _ _ _ cs hT
      obtain ⟨d, hd, hr⟩ := (ok.ok _ _ hT).run_und
      have e1 := tdOf_array hd
      subst e1
      obtain ⟨arr, rfl, hrc⟩ := hu
      split at h
      · rename_i j hj
        split at h
        · rename_i t hty
          cases hz : Nat.beq j.size t.size with
          | false => rw [hz] at h; cases h
          | true =>
            rw [hz] at h
            simp only [cond_true] at h
            split at h
            · rename_i xs hxs
              simp only [Option.some.injEq, Prod.mk.injEq] at h
              obtain ⟨hi, rfl⟩ := h
              obtain ⟨h0, h1⟩ := idx_iff.1 hi
              have hsz := Nat.eq_of_beq_eq_true hz
              obtain ⟨hno, hxs'⟩ := implodeRows_nil (st := st) hxs
              obtain ⟨hlen, hrows⟩ := implodeRows_sound (S' := G.S) hM (fun _ h => h) (fun b n _ _ hm => absurd hm (hno b n)) hxs' hrc
              have hlt : i.toNat < xs.length := by omega
              have hrep := hrows.2 i.toNat _ (List.getElem?_eq_getElem hlt)
              have hgd : xs.getD i.toNat t.dflt = xs[i.toNat] := by rw [List.getD_eq_getElem?_getD, List.getElem?_eq_getElem hlt]; rfl
              have hle : i.toNat * j.size + j.size ≤ arr.length := by
                rw [hrows.1, hsz]
                have := Nat.mul_le_mul_right t.size (show i.toNat + 1 ≤ xs.length from hlt)
                rw [Nat.add_mul] at this
                omega
              have hpv := part_val (ok.ok _ _ hj) arr (i.toNat * j.size) hle w
              refine ⟨valOf j ((arr.drop (i.toNat * j.size)).take j.size), ?_, ?_⟩
              · rw [hgd]
                rw [hsz]
                exact valOf_sound (ok.ok _ _ hj) (explode_sound hrep) (by rw [explode_len, hsz])
              · simp only [Instr.index, Sem.run_bind, asIntOf, Sem.run_pure, Result.andThen_ok, hr, h0, h1, and_self, if_true, (ok.ok _ _ hj).run_size, hpv]
            · cases h
        · cases h
      · cases h
    · cases h
  · cases h

end
end Go.Rf

/- Operations that only compute, held against the machine's, part 5. -/
namespace Go.Rf
open Go.RowKit
set_option linter.unusedSectionVars false
variable [LowTab]

section
variable {P : Program} {tt : TT} {G : Gh} {st : List Blk} {w : World} {B : Nat}

theorem rows_getD {S : Nat → Prop} {t : Ty} {xs : List t.den} {cs : List Value} (h : Rows S w t xs cs) {k : Nat} (hk : k < xs.length) : Rep S w t (xs.getD k t.dflt) ((cs.drop (k * t.size)).take t.size) := by
  rw [List.getD_eq_getElem?_getD, List.getElem?_eq_getElem hk]
  exact h.2 k _ (List.getElem?_eq_getElem hk)

theorem arrCells_len (t : Ty) (xs : List t.den) : ∀ (n i : Nat), (arrCells t xs i n).length = n * t.size
  | 0, _ => by simp [arrCells]
  | n + 1, i => by rw [arrCells, List.length_append, explode_len, arrCells_len t xs n (i + 1), Nat.add_mul]; omega

theorem arrCells_sound {t : Ty} {xs : List t.den} {cs : List Value} (h : Rows G.S w t xs cs) : ∀ (n i : Nat), i + n ≤ xs.length → RCs G st w (arrCells t xs i n) ((cs.drop (i * t.size)).take (n * t.size))
  | 0, _, _ => by simp [arrCells, RCs]
  | n + 1, i, hi => by
    have h1 := explode_sound (st := st) (rows_getD h (show i < xs.length by omega))
    have h2 := arrCells_sound h n (i + 1) (by omega)
    have e : (cs.drop (i * t.size)).take ((n + 1) * t.size) = (cs.drop (i * t.size)).take t.size ++ (cs.drop ((i + 1) * t.size)).take (n * t.size) := by
      rw [Nat.add_mul n 1, Nat.add_comm (n * t.size), Nat.one_mul, List.take_add, List.drop_drop, Nat.add_mul i 1, Nat.one_mul]
    rw [e, arrCells]
    exact h1.append h2

theorem loadA_sound (ok : TTok P tt) {T : TypeId} {x av : AV} {u : Value} (hM : SimM tt B G st w) (h : loadA tt st T x = some (true, av)) (hu : RAV G st w x u) :
    ∃ r, RAV G st w av r ∧ (Instr.loadAt T u).run P w = .ok r w := by
  unfold loadA at h
  split at h
  · rename_i i hT
    have hi := ok.ok _ _ hT
    have run : ∀ (ad : Addr) {r : Value}, (loadVar T ad).run P w = .ok r w → (Instr.loadAt T (.pointer (some ad))).run P w = .ok r w := by
      intro ad r hr
      simp only [Instr.loadAt, Instr.sureAddr, Sem.run_bind, Sem.run_pure, Result.andThen_ok, hr]
    split at h
    · rename_i b off
      obtain ⟨hl, g, hg, rfl⟩ := hu
      split at h
      · rename_i T' cs hst
        split at h
        · rename_i av' hp
          simp only [Option.some.injEq, Prod.mk.injEq, true_and] at h
          subst h
          obtain ⟨g', arr, hg', hh, hr⟩ := hM.blks b _ hst
          rw [hg] at hg'
          injection hg' with hg'
          subst hg'
          obtain ⟨r, h1, h2⟩ := load_sound (P := P) hi hp hr (cells_at hh)
          rw [add_plain, Nat.zero_add] at h2
          exact ⟨r, h1, run _ h2⟩
        · cases h
      · rename_i T' t xs hst
        split at h
        · rename_i n e htd
          cases hz : (Nat.beq off 0 && Nat.beq i.size (n * t.size) && Nat.beq T T') with
          | false => rw [hz] at h; cases h
          | true =>
            rw [hz] at h
            simp only [cond_true, Option.some.injEq, Prod.mk.injEq, true_and] at h
            subst h
            simp only [Bool.and_eq_true] at hz
            have ho := Nat.eq_of_beq_eq_true hz.1.1
            have hs := Nat.eq_of_beq_eq_true hz.1.2
            have hTT := Nat.eq_of_beq_eq_true hz.2
            subst ho
            subst hTT
            obtain ⟨g', arr, hg', hh, hr, i', n', e', hi', htd', hn'⟩ := hM.blks b _ hst
            rw [hg] at hg'
            injection hg' with hg'
            subst hg'
            rw [hT] at hi'
            injection hi' with hi'
            subst hi'
            rw [htd] at htd'
            injection htd' with hn1 _
            subst hn1
            have h6 := arrCells_sound (st := st) hr n 0 (by omega)
            have hal : arr.length = n * t.size := by rw [hr.1, hn']
            rw [Nat.zero_mul, List.drop_zero, List.take_of_length_le (by omega)] at h6
            refine ⟨.agg arr.toArray, ⟨_, rfl, h6⟩, run _ ?_⟩
            have hl2 := run_loadCells_list (P := P) w ⟨g, 0, none⟩ arr (cells_at hh)
            have ha : i.agg = true := by simp [TI.agg, htd]
            rw [hal, ← hs] at hl2
            simp only [loadVar, Sem.run_bind, hi.run_agg, ha, Result.andThen_ok, if_true, hi.run_size, hl2, Sem.run_pure]
        · cases h
      · cases h
    · rename_i b n k off
      have hu0 : RCV G st w (.eptr b n k off) u := hu
      simp only [RCV] at hu0
      split at h
      · rename_i ver e t xs hst
        rw [hst] at hu0
        split at h
        · rename_i av' hp
          cases hz : Nat.beq ver n with
          | false => rw [hz] at h; cases h
          | true =>
            rw [hz] at h
            simp only [cond_true, Option.some.injEq, Prod.mk.injEq, decide_eq_true_eq] at h
            obtain ⟨hk, rfl⟩ := h
            obtain ⟨hd, g, hg, hrb, rfl⟩ := hu0.2 (Nat.eq_of_beq_eq_true hz).symm
            obtain ⟨v', cells, h2, h3, h4, h5⟩ := hM.blks b _ hst
            rw [hg] at h2
            injection h2 with h2
            subst h2
            obtain ⟨hl, ⟨A, rfl, hn, hAv⟩ | ⟨g', cap, cur, rfl, hB, hh, hnl, hm, hs, htk⟩⟩ := h3
            · omega
            · simp only [rowBlk, Option.some.injEq] at hrb
              subst hrb
              have hrep := rows_getD h4 hk
              have hc : CellsAt w ⟨g', k * t.size, none⟩ ((cells.drop (k * t.size)).take t.size) := by
                intro j u hj
                rw [add_plain]
                rw [List.getElem?_take] at hj
                split at hj
                · rename_i hjt
                  rw [List.getElem?_drop, ← htk, List.getElem?_take] at hj
                  split at hj
                  · simp only [World.cell?, hh, Option.isSome_none]
                    simpa using hj
                  · cases hj
                · cases hj
              obtain ⟨r, h6, h7⟩ := load_sound (P := P) hi hp (explode_sound hrep) hc
              rw [add_plain] at h7
              exact ⟨r, h6, run _ h7⟩
        · cases h
      · rename_i T' t xs hst
        rw [hst] at hu0
        split at h
        · rename_i av' hp
          simp only [Option.some.injEq, Prod.mk.injEq, decide_eq_true_eq] at h
          obtain ⟨hk, rfl⟩ := h
          obtain ⟨g, hg, rfl⟩ := hu0
          obtain ⟨g', arr, hg', hh, hr, _⟩ := hM.blks b _ hst
          rw [hg] at hg'
          injection hg' with hg'
          subst hg'
          have hrep := rows_getD hr hk
          obtain ⟨r, h6, h7⟩ := load_sound (P := P) hi hp (explode_sound hrep) (elem_at hh (k * t.size) t.size)
          rw [add_plain] at h7
          exact ⟨r, h6, run _ h7⟩
        · cases h
      · cases h
    · rename_i t v off
      split at h
      · rename_i av' hp
        simp only [Option.some.injEq, Prod.mk.injEq, true_and] at h
        subst h
        obtain ⟨ad, cs, rfl, hS, hrep, hc⟩ := hu
        obtain ⟨r, h6, h7⟩ := load_sound (P := P) hi hp (explode_sound hrep) hc
        exact ⟨r, h6, run _ h7⟩
      · cases h
    · cases h
  · cases h

/-! ### Values put together -/
theorem live_one (hM : SimM tt B G st w) {c : CV} {v : Value} (h : liveC st c = true) (hv : RCV G st w c v) : v.oneCell' = true := by
  cases c with
  | any => cases h
  | undef => cases h
  | v t x => exact Rep.oneCell hv v (List.mem_singleton_self v)
  | ptr b off => obtain ⟨_, g, _, rfl⟩ := hv; rfl
  | slc b n => obtain ⟨_, g, _, rfl⟩ := hv; rfl
  | selfp b n => obtain ⟨_, g, _, rfl | rfl⟩ := hv <;> rfl
  | eptr b n i off =>
    obtain ⟨ad, rfl, _⟩ := eptr_move (k := 0) h hv
    rfl
  | rptr t x off => obtain ⟨ad, cs, rfl, _⟩ := hv; rfl
  | own b n =>
    simp only [liveC] at h
    simp only [RCV] at hv
    cases hst : st[b]? with
    | none => rw [hst] at h; cases h
    | some blk =>
      rw [hst] at h hv
      cases blk <;> simp only at h hv <;> first | cases h; done | skip
      · obtain ⟨v', cells, h1, h2, _⟩ := hM.blks b _ hst
        rw [hv.2 (Nat.eq_of_beq_eq_true h).symm] at h1
        injection h1 with h1
        subst h1
        obtain ⟨_, ⟨A, rfl, _⟩ | ⟨g, cap, cur, rfl, _⟩⟩ := h2 <;> rfl
      · exact Rep.oneCell (hv.2 (Nat.eq_of_beq_eq_true h).symm) v (List.mem_singleton_self v)
  | nilsl => cases hv; rfl
  | nilptr => cases hv; rfl
  | nilfn => cases hv; rfl
  | fn f cap => obtain ⟨vs, rfl, _⟩ := hv; rfl

theorem cells_one {v : Value} (h : v.oneCell' = true) : v.cells = #[v] := by cases v <;> first | rfl | cases h

theorem cells_sound (hM : SimM tt B G st w) {s : SV} {v : Value} (h : s.cells.all (liveC st) = true) (hv : RSV G st w s v) : RCs G st w s.cells v.cells.toList := by
  cases s with
  | c c =>
    simp only [SV.cells, List.all_cons, List.all_nil, Bool.and_true] at h
    rw [cells_one (live_one hM h hv)]
    exact ⟨hv, trivial⟩
  | agg cs =>
    obtain ⟨arr, rfl, hr⟩ := hv
    exact hr

theorem fill_list (off : Nat) : ∀ (vs : List Value) (k : Nat) (cs : Array Value), off + k + vs.length ≤ cs.size → ((vs.zipIdx k).foldl (fun cs (p : Value × Nat) => cs.setIfInBounds (off + p.2) p.1) cs).toList = cs.toList.take (off + k) ++ vs ++ cs.toList.drop (off + k + vs.length)
  | [], k, cs, _ => by simp
  | v :: vs, k, cs, h => by
    simp only [List.length_cons] at h
    rw [List.zipIdx_cons, List.foldl_cons, fill_list off vs (k + 1) _ (by simp only [Array.size_setIfInBounds]; omega)]
    have h1 : off + k < cs.toList.length := by simp only [Array.length_toList]; omega
    have h2 : (cs.setIfInBounds (off + k) v).toList = cs.toList.take (off + k) ++ v :: cs.toList.drop (off + k + 1) := by
      rw [Array.toList_setIfInBounds, List.set_eq_take_append_cons_drop, if_pos h1]
    have hl : (cs.toList.take (off + k)).length = off + k := by rw [List.length_take]; omega
    rw [h2]
    have e1 : off + (k + 1) = (cs.toList.take (off + k)).length + 1 := by omega
    rw [e1, List.take_length_add_append, List.length_cons]
    have e2 : (cs.toList.take (off + k)).length + 1 + vs.length = (cs.toList.take (off + k)).length + (vs.length + 1) := by omega
    rw [e2, List.drop_length_add_append]
    have e3 : off + k + (vs.length + 1) = off + k + 1 + vs.length := by omega
    rw [e3]
    simp

theorem splice_sound {cs vs : List CV} {as bs : List Value} (h : RCs G st w cs as) (k : RCs G st w vs bs) (off : Nat) : RCs G st w (splice cs off vs) (as.take off ++ bs ++ as.drop (off + bs.length)) := by
  unfold splice
  rw [k.len]
  exact ((h.take off).append k).append (h.drop _)

theorem fillA_sound (hM : SimM tt B G st w) {place : Nat → Option (Nat × Nat)} : ∀ {parts : List (Nat × AV)} {parts' : List (Nat × Value)} {cells cs : List CV} {arr : List Value}, fillA st place cells parts = some cs → RCs G st w cells arr →
    parts.length = parts'.length → (∀ (i : Nat) p p', parts[i]? = some p → parts'[i]? = some p' → p.1 = p'.1 ∧ RAV G st w p.2 p'.2) → ∃ arr', Instr.fill place arr.toArray parts' = some (List.toArray arr') ∧ RCs G st w cs arr'
  | [], [], cells, cs, arr, h, hr, _, _ => by
    simp only [fillA, Option.some.injEq] at h
    subst h
    exact ⟨arr, rfl, hr⟩
  | [], _ :: _, _, _, _, _, _, hl, _ => by simp at hl
  | _ :: _, [], _, _, _, _, _, hl, _ => by simp at hl
  | (i, .tup _) :: r, _ :: _, _, _, _, h, _, _, _ => by simp [fillA] at h
  | (i, .s v) :: r, (i', u) :: r', cells, cs, arr, h, hr, hl, hp => by
    simp only [fillA] at h
    obtain ⟨e1, hv⟩ := hp 0 _ _ rfl rfl
    simp only at e1
    subst e1
    split at h
    · rename_i off size hpl
      cases hz : (Nat.beq v.cells.length size && Nat.ble (off + size) cells.length && v.cells.all (liveC st)) with
      | false => rw [hz] at h; cases h
      | true =>
        rw [hz] at h
        simp only [cond_true] at h
        simp only [Bool.and_eq_true] at hz
        obtain ⟨⟨hz1, hz2⟩, hz3⟩ := hz
        have hc := cells_sound hM hz3 (show RSV G st w v u from hv)
        have hlen : u.cells.size = size := by rw [← Array.length_toList, ← hc.len]; exact Nat.eq_of_beq_eq_true hz1
        have hle : off + u.cells.size ≤ arr.length := by rw [hlen, ← hr.len]; exact Nat.le_of_ble_eq_true hz2
        obtain ⟨arr', h1, h2⟩ := fillA_sound hM h (splice_sound hr hc off) (by simpa using hl) (fun j p p' hj hj' => hp (j + 1) p p' (by simpa using hj) (by simpa using hj'))
        refine ⟨arr', ?_, h2⟩
        simp only [Instr.fill, hpl]
        have hcond : ¬ ((decide (u.cells.size ≠ size) || decide (off + u.cells.size > arr.toArray.size)) = true) := by
          simp only [List.size_toArray, hlen, Bool.or_eq_true, decide_eq_true_eq]
          omega
        rw [if_neg hcond]
        rw [← h1]
        congr 1
        apply Array.ext'
        have := fill_list off u.cells.toList 0 arr.toArray (by simp only [Array.length_toList, List.size_toArray]; omega)
        simp only [Nat.add_zero] at this
        rw [← Array.foldl_toList, Array.toList_zipIdx]
        exact this
    · cases h

theorem zero_sound {i : TI} {T : TypeId} (hT : TIok P T i) : RCs G st w i.zero (i.zero.map zval) := by
  have := hT.zoks
  generalize i.zero = z at this ⊢
  induction z with
  | nil => trivial
  | cons c z ih =>
    simp only [List.all_cons, Bool.and_eq_true] at this
    refine ⟨?_, ih this.2⟩
    have h1 := this.1
    cases c with
    | v t x => cases t <;> first | (exact RCV_int.2 rfl) | (exact RCV_bool.2 rfl) | (exact RCV_str.2 rfl) | cases h1
    | nilsl => exact rfl
    | nilptr => rfl
    | nilfn => rfl
    | _ => cases h1

theorem zeroV_cells {i : TI} {T : TypeId} (hT : TIok P T i) : (zeroV i).cells = (i.zero.map zval).toArray := by
  unfold zeroV
  cases ha : i.agg with
  | true => rfl
  | false =>
    have h1 := hT.one ha
    rw [← hT.zlen] at h1
    obtain ⟨c, hc⟩ := List.length_eq_one_iff.1 h1
    have h2 := hT.zoks
    rw [hc] at h2 ⊢
    simp only [List.all_cons, List.all_nil, Bool.and_true] at h2
    simp only [Bool.false_eq_true, if_false, List.map_cons, List.map_nil, List.headD_cons]
    cases c with
    | v t x => cases t <;> first | rfl | cases h2
    | nilsl => rfl
    | nilptr => rfl
    | nilfn => rfl
    | _ => cases h2

theorem places_sound (ok : TTok P tt) : ∀ {fs : List Field} {ps : List (Nat × Nat)}, placesOf tt (fs.map fun f => (f.type, f.offset, f.name == "_")) = some ps → fs.mapM (fun f => (P.info? f.type).map fun i => (f.offset, i.size)) = some ps
  | [], ps, h => by simpa [placesOf] using h
  | f :: fs, ps, h => by
    simp only [List.map_cons, placesOf] at h
    split at h
    · rename_i i ps' hi hps
      simp only [Option.some.injEq] at h
      subst h
      obtain ⟨g, h1, h2, h3, h4⟩ := (ok.ok _ _ hi).info
      have := places_sound ok hps
      simp [List.mapM_cons, h1, this, h2]
    · cases h

theorem buildA_sound (ok : TTok P tt) (hM : SimM tt B G st w) {T : TypeId} {parts : List (Nat × AV)} {parts' : Array (Nat × Value)} {av : AV} (h : buildA tt st T parts = some (true, av)) (hl : parts.length = parts'.toList.length)
    (hp : ∀ (i : Nat) p p', parts[i]? = some p → parts'.toList[i]? = some p' → p.1 = p'.1 ∧ RAV G st w p.2 p'.2) : ∃ r, RAV G st w av r ∧ (Instr.build T parts').run P w = .ok r w := by
  unfold buildA at h
  split at h
  · rename_i i hT
    have hi := ok.ok _ _ hT
    obtain ⟨u, hu, htd⟩ := hi.und
    obtain ⟨f, hf1, hf2, hf3, hf4⟩ := hi.info
    split at h
    · rename_i fs htd'
      rw [htd'] at htd
      obtain ⟨F, rfl, hF⟩ := tdOf_struct htd
      split at h
      · rename_i ps hps
        split at h
        · rename_i cs hcs
          simp only [Option.some.injEq, Prod.mk.injEq, true_and] at h
          subst h
          obtain ⟨arr', h1, h2⟩ := fillA_sound hM hcs (zero_sound hi) hl hp
          refine ⟨.agg arr'.toArray, ⟨_, rfl, h2⟩, run_build w T parts' _ ?_⟩
          rw [hF] at hps
          have := places_sound ok hps
          simp only [Program.built, hf1, hu, hf4, this, zeroV_cells hi]
          simpa using h1
        · cases h
      · cases h
    · rename_i n e htd'
      rw [htd'] at htd
      obtain rfl := tdOf_array htd
      split at h
      · rename_i j hj
        split at h
        · rename_i cs hcs
          simp only [Option.some.injEq, Prod.mk.injEq, true_and] at h
          subst h
          obtain ⟨arr', h1, h2⟩ := fillA_sound hM hcs (zero_sound hi) hl hp
          refine ⟨.agg arr'.toArray, ⟨_, rfl, h2⟩, run_build w T parts' _ ?_⟩
          obtain ⟨g, hg1, hg2, _⟩ := (ok.ok _ _ hj).info
          simp only [Program.built, hf1, hu, hf4, hg1, hg2, zeroV_cells hi]
          exact h1
        · cases h
      · cases h
    · cases h
  · cases h

end
end Go.Rf

/- Operations that only compute, held against the machine's, part 6: all of them. -/
namespace Go.Rf
open Go.RowKit
set_option linter.unusedSectionVars false
variable [LowTab]

section
variable {P : Program} {tt : TT} {G : Gh} {st : List Blk} {w : World} {B : Nat}

theorem lenA_sound (ok : TTok P tt) {T ty : TypeId} {x av : AV} {u : Value} (hM : SimM tt B G st w) (h : lenA tt st T x = some (true, av)) (hu : RAV G st w x u) :
    ∃ r, RAV G st w av r ∧ (Builtin.len_ #[T] ty #[u]).run P w = .ok r w := by
  unfold lenA at h
  split at h
  · rename_i i hT
    obtain ⟨d, hd, hr⟩ := (ok.ok _ _ hT).run_und
    split at h
    · rename_i s htd
      rw [htd] at hd
      obtain rfl := tdOf_str hd
      rw [RAV_str] at hu
      subst hu
      simp only [Option.some.injEq, Prod.mk.injEq, true_and] at h
      subst h
      refine ⟨_, RAV_int.2 rfl, ?_⟩
      simp only [Builtin.len_, List.getElem?_toArray, List.getElem?_cons_zero, Sem.run_bind, hr, Result.andThen_ok, Sem.run_pure]
      simp [ByteArray.size, goInt]
    · rename_i n e htd
      rw [htd] at hd
      obtain rfl := tdOf_array hd
      simp only [Option.some.injEq, Prod.mk.injEq, true_and] at h
      subst h
      refine ⟨_, RAV_int.2 rfl, ?_⟩
      simp only [Builtin.len_, List.getElem?_toArray, List.getElem?_cons_zero, Sem.run_bind, hr, Result.andThen_ok, Sem.run_pure, goInt]
    · rename_i e t xs htd
      rw [htd] at hd
      obtain rfl := tdOf_slice hd
      simp only [Option.some.injEq, Prod.mk.injEq, true_and] at h
      subst h
      have hrep : Rep G.S w (.sl t) xs [u] := hu
      rw [Rep] at hrep
      obtain ⟨A, c, hA, _⟩ := hrep
      simp only [List.cons.injEq, and_true] at hA
      subst hA
      refine ⟨_, RAV_int.2 rfl, ?_⟩
      simp only [Builtin.len_, List.getElem?_toArray, List.getElem?_cons_zero, Sem.run_bind, hr, Result.andThen_ok, Sem.run_pure, goInt]
    · rename_i e b n htd
      rw [htd] at hd
      obtain rfl := tdOf_slice hd
      have hu0 : RCV G st w (.own b n) u := hu
      simp only [RCV] at hu0
      split at h
      · rename_i ver e' t xs hst
        rw [hst] at hu0
        cases hz : Nat.beq ver n with
        | false => rw [hz] at h; cases h
        | true =>
          rw [hz] at h
          simp only [cond_true, Option.some.injEq, Prod.mk.injEq, true_and] at h
          subst h
          have hhdr := hu0.2 (Nat.eq_of_beq_eq_true hz).symm
          obtain ⟨v', cells, h2, h3, h4, h5⟩ := hM.blks b _ hst
          rw [hhdr] at h2
          injection h2 with h2
          subst h2
          obtain ⟨hl, ⟨A, rfl, hn, hAv⟩ | ⟨g, cap, cur, rfl, hB, hh, hnl, hm, hs, htk⟩⟩ := h3
          · refine ⟨.int .i64 ((0 : Nat) : Int), RAV_int.2 (by rw [hn]), ?_⟩
            simp only [Builtin.len_, List.getElem?_toArray, List.getElem?_cons_zero, Sem.run_bind, hr, Result.andThen_ok, Sem.run_pure, goInt]
          · refine ⟨_, RAV_int.2 rfl, ?_⟩
            simp only [Builtin.len_, List.getElem?_toArray, List.getElem?_cons_zero, Sem.run_bind, hr, Result.andThen_ok, Sem.run_pure, goInt]
      · rename_i ver t xs hst
        rw [hst] at hu0
        cases hz : Nat.beq ver n with
        | false => rw [hz] at h; cases h
        | true =>
          rw [hz] at h
          simp only [cond_true, Option.some.injEq, Prod.mk.injEq, true_and] at h
          subst h
          have hrep := hu0.2 (Nat.eq_of_beq_eq_true hz).symm
          rw [Rep] at hrep
          obtain ⟨A, c, hA, _⟩ := hrep
          simp only [List.cons.injEq, and_true] at hA
          subst hA
          refine ⟨_, RAV_int.2 rfl, ?_⟩
          simp only [Builtin.len_, List.getElem?_toArray, List.getElem?_cons_zero, Sem.run_bind, hr, Result.andThen_ok, Sem.run_pure, goInt]
      · cases h
    · rename_i e htd
      rw [htd] at hd
      obtain rfl := tdOf_slice hd
      simp only [Option.some.injEq, Prod.mk.injEq, true_and] at h
      subst h
      obtain ⟨A, rfl⟩ := hu
      refine ⟨.int .i64 ((0 : Nat) : Int), RAV_int.2 rfl, ?_⟩
      simp only [Builtin.len_, List.getElem?_toArray, List.getElem?_cons_zero, Sem.run_bind, hr, Result.andThen_ok, Sem.run_pure, goInt]
    · rename_i e b n htd
      rw [htd] at hd
      obtain rfl := tdOf_slice hd
      simp only [Option.some.injEq, Prod.mk.injEq, true_and] at h
      subst h
      obtain ⟨_, g, _, rfl⟩ := hu
      refine ⟨_, RAV_int.2 rfl, ?_⟩
      simp only [Builtin.len_, List.getElem?_toArray, List.getElem?_cons_zero, Sem.run_bind, hr, Result.andThen_ok, Sem.run_pure, goInt]
    · cases h
  · cases h

theorem foldMM_sound (mx : Bool) : ∀ {l : List AV} {vs : List Value} {a : Int} {k : IntKind} {av : AV}, foldMM mx a k l = some (true, av) → l.length = vs.length → (∀ (i : Nat) x v, l[i]? = some x → vs[i]? = some v → RAV G st w x v) →
    ∃ r, RAV G st w av r ∧ (vs.foldlM (if mx = true then Builtin.max2 else Builtin.min2) (.int k a)).run P w = .ok r w
  | [], [], a, k, av, h, _, _ => by
    simp only [foldMM, Option.some.injEq, Prod.mk.injEq, true_and] at h
    subst h
    exact ⟨_, RAV_int.2 rfl, by simp⟩
  | [], _ :: _, _, _, _, _, hl, _ => by simp at hl
  | _ :: _, [], _, _, _, _, hl, _ => by simp at hl
  | x :: l, v :: vs, a, k, av, h, hl, hr => by
    have h0 := hr 0 x v rfl rfl
    unfold foldMM at h
    split at h
    · contradiction
    · rename_i k' b r e
      simp only [List.cons.injEq] at e
      obtain ⟨rfl, rfl⟩ := e
      rw [RAV_int] at h0
      subst h0
      obtain ⟨r', h1, h2⟩ := foldMM_sound mx (vs := vs) h (by simpa using hl) (fun i x v hx hv => hr (i + 1) x v (by simpa using hx) (by simpa using hv))
      refine ⟨r', h1, ?_⟩
      rw [List.foldlM_cons, Sem.run_bind]
      cases mx
      · simp only [Bool.false_eq_true, if_false, Builtin.min2, Sem.run_pure, Result.andThen_ok] at h2 ⊢
        simpa using h2
      · simp only [if_true, Builtin.max2, Sem.run_pure, Result.andThen_ok] at h2 ⊢
        simpa using h2
    · cases h

theorem ptrs_sound : ∀ {l : List AV} {vs : List Value} {ps : List (Nat × Nat)}, ptrsOf l = some ps → l.length = vs.length → (∀ (i : Nat) x v, l[i]? = some x → vs[i]? = some v → RAV G st w x v) →
    vs.length = ps.length ∧ ∀ (i : Nat) p, ps[i]? = some p → p.1 < st.length ∧ ∃ g, G.m p.1 = .at_ g ∧ vs[i]? = some (.pointer (some ⟨g, p.2, none⟩))
  | [], [], ps, h, _, _ => by
    simp only [ptrsOf, Option.some.injEq] at h
    subst h
    exact ⟨rfl, fun i p h => by simp at h⟩
  | [], _ :: _, _, _, hl, _ => by simp at hl
  | _ :: _, [], _, _, hl, _ => by simp at hl
  | x :: l, v :: vs, ps, h, hl, hr => by
    have h0 := hr 0 x v rfl rfl
    unfold ptrsOf at h
    split at h
    · contradiction
    · rename_i b off r e
      simp only [List.cons.injEq] at e
      obtain ⟨rfl, rfl⟩ := e
      split at h
      · rename_i l' hl'
        simp only [Option.some.injEq] at h
        subst h
        obtain ⟨h1, h2⟩ := ptrs_sound hl' (vs := vs) (by simpa using hl) (fun i x v hx hv => hr (i + 1) x v (by simpa using hx) (by simpa using hv))
        obtain ⟨h3, g, h4, h5⟩ := h0
        refine ⟨by simp [h1], fun i p hp => ?_⟩
        cases i with
        | zero => simp at hp; subst hp; exact ⟨h3, g, h4, by simp [h5]⟩
        | succ i => simpa using h2 i p (by simpa using hp)
      · cases h
    · cases h

theorem opds_sound {s : St} {a : Act} (hF : SimF G s.st w s.sl a.tmps) (l : List Operand) : ∀ (i : Nat) x v, (l.map (opd s))[i]? = some x → (l.map a.eval)[i]? = some v → RAV G s.st w x v := by
  intro i x v hx hv
  rw [List.getElem?_map] at hx hv
  cases hl : l[i]? with
  | none => rw [hl] at hx; cases hx
  | some o =>
    rw [hl] at hx hv
    simp only [Option.map_some, Option.some.injEq] at hx hv
    subst hx; subst hv
    exact opd_sound hF o

theorem RSs.get : ∀ {xs : List SV} {arr : List Value}, RSs G st w xs arr → ∀ {i : Nat} {x : SV}, xs[i]? = some x → ∃ v, arr[i]? = some v ∧ RSV G st w x v
  | _ :: _, v :: _, h, 0, _, hc => by simp at hc; subst hc; exact ⟨v, rfl, h.1⟩
  | _ :: _, _ :: _, h, i + 1, _, hc => by
    obtain ⟨v, hv, hr⟩ := RSs.get h.2 (by simpa using hc)
    exact ⟨v, by simpa using hv, hr⟩
  | [], [], _, _, _, hc => by simp at hc
  | [], _ :: _, h, _, _, _ => h.elim
  | _ :: _, [], h, _, _, _ => h.elim

/-- Every operation that only computes. -/
theorem pureOp_sound (ok : TTok P tt) {s : St} {a : Act} (hM : SimM tt B G s.st w) (hF : SimF G s.st w s.sl a.tmps) {o : Oper} {av : AV} (h : pureOp tt s o.op = some (true, av)) :
    ∃ r, RAV G s.st w av r ∧ (execOp a.eval o).run P w = .ok (.value r) w := by
  have lift : ∀ {m : Sem Value}, (∃ r, RAV G s.st w av r ∧ m.run P w = .ok r w) → ∃ r, RAV G s.st w av r ∧ (do pure (Next.value (← m)) : Sem Next).run P w = .ok (.value r) w := by
    rintro m ⟨r, h1, h2⟩
    exact ⟨r, h1, by simp only [Sem.run_bind, h2, Result.andThen_ok, Sem.run_pure]⟩
  have E := fun x => opd_sound (a := a) hF x
  obtain ⟨dst, op, ty, guard, after, pos⟩ := o
  cases op <;> simp only [pureOp, reduceCtorEq] at h <;> simp only [execOp]
  case move x => simp only [Option.some.injEq, Prod.mk.injEq, true_and] at h; subst h; exact ⟨_, E x, by simp⟩
  case assign x => simp only [Option.some.injEq, Prod.mk.injEq, true_and] at h; subst h; exact ⟨_, E x, by simp⟩
  case nilCheck x =>
    split at h
    · rename_i c hc
      cases hn : isNonNil s.st c with
      | false => rw [hn] at h; cases h
      | true =>
        rw [hn] at h
        simp only [cond_true, Option.some.injEq, Prod.mk.injEq, true_and] at h
        subst h
        have h1 := E x
        rw [hc] at h1
        obtain ⟨ad, h2⟩ := nonNil_sound hn h1
        rw [h2] at h1 ⊢
        exact ⟨_, h1, by simp⟩
    · cases h
  case binOp bop T x y z => exact lift (binA_sound ok hM h (E x) (E y) x y)
  case unOp uop T x => exact lift (unA_sound h (E x))
  case convert src dst' x => exact lift (convA_sound ok hM h (E x))
  case slice T x lo hi mx => exact lift (sliceA_sound ok h (E x) (opt_sound hF lo) (opt_sound hF hi) (opt_sound hF mx))
  case fieldAddr T x f => exact lift (fieldAddrA_sound ok h (E x))
  case field T x f =>
    split at h
    · rename_i i off cs hf hx
      split at h
      · rename_i v hp
        simp only [Option.some.injEq, Prod.mk.injEq, true_and] at h
        subst h
        have h1 := E x
        rw [hx] at h1
        exact lift (field_sound ok hf hp h1)
      · cases h
    · cases h
  case indexAddr T x ix => exact lift (indexAddrA_sound ok hM h (E x) (E ix))
  case index T x ix => exact lift (indexA_sound ok hM h (E x) (E ix))
  case load T x => exact lift (loadA_sound ok hM h (E x))
  case extract x i =>
    split at h
    · rename_i vs hx
      split at h
      · rename_i v hv
        simp only [Option.some.injEq, Prod.mk.injEq, true_and] at h
        subst h
        have h1 := E x
        rw [hx] at h1
        obtain ⟨arr, h2, h3⟩ := h1
        obtain ⟨u, hu, hr⟩ := h3.get hv
        refine lift ⟨u, hr, ?_⟩
        rw [h2]
        simp [Instr.extract, hu]
      · cases h
    · cases h
  case build T parts =>
    refine lift (buildA_sound ok hM h (by simp) ?_)
    intro i p p' hp hp'
    simp only [Array.toList_map] at hp'
    rw [List.getElem?_map] at hp hp'
    cases hl : parts.toList[i]? with
    | none => rw [hl] at hp; cases hp
    | some q =>
      rw [hl] at hp hp'
      simp only [Option.map_some, Option.some.injEq] at hp hp'
      subst hp; subst hp'
      exact ⟨rfl, E q.2⟩
  case makeFunc fn first cap =>
    cases fn <;> simp only [reduceCtorEq] at h
    rename_i f
    split at h
    · rename_i l hfirst hcap
      simp only [Option.some.injEq, Prod.mk.injEq, true_and] at h
      subst h
      obtain ⟨h1, h2⟩ := ptrs_sound (G := G) (w := w) (vs := cap.toList.map a.eval) hcap (by simp) (opds_sound hF cap.toList)
      refine lift ⟨.func (.func f) #[] (cap.toList.map a.eval).toArray, ⟨_, rfl, h1, h2⟩, ?_⟩
      have e1 : first = #[] := by apply Array.ext'; simpa using hfirst
      subst e1
      have e2 : Array.map a.eval cap = (cap.toList.map a.eval).toArray := by apply Array.ext'; simp
      have e3 : Array.map a.eval #[] = #[] := by simp
      simp only [Instr.makeFunc, Sem.run_pure, e2, e3]
    · cases h
  case call c =>
    obtain ⟨callee, args, argTypes⟩ := c
    cases callee <;> try simp only [reduceCtorEq] at h
    rename_i b
    have key : ∀ {m : Sem Value}, Go.builtin b argTypes ty (args.map fun | .const _ => true | _ => false) (args.map a.eval) = (do pure (Next.value (← m)) : Sem Next) → (∃ r, RAV G s.st w av r ∧ m.run P w = .ok r w) →
        ∃ r, RAV G s.st w av r ∧ (do let d ← resolve a.eval ⟨.builtin b, args, argTypes⟩ ty; invoke d.target d.args : Sem Next).run P w = .ok (.value r) w := by
      intro m hm hr
      obtain ⟨r, h1, h2⟩ := lift hr
      refine ⟨r, h1, ?_⟩
      simp only [resolve, Sem.run_bind, Sem.run_pure, Result.andThen_ok, invoke]
      exact (congrArg (fun q : Sem Next => q.run P w) hm).trans h2
    cases b <;> try simp only [reduceCtorEq] at h
    case len =>
      split at h
      · rename_i x T hx hT
        refine key (m := Builtin.len_ argTypes ty (args.map a.eval)) rfl ?_
        have e1 : args = #[x] := by apply Array.ext'; simpa using hx
        have e2 : argTypes = #[T] := by apply Array.ext'; simpa using hT
        subst e1; subst e2
        have e3 : Array.map a.eval #[x] = #[a.eval x] := by simp
        rw [e3]
        exact lenA_sound ok hM h (E x)
      · cases h
    case max =>
      split at h
      · rename_i k n r hx
        refine key (m := Builtin.max_ argTypes ty (args.map a.eval)) rfl ?_
        cases hl : args.toList with
        | nil => rw [hl] at hx; cases hx
        | cons y ys =>
          rw [hl] at hx
          simp only [List.map_cons, List.cons.injEq] at hx
          obtain ⟨hy, rfl⟩ := hx
          have h1 := E y
          rw [hy, RAV_int] at h1
          obtain ⟨r, h2, h3⟩ := foldMM_sound (vs := ys.map a.eval) true h (by simp) (opds_sound hF ys)
          refine ⟨r, h2, ?_⟩
          simp only [if_true] at h3
          have e1 : (args.map a.eval).toList = a.eval y :: ys.map a.eval := by rw [Array.toList_map, hl]; rfl
          unfold Builtin.max_
          rw [e1, h1]
          exact h3
      · cases h
    case min =>
      split at h
      · rename_i k n r hx
        refine key (m := Builtin.min_ argTypes ty (args.map a.eval)) rfl ?_
        cases hl : args.toList with
        | nil => rw [hl] at hx; cases hx
        | cons y ys =>
          rw [hl] at hx
          simp only [List.map_cons, List.cons.injEq] at hx
          obtain ⟨hy, rfl⟩ := hx
          have h1 := E y
          rw [hy, RAV_int] at h1
          obtain ⟨r, h2, h3⟩ := foldMM_sound (vs := ys.map a.eval) false h (by simp) (opds_sound hF ys)
          refine ⟨r, h2, ?_⟩
          simp only [Bool.false_eq_true, if_false] at h3
          have e1 : (args.map a.eval).toList = a.eval y :: ys.map a.eval := by rw [Array.toList_map, hl]; rfl
          unfold Builtin.min_
          rw [e1, h1]
          exact h3
      · cases h

end
end Go.Rf

