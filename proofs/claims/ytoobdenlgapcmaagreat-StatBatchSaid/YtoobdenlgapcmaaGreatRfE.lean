/- Regions that draw their order, the library's functions without a body, what a seat's program owes. -/
import Derived.Test.YtoobdenlgapcmaaGreatRfD
import GoSem.Extern.Table
import Derived.Below
import Derived.Lib.UnsafeStr
import Derived.Lib.LaidTab
import Derived.Lib.LaidU8
import Derived.Lib.ItoaNum
import Derived.Sort.Grow
import Derived.Deep.Draws
import Derived.Lib.Join
import Derived.Lib.Replace
import Derived.Lib.IndexBytes
import Derived.Lib.SplitLaws
set_option linter.unusedVariables false
set_option linter.unusedSimpArgs false
set_option linter.unusedSectionVars false
/- Regions that draw their order: what an operation depends on. -/
namespace Go.Rf
open Go.RowKit
set_option linter.unusedSectionVars false
variable [LowTab]

section
variable {cx : Cx} {tt : TT} {ro rb : Nat → Bool}

/-- An operation looks at its operands alone, and at the store. -/
theorem opds_congr {s s' : St} {l : List Operand} (h : ∀ x ∈ l, opd s x = opd s' x) : l.map (opd s) = l.map (opd s') := List.map_congr_left h

theorem pairs_congr {s s' : St} {ps : Array (Nat × Operand)} (h : ∀ x ∈ (ps.toList.map (·.2)).toArray, opd s x = opd s' x) : (ps.toList.map fun p => (p.1, opd s p.2)) = ps.toList.map fun p => (p.1, opd s' p.2) :=
  List.map_congr_left fun p hp => by
    rw [h p.2 (by simpa using ⟨p.1, Array.mem_toList_iff.1 hp⟩)]

theorem pureOp_congr {s s' : St} {op : Op} (hst : s'.st = s.st) (h : ∀ x ∈ op.operands, opd s x = opd s' x) : pureOp tt s op = pureOp tt s' op := by
  cases op <;> simp only [Op.operands] at h <;> simp only [pureOp, hst]
  case build t ps => rw [pairs_congr h]
  case makeFunc fn first captured =>
    have : captured.toList.map (opd s) = captured.toList.map (opd s') := opds_congr fun x hx => h x (by simp [Array.mem_toList_iff.1 hx])
    cases fn <;> try rfl
    simp only [this]
  case slice t x lo hi mx => cases lo <;> cases hi <;> cases mx <;> simp_all
  case call c =>
    have ha : c.args.toList.map (opd s) = c.args.toList.map (opd s') := opds_congr fun x hx => h x (by simp [Call.operands, Array.mem_toList_iff.1 hx])
    obtain ⟨callee, args, argTypes⟩ := c
    cases callee <;> try rfl
    rename_i b
    cases b <;> simp only [] <;> try rfl
    · cases hx : args.toList with
      | nil => rfl
      | cons y ys =>
        cases ys with
        | nil =>
          simp only [hx] at ha
          simp only [List.map_cons, List.map_nil, List.cons.injEq, and_true] at ha
          cases argTypes.toList with
          | nil => rfl
          | cons T r => cases r with
            | nil => show lenA tt s.st T (opd s y) = lenA tt s.st T (opd s' y); rw [ha]
            | cons _ _ => rfl
        | cons _ _ => rfl
    · simp only [] at ha; rw [ha]
    · simp only [] at ha; rw [ha]
  all_goals (first | rfl | (simp_all; done))

theorem effOp_congr {s s' : St} {op : Op} (hst : s'.st = s.st) (h : ∀ x ∈ op.operands, opd s x = opd s' x) : effOp tt rb s op = effOp tt rb s' op := by
  cases op <;> simp only [Op.operands] at h <;> simp only [effOp, hst]
  case buildSlice t n ps => rw [pairs_congr h]
  case slice t x lo hi mx => cases lo <;> cases hi <;> cases mx <;> simp_all
  case call c =>
    have ha : c.args.toList.map (opd s) = c.args.toList.map (opd s') := opds_congr fun x hx => h x (by simp [Call.operands, Array.mem_toList_iff.1 hx])
    obtain ⟨callee, args, argTypes⟩ := c
    cases callee <;> try rfl
    rename_i b
    cases b <;> simp only [] <;> try rfl
    match hx : args.toList, argTypes.toList with
    | [y, z], [T, U] =>
      simp only [hx] at ha
      simp only [List.map_cons, List.map_nil, List.cons.injEq, and_true] at ha
      show (match appendA tt rb s.st T U (opd s y) (opd s z) with | r => r) = _
      simp only []
      rw [ha.1, ha.2]
    | [], _ => rfl
    | [_], _ => rfl
    | _ :: _ :: _ :: _, _ => rfl
    | [_, _], [] => rfl
    | [_, _], [_] => rfl
    | [_, _], _ :: _ :: _ :: _ => rfl
  all_goals (first | rfl | (simp_all; done))

theorem stepF_congr {ht : HT} {s s' : St} {op : Op} (hst : s'.st = s.st) (h : ∀ x ∈ op.operands, opd s x = opd s' x) : stepF cx rb ht op s = stepF cx rb ht op s' := by
  have hp := pureOp_congr (tt := cx.tt) hst h
  have he := effOp_congr (tt := cx.tt) (rb := rb) hst h
  unfold stepF stepOp
  split
  · rename_i c x y
    simp only [Op.operands] at h
    rw [h c (by simp), h x (by simp), h y (by simp), hst]
  · rename_i f args at_
    simp only [Op.operands, Call.operands] at h
    have ha : args.toList.map (opd s) = args.toList.map (opd s') := opds_congr fun x hx => h x (by simp [Array.mem_toList_iff.1 hx])
    rw [h f (by simp), ha, hst]
  · rename_i x
    simp only [Op.operands] at h
    rw [h x (by simp), hst]
  · rw [hp, he, hst]

end
end Go.Rf

/- Regions that draw their order, part 2: what an operation depends on. -/
namespace Go.Rf
open Go.RowKit
set_option linter.unusedSectionVars false
variable [LowTab]

section
variable {cx : Cx} {tt : TT} {ro rb : Nat → Bool}

/-! ### The store, below a bound -/
def Low (nb : Nat) (st st1 : List Blk) : Prop := ∀ b, b < nb → st1[b]? = st[b]?

theorem isNonNil_st {nb : Nat} {st st1 : List Blk} (h : Low nb st st1) {c : CV} (hc : refLt nb c = true) : isNonNil st1 c = isNonNil st c := by
  cases c with
  | eptr b n i off => simp only [isNonNil]; rw [h b (Nat.le_of_ble_eq_true hc)]
  | _ => rfl

theorem one_st {nb : Nat} {st st1 : List Blk} (h : Low nb st st1) {c : CV} (hc : refLt nb c = true) (t : Ty) : one st1 t c = one st t c := by
  cases c with
  | own b n => simp only [one]; rw [h b (Nat.le_of_ble_eq_true hc)]
  | _ => rfl

theorem liveC_st {nb : Nat} {st st1 : List Blk} (h : Low nb st st1) {c : CV} (hc : refLt nb c = true) : liveC st1 c = liveC st c := by
  cases c with
  | own b n => simp only [liveC]; rw [h b (Nat.le_of_ble_eq_true hc)]
  | eptr b n i off => exact isNonNil_st h (c := .eptr b n i off) hc
  | _ => rfl

theorem fillA_st {nb : Nat} {st st1 : List Blk} (h : Low nb st st1) (place : Nat → Option (Nat × Nat)) : ∀ {parts : List (Nat × AV)} (cells : List CV), (∀ p ∈ parts, refsLt nb p.2 = true) → fillA st1 place cells parts = fillA st place cells parts
  | [], _, _ => rfl
  | (i, .tup _) :: r, _, _ => rfl
  | (i, .s v) :: r, cells, hp => by
    simp only [fillA]
    have hv := hp (i, .s v) (List.mem_cons_self ..)
    have e : v.cells.all (liveC st1) = v.cells.all (liveC st) := by
      have hall : ∀ c ∈ v.cells, refLt nb c = true := by
        cases v with
        | c c => intro x hx; simp only [SV.cells, List.mem_singleton] at hx; subst hx; exact hv
        | agg cs => exact List.all_eq_true.1 hv
      generalize v.cells = l at hall ⊢
      induction l with
      | nil => rfl
      | cons c l ih =>
        rw [List.all_cons, List.all_cons, liveC_st h (hall c (List.mem_cons_self ..)), ih fun x hx => hall x (List.mem_cons_of_mem _ hx)]
    rw [e]
    split
    · rw [fillA_st h place _ fun p hp' => hp p (List.mem_cons_of_mem _ hp')]
    · rfl

theorem opd_st (sl : List AV) (st st1 : List Blk) (x : Operand) : opd ⟨sl, st1⟩ x = opd ⟨sl, st⟩ x := by cases x <;> rfl

theorem convA_st {nb : Nat} {st st1 : List Blk} (h : Low nb st st1) {src dst : TypeId} {x : AV} (hc : refsLt nb x = true) : convA tt st1 src dst x = convA tt st src dst x := by
  unfold convA
  split
  · split
    · rfl
    · rfl
    · rw [one_st h hc]
    · rfl
  · rfl

theorem binA_st {nb : Nat} {st st1 : List Blk} (h : Low nb st st1) {op : BinOp} {T : TypeId} {x y : AV} (hc : refsLt nb x = true) : binA tt st1 op T x y = binA tt st op T x y := by
  unfold binA
  split
  · rfl
  · rfl
  · rfl
  · rfl
  · rw [isNonNil_st h hc]
  · rfl

theorem fieldAddrA_st {nb : Nat} {st st1 : List Blk} (h : Low nb st st1) {T : TypeId} {f : Nat} {x : AV} (hc : refsLt nb x = true) : fieldAddrA tt st1 T x f = fieldAddrA tt st T x f := by
  unfold fieldAddrA
  split
  · split
    · rfl
    · rename_i b n j off
      rw [isNonNil_st h (c := .eptr b n j off) hc]
    · rfl
    · rfl
  · rfl

theorem indexAddrA_st {nb : Nat} {st st1 : List Blk} (h : Low nb st st1) {T : TypeId} {x ix : AV} (hc : refsLt nb x = true) : indexAddrA tt st1 T x ix = indexAddrA tt st T x ix := by
  unfold indexAddrA
  split
  · split
    · rfl
    · rename_i b n _
      rw [h b (Nat.le_of_ble_eq_true hc)]
    · rename_i b off _
      rw [h b (Nat.le_of_ble_eq_true hc)]
    · rename_i b ver k off _
      rw [isNonNil_st h (c := .eptr b ver k off) hc]
    · rfl
    · rfl
    · rfl
  · rfl

theorem loadA_st {nb : Nat} {st st1 : List Blk} (h : Low nb st st1) {T : TypeId} {x : AV} (hc : refsLt nb x = true) : loadA tt st1 T x = loadA tt st T x := by
  unfold loadA
  split
  · split
    · rename_i b off
      rw [h b (Nat.le_of_ble_eq_true hc)]
    · rename_i b n k off
      rw [h b (Nat.le_of_ble_eq_true hc)]
    · rfl
    · rfl
  · rfl

theorem lenA_st {nb : Nat} {st st1 : List Blk} (h : Low nb st st1) {T : TypeId} {x : AV} (hc : refsLt nb x = true) : lenA tt st1 T x = lenA tt st T x := by
  unfold lenA
  split
  · split
    · rfl
    · rfl
    · rfl
    · rename_i b n _
      rw [h b (Nat.le_of_ble_eq_true hc)]
    · rfl
    · rfl
    · rfl
  · rfl

theorem pureOp_st {nb : Nat} {sl : List AV} {st st1 : List Blk} (h : Low nb st st1) {op : Op} (hr : ∀ x ∈ op.operands, refsLt nb (opd ⟨sl, st⟩ x) = true) : pureOp tt ⟨sl, st1⟩ op = pureOp tt ⟨sl, st⟩ op := by
  have eo : opd ⟨sl, st1⟩ = opd ⟨sl, st⟩ := funext (opd_st sl st st1)
  cases op <;> simp only [Op.operands] at hr <;> simp only [pureOp, eo]
  case nilCheck x =>
    have h1 := hr x (by simp)
    split
    · rename_i c hc
      rw [hc] at h1
      rw [isNonNil_st h h1]
    · rfl
  case binOp op T x y z => exact binA_st h (hr x (by simp))
  case convert src dst x => exact convA_st h (hr x (by simp))
  case fieldAddr T x f => exact fieldAddrA_st h (hr x (by simp))
  case indexAddr T x ix => exact indexAddrA_st h (hr x (by simp))
  case load T x => exact loadA_st h (hr x (by simp))
  case build T parts =>
    unfold buildA
    have hp : ∀ p ∈ parts.toList.map (fun p => (p.1, opd ⟨sl, st⟩ p.2)), refsLt nb p.2 = true := by
      intro p hp
      obtain ⟨q, hq, rfl⟩ := List.mem_map.1 hp
      exact hr q.2 (by simpa using ⟨q.1, Array.mem_toList_iff.1 hq⟩)
    split
    · split
      · split
        · rw [fillA_st h _ _ hp]
        · rfl
      · split
        · rw [fillA_st h _ _ hp]
        · rfl
      · rfl
    · rfl
  case makeFunc fn first captured => cases fn <;> rfl
  case call c =>
    obtain ⟨callee, args, argTypes⟩ := c
    cases callee <;> try rfl
    rename_i b
    cases b <;> try rfl
    show (match args.toList, argTypes.toList with | [x], [T] => lenA tt st1 T (opd ⟨sl, st⟩ x) | _, _ => none) = (match args.toList, argTypes.toList with | [x], [T] => lenA tt st T (opd ⟨sl, st⟩ x) | _, _ => none)
    split
    · rename_i x T hx _
      exact lenA_st h (hr x (by
        have : x ∈ args.toList := by rw [hx]; exact List.mem_singleton_self x
        simp [Call.operands, Array.mem_toList_iff.1 this]))
    · rfl

end
end Go.Rf

/- Regions that draw their order, part 3: an operation, its guard looked at. -/
namespace Go.Rf
open Go.RowKit
set_option linter.unusedSectionVars false
variable [LowTab]

section
variable {cx : Cx} {ro rb : Nat → Bool} {ops : Array Oper}

/-- What an operation of a region gives. -/
def actF (cx : Cx) (rb : Nat → Bool) (chk : St → Op → Bool) (ht : HT) (all : List Oper) (o : Oper) (s : St) : Option (AV × List Blk) :=
  match o.guard with
  | none => bif chk s o.op then stepF cx rb ht o.op s else none
  | some (gi, want) =>
    match (all[gi]?).bind (·.dst) with
    | some d =>
      match s.sl.getD d (.cv .any) with
      | .s (.c (.v .bool x)) => bif x == want then (bif chk s o.op then stepF cx rb ht o.op s else none) else some (.cv .undef, s.st)
      | .s (.c .undef) => some (.cv .undef, s.st)
      | _ => none
    | none => none

def putS (ro : Nat → Bool) (o : Oper) (s : St) (p : AV × List Blk) : Option St := (putA ro o.dst p.1 s.sl).map fun sl => ⟨sl, p.2⟩

theorem litA_id {d : Nat} {x : Bool} {sl : List AV} (h : sl.getD d (.cv .any) = .bool x) : litA ro d x sl = sl := by
  unfold litA
  cases ro d with
  | true => rfl
  | false =>
    simp only [cond_false]
    apply List.ext_getElem?
    intro i
    by_cases e : d = i
    · subst e
      rw [List.getD_eq_getElem?_getD] at h
      cases hx : sl[d]? with
      | none =>
        rw [hx] at h
        cases h
      | some av =>
        rw [hx] at h
        simp only [Option.getD_some] at h
        have hl : d < sl.length := (List.getElem?_eq_some_iff.1 hx).1
        rw [List.getElem?_set_self hl, h]
    · rw [List.getElem?_set_ne e]

theorem operF_eq {chk : St → Op → Bool} {h : HT} {all : List Oper} {i : Nat} {o : Oper} {s : St} : operF cx ro rb chk h all i o s = (actF cx rb chk (h.at i) all o s).bind (putS ro o s) := by
  unfold operF actF
  cases hg : o.guard with
  | none =>
    simp only []
    cases chk s o.op <;> rfl
  | some q =>
    obtain ⟨gi, want⟩ := q
    simp only []
    cases hd : (all[gi]?).bind (·.dst) with
    | none => rfl
    | some d =>
      simp only []
      cases hx : s.sl.getD d (.cv .any) with
      | tup l => rfl
      | s v =>
        cases v with
        | agg cs => rfl
        | c c =>
          cases c with
          | v t x =>
            cases t with
            | bool =>
              simp only []
              rw [litA_id hx]
              cases x == want with
              | true =>
                simp only [cond_true]
                cases chk s o.op <;> rfl
              | false => rfl
            | _ => rfl
          | _ => rfl

/-- States alike where an operation looks. -/
def Alike (ops : Array Oper) (o : Oper) (s s' : St) : Prop := ∀ t ∈ o.looksAt ops, s'.sl[t]? = s.sl[t]?

theorem Alike.opd {o : Oper} {s s' : St} (h : Alike ops o s s') : ∀ x ∈ o.op.operands, opd s x = Rf.opd s' x := by
  intro x hx
  cases x with
  | tmp t =>
    have := h t (List.mem_append_left _ (List.mem_filterMap.2 ⟨.tmp t, by simpa using hx, rfl⟩))
    simp only [Rf.opd, List.getD_eq_getElem?_getD, this]
  | _ => rfl

theorem chkDraw_congr {nb : Nat} {strict : Bool} {s s' : St} {op : Op} (hst : s'.st = s.st) (h : ∀ x ∈ op.operands, opd s x = opd s' x) : chkDraw cx nb strict s op = chkDraw cx nb strict s' op := by
  unfold chkDraw
  have hp := pureOp_congr (tt := cx.tt) hst h
  have ha : (op.operands.toList.all fun x => refsLt nb (opd s x)) = op.operands.toList.all fun x => refsLt nb (opd s' x) := by
    have : ∀ l : List Operand, (∀ x ∈ l, opd s x = opd s' x) → (l.all fun x => refsLt nb (opd s x)) = l.all fun x => refsLt nb (opd s' x) := by
      intro l
      induction l with
      | nil => intro _; rfl
      | cons y l ih => intro hl; rw [List.all_cons, List.all_cons, hl y (List.mem_cons_self ..), ih fun x hx => hl x (List.mem_cons_of_mem _ hx)]
    exact this _ fun x hx => h x (Array.mem_toList_iff.1 hx)
  have hb : (op.operands.toList.all fun x => noOwnA (opd s x)) = op.operands.toList.all fun x => noOwnA (opd s' x) := by
    have : ∀ l : List Operand, (∀ x ∈ l, opd s x = opd s' x) → (l.all fun x => noOwnA (opd s x)) = l.all fun x => noOwnA (opd s' x) := by
      intro l
      induction l with
      | nil => intro _; rfl
      | cons y l ih => intro hl; rw [List.all_cons, List.all_cons, hl y (List.mem_cons_self ..), ih fun x hx => hl x (List.mem_cons_of_mem _ hx)]
    exact this _ fun x hx => h x (Array.mem_toList_iff.1 hx)
  rw [ha, hb, hp]
  cases isEff cx.tt op
  · rfl
  · cases strict
    · rfl
    · simp only [cond_true]
      congr 1
      split
      · rfl
      · rename_i f args at_
        rw [h f (by simp [Op.operands, Call.operands])]
      · rfl

theorem actF_congr {chk : St → Op → Bool} (hchk : ∀ s s' op, s'.st = s.st → (∀ x ∈ op.operands, opd s x = opd s' x) → chk s op = chk s' op) {ht : HT} {o : Oper} {s s' : St} (hst : s'.st = s.st) (h : Alike ops o s s') : actF cx rb chk ht ops.toList o s' = actF cx rb chk ht ops.toList o s := by
  have ho := h.opd
  have h1 := stepF_congr (cx := cx) (rb := rb) (ht := ht) hst ho
  have h2 := hchk s s' o.op hst ho
  unfold actF
  rw [h1, h2]
  split
  · rfl
  · rename_i gi want hg
    split
    · rename_i d hd
      have hd' : (ops[gi]?).bind (·.dst) = some d := by rw [← hd, Array.getElem?_toList]
      have e : s'.sl[d]? = s.sl[d]? := h d (by
        unfold Oper.looksAt
        rw [hg]
        simp only []
        rw [hd']
        simp)
      have e2 : s'.sl.getD d (.cv .any) = s.sl.getD d (.cv .any) := by rw [List.getD_eq_getElem?_getD, List.getD_eq_getElem?_getD, e]
      rw [e2, hst]
    · rfl

end
end Go.Rf

/- Regions that draw their order, part 4: operations that only read; that a step goes on. -/
namespace Go.Rf
open Go.RowKit
set_option linter.unusedSectionVars false
variable [LowTab]

section
variable {P : Program} {B : Nat} {cx : Cx} {ro rb : Nat → Bool} {ops : Array Oper}

theorem wp_exists {o : Oper} {a : Act} {w : World} {next : Act → World → Prop} (h : o.wp P a w next fun _ _ _ => False) : ∃ a' w', next a' w' := by
  unfold Oper.wp at h
  generalize (execOp a.eval o).run P w = r at h
  cases r with
  | ok n w' =>
    cases n <;> simp only [Oper.upon] at h <;> try exact h.elim
    case enter f args =>
      obtain ⟨e, w'', fr, hR, _⟩ := h []
      cases e with
      | returned v => exact ⟨_, _, hR⟩
      | panicked c => exact hR.elim
      | outgrown => obtain ⟨_, _, hh⟩ := hR; exact hh.elim
    case row row args =>
      obtain ⟨v, w'', hR, _⟩ := h default []
      exact ⟨_, _, hR⟩
    all_goals exact ⟨_, _, h⟩
  | halt x w' => cases x <;> simp only [Oper.upon] at h

/-- A step of the evaluator is a step of the machine. -/
theorem oper_exists (hcx : CxOK P B cx) {chk : St → Op → Bool} {h : HT} {i : Nat} {o : Oper} {s s' : St} (he : operF cx ro rb chk h ops.toList i o s = some s') {G : Gh} {w : World} {a : Act} (hrb : ∀ b, rb b = true → b < s.st.length)
    (hM : SimM cx.tt B G s.st w) (hF : SimF G s.st w s.sl a.tmps) : ∃ a' w', After P cx B ro rb G s w a s' a' w' := by
  have := oper_sound (Q := fun _ _ _ => False) (next := fun a' w' => After P cx B ro rb G s w a s' a' w') hcx he hrb hM hF fun _ _ h => h
  unfold OpNext at this
  split at this
  · exact wp_exists this
  · exact ⟨_, _, this⟩

/-- An operation that only reads. -/
theorem actF_pure {nb : Nat} {strict : Bool} {ht : HT} {o : Oper} {s : St} {v : AV} {st' : List Blk} (hE : isEff cx.tt o.op = false) (h : actF cx rb (chkDraw cx nb strict) ht ops.toList o s = some (v, st')) :
    st' = s.st ∧ ∀ st1, Low nb s.st st1 → actF cx rb (chkDraw cx nb strict) ht ops.toList o ⟨s.sl, st1⟩ = some (v, st1) := by
  have run : (bif chkDraw cx nb strict s o.op then stepF cx rb ht o.op s else none) = some (v, st') → st' = s.st ∧ ∀ st1, Low nb s.st st1 → (bif chkDraw cx nb strict ⟨s.sl, st1⟩ o.op then stepF cx rb ht o.op ⟨s.sl, st1⟩ else none) = some (v, st1) := by
    intro h
    cases hc : chkDraw cx nb strict s o.op with
    | false => rw [hc] at h; cases h
    | true =>
      rw [hc] at h
      simp only [cond_true] at h
      have hc0 := hc
      unfold chkDraw at hc
      rw [hE] at hc
      simp only [cond_false, Bool.and_eq_true] at hc
      obtain ⟨hc1, hc2⟩ := hc
      have hrefs : ∀ x ∈ o.op.operands, refsLt nb (opd ⟨s.sl, s.st⟩ x) = true := fun x hx => List.all_eq_true.1 hc1 x (Array.mem_toList_iff.2 hx)
      have hp : ∀ st1, Low nb s.st st1 → pureOp cx.tt ⟨s.sl, st1⟩ o.op = pureOp cx.tt s o.op := fun st1 hl => pureOp_st hl hrefs
      have hchk : ∀ st1, Low nb s.st st1 → chkDraw cx nb strict ⟨s.sl, st1⟩ o.op = true := by
        intro st1 hl
        rw [← hc0]
        unfold chkDraw
        rw [hE, hp st1 hl]
        have eo : opd ⟨s.sl, st1⟩ = opd s := funext (opd_st s.sl s.st st1)
        rw [eo]
      have pick : ∀ {c x y : Operand}, o.op = .pick c x y → st' = s.st ∧ ∀ st1, Low nb s.st st1 → (bif chkDraw cx nb strict ⟨s.sl, st1⟩ o.op then stepF cx rb ht o.op ⟨s.sl, st1⟩ else none) = some (v, st1) := by
        intro c x y ho
        have key : ∀ st0, stepF cx rb ht o.op ⟨s.sl, st0⟩ = (match opd s c with
            | .s (.c (.v .bool z)) => bif z then some (opd s x, st0) else some (opd s y, st0)
            | _ => none) := by
          intro st0
          rw [ho]
          have eo : opd ⟨s.sl, st0⟩ = opd s := funext (opd_st s.sl s.st st0)
          unfold stepF stepOp
          simp only [eo]
          rfl
        have h1 := key s.st
        rw [show (⟨s.sl, s.st⟩ : St) = s from rfl, h] at h1
        split at h1
        · rename_i z hz
          refine ⟨?_, fun st1 hl => ?_⟩
          · cases z <;> simp only [cond_true, cond_false, Option.some.injEq, Prod.mk.injEq] at h1 <;> exact h1.2
          · rw [hchk st1 hl, cond_true, key st1, hz]
            cases z <;> simp only [cond_true, cond_false, Option.some.injEq, Prod.mk.injEq] at h1 ⊢ <;> exact ⟨h1.1.symm, trivial⟩
        · cases h1
      have plain : (∀ st0, stepF cx rb ht o.op ⟨s.sl, st0⟩ = (match pureOp cx.tt ⟨s.sl, st0⟩ o.op with
          | some (g, v) => bif g then some (v, st0) else none
          | none => match effOp cx.tt rb ⟨s.sl, st0⟩ o.op with
            | some (g, v, st) => bif g then some (v, st) else none
            | none => none)) → (pureOp cx.tt s o.op).isSome = true → st' = s.st ∧ ∀ st1, Low nb s.st st1 → (bif chkDraw cx nb strict ⟨s.sl, st1⟩ o.op then stepF cx rb ht o.op ⟨s.sl, st1⟩ else none) = some (v, st1) := by
        intro key hsome
        obtain ⟨⟨g, v0⟩, hv⟩ := Option.isSome_iff_exists.1 hsome
        have h1 := key s.st
        rw [show (⟨s.sl, s.st⟩ : St) = s from rfl, h, hv] at h1
        cases g with
        | false => cases h1
        | true =>
          simp only [cond_true, Option.some.injEq, Prod.mk.injEq] at h1
          obtain ⟨rfl, rfl⟩ := h1
          refine ⟨rfl, fun st1 hl => ?_⟩
          rw [hchk st1 hl, cond_true, key st1, hp st1 hl, hv]
          rfl
      have key0 : ∀ op, (∀ c x y, op ≠ .pick c x y) → (∀ f args at_, op ≠ .call { callee := .value f, args := args, argTypes := at_ }) → (∀ x, op ≠ .next x true) → ∀ st0, stepF cx rb ht op ⟨s.sl, st0⟩ = (match pureOp cx.tt ⟨s.sl, st0⟩ op with
          | some (g, v) => bif g then some (v, st0) else none
          | none => match effOp cx.tt rb ⟨s.sl, st0⟩ op with
            | some (g, v, st) => bif g then some (v, st) else none
            | none => none) := by
        intro op h1 h2 h3 st0
        unfold stepF stepOp
        split
        · exact absurd rfl (h1 _ _ _)
        · exact absurd rfl (h2 _ _ _)
        · exact absurd rfl (h3 _)
        · rfl
      by_cases hpk : ∃ c x y, o.op = .pick c x y
      · obtain ⟨c, x, y, ho⟩ := hpk
        exact pick ho
      · refine plain (key0 o.op (fun c x y e => hpk ⟨c, x, y, e⟩) (fun f args at_ e => ?_) (fun x e => ?_)) ?_
        · rw [e] at hE; cases hE
        · rw [e] at hE; cases hE
        · split at hc2
          · rename_i c x y ho
            exact absurd ⟨c, x, y, ho⟩ hpk
          · exact hc2
  unfold actF at h ⊢
  cases hg : o.guard with
  | none =>
    rw [hg] at h
    exact run h
  | some q =>
    obtain ⟨gi, want⟩ := q
    rw [hg] at h
    simp only [] at h ⊢
    split at h
    · rename_i d hd
      split at h
      · rename_i x hx
        cases hxw : (x == want) with
        | true =>
          rw [hxw] at h
          simp only [cond_true] at h ⊢
          exact run h
        | false =>
          rw [hxw] at h
          simp only [cond_false, Option.some.injEq, Prod.mk.injEq] at h ⊢
          exact ⟨h.2.symm, fun st1 _ => ⟨h.1, trivial⟩⟩
      · rename_i hx
        simp only [Option.some.injEq, Prod.mk.injEq] at h ⊢
        exact ⟨h.2.symm, fun st1 _ => ⟨h.1, trivial⟩⟩
      · cases h
    · cases h

end
end Go.Rf

/- Regions that draw their order, part 5: calls that change nothing; two operations change places. -/
namespace Go.Rf
open Go.RowKit
set_option linter.unusedSectionVars false
variable [LowTab]

section
variable {P : Program} {B : Nat} {cx : Cx} {ro rb : Nat → Bool} {ops : Array Oper}

def setS (o : Oper) (v : AV) (sl : List AV) : List AV := match o.dst with
  | none => sl
  | some d => sl.set d v
def okDst (ro : Nat → Bool) (o : Oper) : Bool := match o.dst with
  | none => true
  | some d => !ro d

theorem putS_eq (o : Oper) (s : St) (p : AV × List Blk) : putS ro o s p = bif okDst ro o then some ⟨setS o p.1 s.sl, p.2⟩ else none := by
  unfold putS putA setS okDst
  cases o.dst with
  | none => rfl
  | some d =>
    simp only []
    cases ro d <;> rfl

theorem setS_comm {x y : Oper} (h : ∀ d, x.dst = some d → y.dst ≠ some d) (u v : AV) (sl : List AV) : setS x u (setS y v sl) = setS y v (setS x u sl) := by
  unfold setS
  cases hx : x.dst with
  | none => rfl
  | some d =>
    cases hy : y.dst with
    | none => rfl
    | some e =>
      have hne : e ≠ d := fun e' => h d hx (by rw [hy, e'])
      exact List.set_comm _ _ hne

theorem alike_set {x y : Oper} (h : ∀ d, x.dst = some d → d ∉ y.looksAt ops) (v : AV) (sl : List AV) (st : List Blk) : Alike ops y ⟨sl, st⟩ ⟨setS x v sl, st⟩ := by
  intro t ht
  show (setS x v sl)[t]? = sl[t]?
  unfold setS
  cases hx : x.dst with
  | none => rfl
  | some d => exact List.getElem?_set_ne (fun (e : d = t) => h d hx (by rw [e]; exact ht))

theorem implode_st {nb : Nat} {st st1 : List Blk} (h : Low nb st st1) : ∀ (t : Ty) (cs : List CV), (∀ c ∈ cs, refLt nb c = true) → implode st1 t cs = implode st t cs := by
  intro t
  induction t with
  | pair a b iha ihb =>
    intro cs hc
    simp only [implode]
    rw [iha cs hc]
    cases hi : implode st a cs with
    | none => rfl
    | some p =>
      obtain ⟨x, r⟩ := p
      simp only []
      rw [ihb r fun c hm => hc c (implode_mem hi c hm)]
  | _ =>
    intro cs hc
    cases cs with
    | nil => rfl
    | cons c cs =>
      simp only [implode]
      rw [one_st h (hc c (List.mem_cons_self ..))]
where
  implode_mem {st : List Blk} : ∀ {t : Ty} {cs r : List CV} {x : t.den}, implode st t cs = some (x, r) → ∀ c ∈ r, c ∈ cs := by
    intro t
    induction t with
    | pair a b iha ihb =>
      intro cs r x h c hc
      simp only [implode] at h
      split at h
      · rename_i y r1 h1
        split at h
        · rename_i z r2 h2
          simp only [Option.some.injEq, Prod.mk.injEq] at h
          obtain ⟨rfl, rfl⟩ := h
          exact iha h1 c (ihb h2 c hc)
        · cases h
      · cases h
    | _ =>
      intro cs r x h c hc
      cases cs with
      | nil => simp [implode] at h
      | cons c' cs =>
        simp only [implode] at h
        split at h
        · simp only [Option.some.injEq, Prod.mk.injEq] at h
          obtain ⟨rfl, rfl⟩ := h
          exact List.mem_cons_of_mem _ hc
        · cases h

theorem decP_st {nb : Nat} {st st1 : List Blk} (h : Low nb st st1) (p : PT) (v : SV) (hv : refsLt nb (.s v) = true) : decP st1 p v = decP st p v := by
  cases p with
  | c t =>
    cases v with
    | c c => exact one_st h hv t
    | agg cs => rfl
  | agg t =>
    cases v with
    | c c => rfl
    | agg cs =>
      have hv' : cs.all (refLt nb) = true := hv
      have hall : ∀ c ∈ cs, refLt nb c = true := List.all_eq_true.1 hv'
      have e := implode_st h t cs hall
      show implodeAll st1 t cs = implodeAll st t cs
      unfold implodeAll
      rw [e]

theorem decL_st {nb : Nat} {st st1 : List Blk} (h : Low nb st st1) (ps : List PT) : ∀ (l : List SV), (∀ v ∈ l, refsLt nb (.s v) = true) → decL st1 ps l = decL st ps l := by
  induction ps with
  | nil => intro l _; cases l <;> rfl
  | cons p ps ih =>
    intro l hv
    cases ps with
    | nil =>
      cases l with
      | nil => rfl
      | cons v l =>
        cases l with
        | nil => exact decP_st h p v (hv v (List.mem_cons_self ..))
        | cons _ _ => rfl
    | cons q r =>
      cases l with
      | nil => rfl
      | cons v l =>
        have e1 := decP_st h p v (hv v (List.mem_cons_self ..))
        have e2 := ih l fun x hx => hv x (List.mem_cons_of_mem _ hx)
        unfold decL
        rw [e1, e2]

/-! ### Rows of rows are not read where they are protected -/
theorem fone_low {nb : Nat} {rb : Nat → Bool} {st : List Blk} (hp : ∀ b, b < nb → rb b = true) {c : CV} (hc : refLt nb c = true) : ∀ (n : Nat) (t : Ty), fone rb st n t c = one st t c
  | 0, _ => rfl
  | n + 1, t => by
    simp only [fone]
    cases h : one st t c with
    | some x => rfl
    | none =>
      simp only []
      unfold foneS
      split
      · rename_i t' b m
        rw [hp b (Nat.le_of_ble_eq_true hc)]
        rfl
      · rfl

theorem implodeW_low {nb : Nat} {rb : Nat → Bool} {st : List Blk} (hp : ∀ b, b < nb → rb b = true) (n : Nat) : ∀ (t : Ty) (cs : List CV), (∀ c ∈ cs, refLt nb c = true) → implodeW (fone rb st n) t cs = implode st t cs := by
  intro t
  induction t with
  | pair a b iha ihb =>
    intro cs hc
    simp only [implode, implodeW]
    rw [iha cs hc]
    cases hi : implode st a cs with
    | none => rfl
    | some p =>
      obtain ⟨x, r⟩ := p
      simp only []
      rw [ihb r fun c hm => hc c (implode_st.implode_mem hi c hm)] <;> rfl
  | _ =>
    intro cs hc
    cases cs with
    | nil => rfl
    | cons c cs =>
      simp only [implode, implodeW]
      rw [fone_low hp (hc c (List.mem_cons_self ..))] <;> rfl

theorem fdecP_low {nb : Nat} {rb : Nat → Bool} {st : List Blk} (hp : ∀ b, b < nb → rb b = true) (p : PT) (v : SV) (hv : refsLt nb (.s v) = true) : fdecP rb st p v = decP st p v := by
  cases p with
  | c t =>
    cases v with
    | c c => exact fone_low hp hv 4 t
    | agg cs => rfl
  | agg t =>
    cases v with
    | c c => rfl
    | agg cs =>
      have hv' : cs.all (refLt nb) = true := hv
      have e := implodeW_low (st := st) hp 4 t cs (List.all_eq_true.1 hv')
      show (match implodeW (fone rb st 4) t cs with | some (x, []) => some x | _ => none) = implodeAll st t cs
      unfold implodeAll
      generalize hX : implodeW (fone rb st 4) t cs = X at e ⊢
      subst e
      cases hY : implode st t cs with
      | none => rfl
      | some p =>
        obtain ⟨x, r⟩ := p
        cases r <;> rfl

theorem fdecL_low {nb : Nat} {rb : Nat → Bool} {st : List Blk} (hp : ∀ b, b < nb → rb b = true) (ps : List PT) : ∀ (l : List SV), (∀ v ∈ l, refsLt nb (.s v) = true) → fdecL rb st ps l = decL st ps l := by
  induction ps with
  | nil => intro l _; cases l <;> rfl
  | cons p ps ih =>
    intro l hv
    cases ps with
    | nil =>
      cases l with
      | nil => rfl
      | cons v l =>
        cases l with
        | nil => exact fdecP_low hp p v (hv v (List.mem_cons_self ..))
        | cons _ _ => rfl
    | cons q r =>
      cases l with
      | nil => rfl
      | cons v l =>
        have e1 := fdecP_low (st := st) hp p v (hv v (List.mem_cons_self ..))
        have e2 := ih l fun x hx => hv x (List.mem_cons_of_mem _ hx)
        unfold fdecL decL
        rw [e1, e2]

end
end Go.Rf

/- Regions that draw their order, part 6: calls that change nothing. -/
namespace Go.Rf
open Go.RowKit
set_option linter.unusedSectionVars false
variable [LowTab]

section
variable {P : Program} {B : Nat} {cx : Cx} {ro rb : Nat → Bool} {ops : Array Oper}

theorem svs_refs {nb : Nat} : ∀ {l : List AV} {vs : List SV}, svs l = some vs → (∀ x ∈ l, refsLt nb x = true) → ∀ v ∈ vs, refsLt nb (.s v) = true := by
  intro l vs h hl v hv
  have e := svs_get h
  exact hl (.s v) (by rw [e]; exact List.mem_map.2 ⟨v, hv, rfl⟩)

theorem frz_noown {rb : Nat → Bool} {st : List Blk} : ∀ {cs : List CV}, cs.all noOwn = true → frzAll rb cs st = some st
  | [], _ => rfl
  | c :: cs, h => by
    rw [List.all_cons, Bool.and_eq_true] at h
    cases c with
    | own b n => cases h.1
    | _ => exact frz_noown (cs := cs) h.2

theorem svs_noown : ∀ {l : List AV} {vs : List SV}, svs l = some vs → (∀ x ∈ l, noOwnA x = true) → (vs.flatMap SV.cells).all noOwn = true := by
  intro l vs h hl
  have e := svs_get h
  rw [List.all_eq_true]
  intro c hc
  obtain ⟨v, hv, hcv⟩ := List.mem_flatMap.1 hc
  have h1 := hl (.s v) (by rw [e]; exact List.mem_map.2 ⟨v, hv, rfl⟩)
  cases v with
  | c c0 =>
    have : c = c0 := by simpa [SV.cells] using hcv
    subst this
    exact h1
  | agg cs => exact List.all_eq_true.1 h1 c hcv

/-- A call by a flat contract, or of the library: nothing is changed, and only what lies low is looked at. -/
theorem stepF_flat {nb : Nat} (hpr : ∀ b, b < nb → rb b = true) (hcons : ∀ n c, getCon cx.cons n = some c → ∃ g f, c = mkCon g f) {ht : HT} {op : Op} {sl : List AV} {st : List Blk} {v : AV} {st' : List Blk} (hE : isEff cx.tt op = true) (hA : isAlloc op = false) (hc : chkDraw cx nb true ⟨sl, st⟩ op = true)
    (h : stepF cx rb ht op ⟨sl, st⟩ = some (v, st')) : st' = st ∧ ∀ st1, Low nb st st1 → chkDraw cx nb true ⟨sl, st1⟩ op = true ∧ stepF cx rb ht op ⟨sl, st1⟩ = some (v, st1) := by
  have hc0 := hc
  unfold chkDraw at hc
  rw [hE] at hc
  simp only [cond_true, Bool.and_eq_true] at hc
  obtain ⟨hc1, hc2⟩ := hc
  have hchk : ∀ st1, chkDraw cx nb true ⟨sl, st1⟩ op = true := by
    intro st1
    have eo : opd ⟨sl, st1⟩ = opd ⟨sl, st⟩ := funext (opd_st sl st st1)
    have e : chkDraw cx nb true ⟨sl, st1⟩ op = chkDraw cx nb true ⟨sl, st⟩ op := by
      unfold chkDraw
      rw [hE, eo]
      rfl
    exact e.trans hc0
  split at hc2
  · cases hA
  · rename_i f args at_
    have hrefs : ∀ x ∈ args.toList.map (opd ⟨sl, st⟩), refsLt nb x = true := by
      intro x hx
      obtain ⟨y, hy, rfl⟩ := List.mem_map.1 hx
      exact List.all_eq_true.1 hc1 y (by simp [Op.operands, Call.operands, Array.mem_toList_iff.1 hy])
    have key : ∀ st0, stepF cx rb ht (.call { callee := .value f, args := args, argTypes := at_ }) ⟨sl, st0⟩ = (match opd ⟨sl, st⟩ f, svs (args.toList.map (opd ⟨sl, st⟩)) with
        | .s (.c (.fn n cap)), some l => callF cx rb ht n l (cap.map fun p => .c (.ptr p.1 p.2)) (AV × List Blk) st0 fun v st => some (v, st)
        | _, _ => none) := by
      intro st0
      have eo : opd ⟨sl, st0⟩ = opd ⟨sl, st⟩ := funext (opd_st sl st st0)
      unfold stepF stepOp
      simp only [eo]
      rfl
    rw [key st] at h
    split at hc2
    · rename_i n hf
      rw [hf] at h key
      cases hs : svs (args.toList.map (opd ⟨sl, st⟩)) with
      | none => rw [hs] at h; cases h
      | some l =>
        rw [hs] at h key
        simp only [] at h key
        have hl := svs_refs hs hrefs
        split at hc2
        · rename_i c hcon
          obtain ⟨g, f', rfl⟩ := hcons n c hcon
          have run : ∀ st0, callF cx rb ht n l ([].map fun p : Nat × Nat => .c (.ptr p.1 p.2)) (AV × List Blk) st0 (fun v st => some (v, st)) = (match decL st0 g.ps l with
              | some x => (f' x).bind fun y => some (resAV (encL g.rs y), st0)
              | none => none) := by
            intro st0
            unfold callF
            rw [hcon]
            simp only [List.map_nil]
            cases hfl : (mkCon g f').flat with
            | true =>
              cases hd : decL st0 g.ps l with
              | none =>
                have hfd : fdecL rb st0 g.ps l = none := (fdecL_low hpr g.ps l hl).trans hd
                simp only [mkCon] at hfl ⊢
                simp only [hd, hfl, cond_true, hfd]
              | some x =>
                simp only [mkCon] at hfl ⊢
                simp only [hd, hfl, cond_true]
            | false =>
              rw [hfl, Bool.false_or] at hc2
              have hno : (l.flatMap SV.cells).all noOwn = true := svs_noown hs fun x hx => by
                obtain ⟨y, hy, rfl⟩ := List.mem_map.1 hx
                exact List.all_eq_true.1 hc2 y (by simp [Op.operands, Call.operands, Array.mem_toList_iff.1 hy])
              cases hd : decL st0 g.ps l with
              | none =>
                simp only [mkCon] at hfl ⊢
                simp only [hd, hfl, cond_false]
              | some x =>
                simp only [mkCon] at hfl ⊢
                simp only [hd, hfl, cond_false, frz_noown hno]
          rw [run st] at h
          split at h
          · rename_i x hx
            obtain ⟨y, hy, he⟩ := Option.bind_eq_some_iff.1 h
            simp only [Option.some.injEq, Prod.mk.injEq] at he
            obtain ⟨rfl, rfl⟩ := he
            refine ⟨rfl, fun st1 hlow => ⟨hchk st1, ?_⟩⟩
            rw [key st1, run st1, decL_st hlow g.ps l hl, hx]
            simp only [hy]
            rfl
          · cases h
        · rename_i hcon
          split at hc2
          · rename_i e hext
            have run : ∀ st0, callF cx rb ht n l ([].map fun p : Nat × Nat => .c (.ptr p.1 p.2)) (AV × List Blk) st0 (fun v st => some (v, st)) = (match extA e l with
                | some (g, v) => bif g then some (v, st0) else none
                | none => none) := by
              intro st0
              unfold callF
              rw [hcon]
              simp only [hext, List.map_nil]
              cases extA e l with
              | none => rfl
              | some p => rfl
            rw [run st] at h
            split at h
            · rename_i g v0 hx
              cases g with
              | false => cases h
              | true =>
                simp only [cond_true, Option.some.injEq, Prod.mk.injEq] at h
                obtain ⟨rfl, rfl⟩ := h
                exact ⟨rfl, fun st1 _ => ⟨hchk st1, by rw [key st1, run st1, hx]; rfl⟩⟩
            · cases h
          · cases hc2
    · cases hc2
  · cases hc2

end
end Go.Rf

/- Regions that draw their order, part 7: two operations change places. -/
namespace Go.Rf
open Go.RowKit
set_option linter.unusedSectionVars false
variable [LowTab]

section
variable {P : Program} {B : Nat} {cx : Cx} {ro rb : Nat → Bool} {ops : Array Oper}

theorem actF_stable {nb : Nat} (hpr : ∀ b, b < nb → rb b = true) (hcons : ∀ n c, getCon cx.cons n = some c → ∃ g f, c = mkCon g f) {strict : Bool} {ht : HT} {o : Oper} {s : St} {v : AV} {st' : List Blk} (hS : isEff cx.tt o.op = false ∨ (strict = true ∧ isAlloc o.op = false))
    (h : actF cx rb (chkDraw cx nb strict) ht ops.toList o s = some (v, st')) : st' = s.st ∧ ∀ st1, Low nb s.st st1 → actF cx rb (chkDraw cx nb strict) ht ops.toList o ⟨s.sl, st1⟩ = some (v, st1) := by
  cases hE : isEff cx.tt o.op with
  | false => exact actF_pure hE h
  | true =>
    rcases hS with hS | ⟨rfl, hA⟩
    · rw [hE] at hS; cases hS
    · have run : (bif chkDraw cx nb true s o.op then stepF cx rb ht o.op s else none) = some (v, st') → st' = s.st ∧ ∀ st1, Low nb s.st st1 → (bif chkDraw cx nb true ⟨s.sl, st1⟩ o.op then stepF cx rb ht o.op ⟨s.sl, st1⟩ else none) = some (v, st1) := by
        intro h
        cases hc : chkDraw cx nb true s o.op with
        | false => rw [hc] at h; cases h
        | true =>
          rw [hc] at h
          simp only [cond_true] at h
          obtain ⟨h1, h2⟩ := stepF_flat (sl := s.sl) (st := s.st) hpr hcons hE hA hc h
          refine ⟨h1, fun st1 hl => ?_⟩
          obtain ⟨h3, h4⟩ := h2 st1 hl
          rw [h3, h4]
          rfl
      unfold actF at h ⊢
      cases hg : o.guard with
      | none =>
        rw [hg] at h
        exact run h
      | some q =>
        obtain ⟨gi, want⟩ := q
        rw [hg] at h
        simp only [] at h ⊢
        split at h
        · rename_i d hd
          split at h
          · rename_i x hx
            cases hxw : (x == want) with
            | true =>
              rw [hxw] at h
              simp only [cond_true] at h ⊢
              exact run h
            | false =>
              rw [hxw] at h
              simp only [cond_false, Option.some.injEq, Prod.mk.injEq] at h ⊢
              exact ⟨h.2.symm, fun st1 _ => ⟨h.1, trivial⟩⟩
          · simp only [Option.some.injEq, Prod.mk.injEq] at h ⊢
            exact ⟨h.2.symm, fun st1 _ => ⟨h.1, trivial⟩⟩
          · cases h
        · cases h

theorem Low.symm {nb : Nat} {st st1 : List Blk} (h : Low nb st st1) : Low nb st1 st := fun b hb => (h b hb).symm
theorem Low.trans {nb : Nat} {a b c : List Blk} (h : Low nb a b) (k : Low nb b c) : Low nb a c := fun x hx => (k x hx).trans (h x hx)

/-- x, then y: y, then x comes to the same. -/
theorem swap_act {nb : Nat} (hpr : ∀ b, b < nb → rb b = true) (hcons : ∀ n c, getCon cx.cons n = some c → ∃ g f, c = mkCon g f) {strict : Bool} {hx hy : HT} {x y : Oper} {sl : List AV} {st st1 st2 : List Blk} {vx vy : AV}
    (h1 : actF cx rb (chkDraw cx nb strict) hx ops.toList x ⟨sl, st⟩ = some (vx, st1)) (h2 : actF cx rb (chkDraw cx nb strict) hy ops.toList y ⟨setS x vx sl, st1⟩ = some (vy, st2)) (l1 : Low nb st st1) (l2 : Low nb st1 st2)
    (a1 : ∀ d, x.dst = some d → d ∉ y.looksAt ops) (a2 : ∀ d, y.dst = some d → d ∉ x.looksAt ops)
    (hS : (isEff cx.tt x.op = false ∨ (strict = true ∧ isAlloc x.op = false)) ∨ (isEff cx.tt y.op = false ∨ (strict = true ∧ isAlloc y.op = false))) :
    ∃ st1', actF cx rb (chkDraw cx nb strict) hy ops.toList y ⟨sl, st⟩ = some (vy, st1') ∧ actF cx rb (chkDraw cx nb strict) hx ops.toList x ⟨setS y vy sl, st1'⟩ = some (vx, st2) := by
  have hchk : ∀ s s' op, s'.st = s.st → (∀ x ∈ op.operands, opd s x = opd s' x) → chkDraw cx nb strict s op = chkDraw cx nb strict s' op := fun s s' op e h => chkDraw_congr e h
  have cy : ∀ st0, actF cx rb (chkDraw cx nb strict) hy ops.toList y ⟨setS x vx sl, st0⟩ = actF cx rb (chkDraw cx nb strict) hy ops.toList y ⟨sl, st0⟩ := fun st0 => actF_congr (s := ⟨sl, st0⟩) (s' := ⟨setS x vx sl, st0⟩) hchk rfl (alike_set a1 vx sl st0)
  have cxx : ∀ st0, actF cx rb (chkDraw cx nb strict) hx ops.toList x ⟨setS y vy sl, st0⟩ = actF cx rb (chkDraw cx nb strict) hx ops.toList x ⟨sl, st0⟩ := fun st0 => actF_congr (s := ⟨sl, st0⟩) (s' := ⟨setS y vy sl, st0⟩) hchk rfl (alike_set a2 vy sl st0)
  rw [cy st1] at h2
  rcases hS with hS | hS
  · obtain ⟨e, hk⟩ := actF_stable hpr hcons hS h1
    simp only at e
    subst e
    exact ⟨st2, h2, by rw [cxx st2]; exact hk st2 l2⟩
  · obtain ⟨e, hk⟩ := actF_stable hpr hcons hS h2
    simp only at e
    subst e
    exact ⟨st, hk st l1.symm, by rw [cxx st]; exact h1⟩

end
end Go.Rf

/- Regions that draw their order, part 8: an operation pulled to the front. -/
namespace Go.Rf
open Go.RowKit
set_option linter.unusedSectionVars false
variable [LowTab]

def chain {S : Type} (E : Nat → S → Option S) : List Nat → S → Option S
  | [], s => some s
  | i :: r, s => (E i s).bind (chain E r)

theorem chain_append {S : Type} {E : Nat → S → Option S} : ∀ (l r : List Nat) (s : S), chain E (l ++ r) s = (chain E l s).bind (chain E r)
  | [], r, s => rfl
  | i :: l, r, s => by
    simp only [List.cons_append, chain]
    rw [Option.bind_assoc]
    congr 1
    funext s'
    exact chain_append l r s'

theorem pull {S : Type} {E : Nat → S → Option S} {Ok : S → Prop} {Ind : Nat → Nat → Prop} (hn : ∀ k s s', Ok s → E k s = some s' → Ok s')
    (hs : ∀ k i s s1 s2, Ok s → E k s = some s1 → E i s1 = some s2 → Ind k i → ∃ s1', E i s = some s1' ∧ E k s1' = some s2) {i : Nat} {r : List Nat} : ∀ (l : List Nat) (s sf : S), (∀ k ∈ l, Ind k i) → Ok s → chain E (l ++ i :: r) s = some sf → chain E (i :: (l ++ r)) s = some sf
  | [], s, sf, _, _, h => h
  | k :: l, s, sf, hi, hok, h => by
    simp only [List.cons_append, chain] at h
    obtain ⟨s1, h1, h2⟩ := Option.bind_eq_some_iff.1 h
    have h3 := pull hn hs l s1 sf (fun k hk => hi k (List.mem_cons_of_mem _ hk)) (hn k s s1 hok h1) h2
    simp only [chain] at h3
    obtain ⟨s2, h4, h5⟩ := Option.bind_eq_some_iff.1 h3
    obtain ⟨s1', h6, h7⟩ := hs k i s s1 s2 hok h1 h4 (hi k (List.mem_cons_self ..))
    simp only [List.cons_append, chain]
    rw [h6]
    simp only [Option.bind_some]
    rw [h7]
    exact h5

end Go.Rf

/- Regions that draw their order, part 9: two operations of a region change places. -/
namespace Go.Rf
open Go.RowKit
set_option linter.unusedSectionVars false
variable [LowTab]

section
variable {P : Program} {B : Nat} {cx : Cx} {ro rb : Nat → Bool} {ops : Array Oper}

theorem swap_oper {nb : Nat} (hpr : ∀ b, b < nb → rb b = true) (hcons : ∀ n c, getCon cx.cons n = some c → ∃ g f, c = mkCon g f) {strict : Bool} {ht : HT} {k i : Nat} {x y : Oper} {s s1 s2 : St}
    (h1 : operF cx ro rb (chkDraw cx nb strict) ht ops.toList k x s = some s1) (h2 : operF cx ro rb (chkDraw cx nb strict) ht ops.toList i y s1 = some s2) (l1 : Low nb s.st s1.st) (l2 : Low nb s1.st s2.st)
    (a1 : x.apart ops y = true) (a2 : y.apart ops x = true)
    (hS : (isEff cx.tt x.op = false ∨ (strict = true ∧ isAlloc x.op = false)) ∨ (isEff cx.tt y.op = false ∨ (strict = true ∧ isAlloc y.op = false))) :
    ∃ s1', operF cx ro rb (chkDraw cx nb strict) ht ops.toList i y s = some s1' ∧ operF cx ro rb (chkDraw cx nb strict) ht ops.toList k x s1' = some s2 := by
  rw [operF_eq] at h1 h2
  obtain ⟨⟨vx, st1⟩, e1, p1⟩ := Option.bind_eq_some_iff.1 h1
  obtain ⟨⟨vy, st2⟩, e2, p2⟩ := Option.bind_eq_some_iff.1 h2
  rw [putS_eq] at p1 p2
  cases okx : okDst ro x with
  | false => rw [okx] at p1; cases p1
  | true =>
    cases oky : okDst ro y with
    | false => rw [oky] at p2; cases p2
    | true =>
      rw [okx] at p1
      rw [oky] at p2
      simp only [cond_true, Option.some.injEq] at p1 p2
      subst p1
      subst p2
      obtain ⟨st1', e3, e4⟩ := swap_act (sl := s.sl) (st := s.st) hpr hcons e1 e2 l1 l2 (Oper.apart_spec a1).1 (Oper.apart_spec a2).1 hS
      refine ⟨⟨setS y vy s.sl, st1'⟩, ?_, ?_⟩
      · rw [operF_eq]
        have e3' : actF cx rb (chkDraw cx nb strict) (ht.at i) ops.toList y s = some (vy, st1') := e3
        rw [e3']
        simp only [Option.bind_some, putS_eq, oky, cond_true]
      · rw [operF_eq, e4]
        simp only [Option.bind_some, putS_eq, okx, cond_true]
        rw [setS_comm (Oper.apart_spec a1).2.1]

end
end Go.Rf

/- Regions that draw their order, part 10: what was looked at ahead. -/
namespace Go.Rf
open Go.RowKit
set_option linter.unusedSectionVars false
variable [LowTab]

section
variable {tt : TT} {ops : Array Oper}

theorem drawPairs_get {di : List Nat} {oi : Oper} : ∀ {l : List Oper} {k0 k : Nat} {x : Oper}, drawPairs tt ops di oi k0 l = true → l[k]? = some x → drawPair tt ops di oi (k0 + k) x = true
  | [], _, _, _, _, h => by simp at h
  | y :: l, k0, 0, x, h, hk => by
    simp only [List.getElem?_cons_zero, Option.some.injEq] at hk
    subst hk
    simp only [drawPairs, Bool.and_eq_true] at h
    exact h.1
  | y :: l, k0, k + 1, x, h, hk => by
    simp only [drawPairs, Bool.and_eq_true] at h
    have := drawPairs_get h.2 (by simpa using hk)
    have e : k0 + 1 + k = k0 + (k + 1) := by omega
    rw [← e]
    exact this

theorem drawAll_get {deps : List (List Nat)} {hd : Nat} : ∀ {l : List Oper} {i0 i : Nat} {o : Oper}, drawAll tt ops deps hd i0 l = true → l[i]? = some o →
    (∀ e ∈ o.after.toList, Region.binds .any e = true → e.on < i0 + i) ∧
      (if i0 + i < hd then drawPairs tt ops (deps.getD (i0 + i) []) o 0 (ops.toList.take (i0 + i)) = true else ∀ k, k < i0 + i → k ∈ deps.getD (i0 + i) [])
  | [], _, _, _, _, h => by simp at h
  | y :: l, i0, 0, o, h, hi => by
    simp only [List.getElem?_cons_zero, Option.some.injEq] at hi
    subst hi
    simp only [drawAll, Bool.and_eq_true] at h
    obtain ⟨⟨h1, h2⟩, _⟩ := h
    rw [Nat.add_zero]
    refine ⟨fun e he hb => ?_, ?_⟩
    · have := List.all_eq_true.1 h1 e he
      rw [hb] at this
      simp only [Bool.not_true, Bool.false_or] at this
      exact Nat.le_of_ble_eq_true this
    · by_cases hlt : i0 < hd
      · rw [if_pos hlt]
        have hb : Nat.blt i0 hd = true := Nat.ble_eq_true_of_le hlt
        rw [hb] at h2
        exact h2
      · rw [if_neg hlt]
        have hb : Nat.blt i0 hd = false := by
          cases hh : Nat.blt i0 hd with
          | false => rfl
          | true => exact absurd (Nat.le_of_ble_eq_true hh) hlt
        rw [hb] at h2
        intro k hk
        have := List.all_eq_true.1 h2 k (List.mem_range.2 hk)
        simpa using this
  | y :: l, i0, i + 1, o, h, hi => by
    simp only [drawAll, Bool.and_eq_true] at h
    have := drawAll_get h.2 (by simpa using hi)
    have e : i0 + 1 + i = i0 + (i + 1) := by omega
    rw [e] at this
    exact this

end
end Go.Rf

/- Regions that draw their order, part 11: what an operation waits for. -/
namespace Go.Rf
open Go.RowKit
set_option linter.unusedSectionVars false
variable [LowTab]

/-- All that an operation waits for is there, if what it names is there and the set is closed. -/
theorem mem_ddup {q : Nat} : ∀ {l acc : List Nat}, q ∈ ddup acc l → q ∈ acc ∨ q ∈ l
  | [], _, h => .inl h
  | x :: l, acc, h => by
    unfold ddup at h
    cases hc : acc.contains x with
    | true =>
      rw [hc] at h
      rcases mem_ddup h with h | h
      · exact .inl h
      · exact .inr (List.mem_cons_of_mem _ h)
    | false =>
      rw [hc] at h
      rcases mem_ddup h with h | h
      · rcases List.mem_cons.1 h with rfl | h
        · exact .inr (List.mem_cons_self ..)
        · exact .inl h
      · exact .inr (List.mem_cons_of_mem _ h)

theorem depsOf_closed {L : Nat → Prop} : ∀ (l : List Oper) (acc : List (List Nat)) (ops : List Oper), ops.drop acc.length = l → acc.length ≤ ops.length →
    (∀ i o, ops[i]? = some o → L i → ∀ e ∈ o.after.toList, Region.binds .any e = true → L e.on) →
    (∀ i o, i < acc.length → ops[i]? = some o → (∀ e ∈ o.after.toList, Region.binds .any e = true → L e.on) → ∀ k ∈ acc.getD i [], L k) →
    ∀ i o, ops[i]? = some o → (∀ e ∈ o.after.toList, Region.binds .any e = true → L e.on) → ∀ k ∈ (depsOf acc l).getD i [], L k
  | [], acc, ops, hd, hle, hcl, hacc, i, o, ho, hA, k, hk => by
    simp only [depsOf] at hk
    have hlt : i < acc.length := by
      have h1 := (List.getElem?_eq_some_iff.1 ho).1
      have h2 := congrArg List.length hd
      rw [List.length_drop, List.length_nil] at h2
      omega
    exact hacc i o hlt ho hA k hk
  | y :: l, acc, ops, hd, hle, hcl, hacc, i, o, ho, hA, k, hk => by
    simp only [depsOf] at hk
    have hy : ops[acc.length]? = some y := by
      have := congrArg (·[0]?) hd
      simpa using this
    have hlt : acc.length < ops.length := (List.getElem?_eq_some_iff.1 hy).1
    refine depsOf_closed l _ ops ?_ ?_ hcl ?_ i o ho hA k hk
    · rw [List.length_append, List.length_singleton, ← List.drop_drop, hd]
      rfl
    · rw [List.length_append, List.length_singleton]; omega
    · intro j o' hj ho' hA' q hq
      rw [List.length_append, List.length_singleton] at hj
      rcases Nat.lt_or_ge j acc.length with h1 | h1
      · rw [List.getD_eq_getElem?_getD, List.getElem?_append_left h1, ← List.getD_eq_getElem?_getD] at hq
        exact hacc j o' h1 ho' hA' q hq
      · have hj' : j = acc.length := by omega
        subst hj'
        rw [hy] at ho'
        simp only [Option.some.injEq] at ho'
        subst ho'
        rw [List.getD_eq_getElem?_getD, List.getElem?_append_right (Nat.le_refl _), Nat.sub_self] at hq
        simp only [List.getElem?_cons_zero, Option.getD_some] at hq
        obtain ⟨e, he, hqe⟩ := List.mem_flatMap.1 ((mem_ddup hq).resolve_left (by simp))
        obtain ⟨he1, he2⟩ := List.mem_filter.1 he
        rcases List.mem_cons.1 hqe with rfl | hqe
        · exact hA' e he1 he2
        · have hL := hA' e he1 he2
          rcases Nat.lt_or_ge e.on acc.length with h2 | h2
          · have hlt2 : e.on < ops.length := by omega
            exact hacc e.on _ h2 (List.getElem?_eq_getElem hlt2) (hcl e.on _ (List.getElem?_eq_getElem hlt2) hL) q hqe
          · rw [List.getD_eq_getElem?_getD, List.getElem?_eq_none h2] at hqe
            simp at hqe

end Go.Rf

/- Regions that draw their order, part 12: those that are left. -/
namespace Go.Rf
open Go.RowKit
set_option linter.unusedSectionVars false
variable [LowTab]

/-- The operations that are left. -/
def left (n : Nat) (listed : Array Bool) : List Nat := (List.range n).filter fun i => !listed.getD i true

theorem filter_split {p : Nat → Bool} : ∀ {l : List Nat} {i : Nat}, l.Pairwise (· < ·) → i ∈ l → p i = true → ∃ l1 l2, l.filter p = l1 ++ i :: l2 ∧ (∀ k ∈ l1, k < i ∧ p k = true) ∧ l.filter (fun k => p k && k != i) = l1 ++ l2
  | [], _, _, h, _ => by simp at h
  | a :: l, i, hs, h, hp => by
    rw [List.pairwise_cons] at hs
    rcases List.mem_cons.1 h with rfl | h'
    · refine ⟨[], l.filter p, by rw [List.filter_cons, if_pos hp]; rfl, by simp, ?_⟩
      rw [List.filter_cons, if_neg (by simp)]
      simp only [List.nil_append]
      apply List.filter_congr
      intro k hk
      have := hs.1 k hk
      have hne : k ≠ i := by omega
      simp [hne]
    · obtain ⟨l1, l2, h1, h2, h3⟩ := filter_split hs.2 h' hp
      have hai := hs.1 i h'
      have hne : a ≠ i := by omega
      cases hpa : p a with
      | true =>
        refine ⟨a :: l1, l2, by rw [List.filter_cons, if_pos hpa, h1]; rfl, ?_, by rw [List.filter_cons, if_pos (by simp [hpa, hne]), h3]; rfl⟩
        intro k hk
        rcases List.mem_cons.1 hk with rfl | hk
        · exact ⟨hai, hpa⟩
        · exact h2 k hk
      | false => exact ⟨l1, l2, by rw [List.filter_cons, if_neg (by simp [hpa]), h1], h2, by rw [List.filter_cons, if_neg (by simp [hpa]), h3]⟩

end Go.Rf

/- Regions that draw their order, part 13: every order. -/
namespace Go.Rf
open Go.RowKit
set_option linter.unusedSectionVars false
variable [LowTab]

section
variable {P : Program} {ops : Array Oper} {Q : Exit → Act → World → Prop}

theorem left_set {n i : Nat} {listed : Array Bool} (hi : i < listed.size) : left n (listed.setIfInBounds i true) = (List.range n).filter fun k => (!listed.getD k true) && k != i := by
  unfold left
  apply List.filter_congr
  intro k _
  by_cases e : i = k
  · subst e
    simp [hi]
  · rw [getD_set_ne true e]
    have : (k != i) = true := by simpa using Ne.symm e
    rw [this, Bool.and_true]

theorem any_generic {S : Type} {E : Nat → S → Option S} {Rel : S → Act → World → Prop} {Ind : Nat → Nat → Prop} {sf : S}
    (step : ∀ i s s' a w next, i < ops.size → Rel s a w → E i s = some s' → (∀ a' w', Rel s' a' w' → next a' w') → wpOp P ops Q i next a w)
    (hn : ∀ k s s', (∃ a w, Rel s a w) → E k s = some s' → ∃ a w, Rel s' a w)
    (hs : ∀ k i s s1 s2, (∃ a w, Rel s a w) → E k s = some s1 → E i s1 = some s2 → Ind k i → ∃ s1', E i s = some s1' ∧ E k s1' = some s2)
    (hind : ∀ listed : Array Bool, listed.size = ops.size → (∀ i o, ops[i]? = some o → listed.getD i false = true → ∀ e ∈ o.after, Region.binds .any e = true → listed.getD e.on false = true) →
      ∀ k i, i ∈ Region.ready .any ops listed → k < i → listed.getD k true = false → Ind k i)
    (hback : ∀ i o, ops[i]? = some o → ∀ e ∈ o.after, Region.binds .any e = true → e.on < i)
    (hQ : ∀ a w, Rel sf a w → Q .normal a w) :
    ∀ (fuel : Nat) (listed : Array Bool) (s : S) (a : Act) (w : World), listed.size = ops.size →
      (∀ i o, ops[i]? = some o → listed.getD i false = true → ∀ e ∈ o.after, Region.binds .any e = true → listed.getD e.on false = true) →
      chain E (left ops.size listed) s = some sf → Rel s a w → (left ops.size listed).length ≤ fuel → wpAny P .any ops Q fuel listed a w := by
  have none_left : ∀ (listed : Array Bool), listed.size = ops.size → Region.ready .any ops listed = [] → left ops.size listed = [] := by
    intro listed hsz hr
    refine List.filter_eq_nil_iff.2 fun i hi => ?_
    rw [List.mem_range] at hi
    induction i using Nat.strongRecOn with
    | _ i ih =>
      intro hu
      have hu' : listed.getD i true = false := by simpa using hu
      have hin : i ∈ Region.ready .any ops listed := by
        refine mem_ready.2 ⟨hu', ops[i], Array.getElem?_eq_getElem hi, fun e he hb => ?_⟩
        have hlt := hback i _ (Array.getElem?_eq_getElem hi) e he hb
        have hl := ih e.on hlt (by omega)
        have hsz' : e.on < listed.size := by omega
        have h2 : listed.getD e.on true = true := by
          cases hh : listed.getD e.on true with
          | true => rfl
          | false => rw [hh] at hl; simp at hl
        simpa [Array.getD_eq_getD_getElem?, Array.getElem?_eq_getElem hsz'] using h2
      rw [hr] at hin
      simp at hin
  intro fuel
  induction fuel with
  | zero =>
    intro listed s a w hsz hcl hc hR hf
    have h0 : left ops.size listed = [] := List.eq_nil_of_length_eq_zero (by omega)
    rw [h0] at hc
    simp only [chain, Option.some.injEq] at hc
    subst hc
    refine ⟨?_, hQ a w hR⟩
    refine List.filter_eq_nil_iff.2 fun i hi hh => ?_
    have hu := (mem_ready.1 (List.mem_filter.2 ⟨hi, hh⟩)).1
    have : i ∈ left ops.size listed := List.mem_filter.2 ⟨hi, by simpa using hu⟩
    rw [h0] at this
    simp at this
  | succ fuel ih =>
    intro listed s a w hsz hcl hc hR hf
    refine ⟨fun hr => ?_, fun i hi => ?_⟩
    · rw [none_left listed hsz hr] at hc
      simp only [chain, Option.some.injEq] at hc
      subst hc
      exact hQ a w hR
    · obtain ⟨hu, o, ho, hall⟩ := mem_ready.1 hi
      have hlt : i < ops.size := (Array.getElem?_eq_some_iff.1 ho).1
      obtain ⟨l1, l2, h1, h2, h3⟩ := filter_split (p := fun k => !listed.getD k true) List.pairwise_lt_range (List.mem_range.2 hlt) (by simpa using hu)
      have hl : left ops.size listed = l1 ++ i :: l2 := h1
      rw [hl] at hc hf
      have hp := pull (Ok := fun s => ∃ a w, Rel s a w) (Ind := Ind) hn hs l1 s sf (fun k hk => hind listed hsz hcl k i hi (h2 k hk).1 (by simpa using (h2 k hk).2)) ⟨a, w, hR⟩ hc
      simp only [chain] at hp
      obtain ⟨s', e1, e2⟩ := Option.bind_eq_some_iff.1 hp
      refine step i s s' a w _ hlt hR e1 fun a' w' hR' => ?_
      have hset : left ops.size (listed.setIfInBounds i true) = l1 ++ l2 := (left_set (by omega)).trans h3
      refine ih _ s' a' w' (by simpa using hsz) ?_ (by rw [hset]; exact e2) hR' ?_
      · intro j oj hj hlj e he hb
        by_cases ej : i = j
        · subst ej
          rw [ho] at hj
          simp only [Option.some.injEq] at hj
          subst hj
          exact getD_set_true (hall e he hb)
        · rw [getD_set_ne false ej] at hlj
          exact getD_set_true (hcl j oj hj hlj e he hb)
      · rw [hset]
        rw [List.length_append, List.length_cons] at hf
        rw [List.length_append]
        omega

end
end Go.Rf

/- Regions that draw their order, part 14: DrawOK. -/
namespace Go.Rf
open Go.RowKit
set_option linter.unusedSectionVars false
variable [LowTab]

section
variable {P : Program} {B : Nat} {cx : Cx}

/-- One operation of a region that draws its order. -/
def regE (cx : Cx) (ro rb : Nat → Bool) (ht : HT) (ops : Array Oper) (nb : Nat) (strict : Bool) (hd : Nat) (i : Nat) (s : St) : Option St :=
  match ops[i]? with
  | some o => if i < hd then operF cx ro (fun b => rb b || Nat.blt b nb) (chkDraw cx nb strict) ht ops.toList i o s else operF cx ro rb (fun _ _ => true) ht ops.toList i o s
  | none => none

theorem opsF_chain {ro rb : Nat → Bool} {chk : St → Op → Bool} {h : HT} {all : List Oper} {E : Nat → St → Option St} : ∀ (l : List Oper) (i : Nat) (s : St), (∀ k o, l[k]? = some o → ∀ s, E (i + k) s = operF cx ro rb chk h all (i + k) o s) → opsF cx ro rb chk h all i l s = chain E (List.range' i l.length) s
  | [], _, _, _ => rfl
  | o :: l, i, s, hE => by
    simp only [opsF, List.length_cons, List.range'_succ, chain]
    have h0 : E i s = operF cx ro rb chk h all i o s := hE 0 o rfl s
    rw [h0]
    congr 1
    funext s'
    refine opsF_chain l (i + 1) s' fun k o' hk s => ?_
    have := hE (k + 1) o' (by simpa using hk) s
    have e : i + 1 + k = i + (k + 1) := by omega
    rw [e]
    exact this

end
end Go.Rf

/- Regions that draw their order, part 15: DrawOK. -/
namespace Go.Rf
open Go.RowKit
set_option linter.unusedSectionVars false
variable [LowTab]

section
variable {P : Program} {B : Nat} {cx : Cx}

/-- One draw more: nothing else. -/
theorem drawn_after {ro rb : Nat → Bool} {G : Gh} {s : St} {w : World} {a : Act} (hM : SimM cx.tt B G s.st w) (hF : SimF G s.st w s.sl a.tmps) (n : Nat) : After P cx B ro rb G s w a s a { w with drawn := n } := by
  have hext : ∀ c v, RCV G s.st w c v → RCV G s.st { w with drawn := n } c v := RCV.evolve (fun _ h => h) (fun _ _ => rfl) (Nat.le_refl _) (fun _ _ _ h => h) (fun b blk h => ⟨blk, h, BEv.refl rfl blk (fun _ _ _ _ => trivial)⟩)
  have hM' : SimM cx.tt B G s.st { w with drawn := n } := ⟨fun b blk h => (hM.blks b blk h).keep rfl (fun _ h => h) (fun _ _ => rfl) (Nat.le_refl _) (fun _ _ => rfl) hext, hM.disj, hM.own, hM.slt, hM.base⟩
  exact ⟨KeepT.refl a, G, hM', hF.ext hext, ⟨rfl, rfl, rfl, Nat.le_refl _, fun _ _ _ => rfl, fun _ _ _ => ⟨rfl, rfl⟩, Nat.le_refl _, hext, fun _ h => .inl h, fun _ h => h, fun b blk h => ⟨blk, h, KEv.refl blk⟩, fun b' blk' g h1 h2 h3 => .inr ⟨b', blk', h1, h2, h3⟩⟩⟩

end
end Go.Rf

/- Regions that draw their order, part 16: DrawOK. -/
namespace Go.Rf
open Go.RowKit
set_option linter.unusedSectionVars false
variable [LowTab]

section
variable {P : Program} {B : Nat} {cx : Cx}

theorem tailAt_le {deps : List (List Nat)} : ∀ n, tailAt deps n ≤ n
  | 0 => Nat.le_refl _
  | n + 1 => by
    simp only [tailAt]
    cases (List.range n).all fun k => (deps.getD n []).contains k with
    | true => exact Nat.le_succ_of_le (tailAt_le n)
    | false => exact Nat.le_refl _

/-- Which pairs may change places. -/
def IndP (cx : Cx) (ops : Array Oper) (hd : Nat) (k i : Nat) : Prop :=
  i < hd ∧ k < i ∧ ∃ x y, ops[k]? = some x ∧ ops[i]? = some y ∧ x.apart ops y = true ∧ y.apart ops x = true ∧
    ((isEff cx.tt x.op = false ∨ (strictOf ops = true ∧ isAlloc x.op = false)) ∨ (isEff cx.tt y.op = false ∨ (strictOf ops = true ∧ isAlloc y.op = false)))

theorem regE_after (hcx : CxOK P B cx) {ops : Array Oper} {ro rb : Nat → Bool} {ht : HT} {nb : Nat} {strict : Bool} {hd i : Nat} {σ σ' : St} (hE : regE cx ro rb ht ops nb strict hd i σ = some σ') {G : Gh} {w : World} {a : Act} (hnb : nb ≤ σ.st.length)
    (hrb : ∀ b, rb b = true → b < nb) (hM : SimM cx.tt B G σ.st w) (hF : SimF G σ.st w σ.sl a.tmps) {next : Act → World → Prop} {Q : Exit → Act → World → Prop} (hn : ∀ a' w', After P cx B ro rb G σ w a σ' a' w' → next a' w') : ∃ o, ops[i]? = some o ∧ OpNext P ops o a w next Q := by
  unfold regE at hE
  cases ho : ops[i]? with
  | none => rw [ho] at hE; cases hE
  | some o =>
    rw [ho] at hE
    refine ⟨o, rfl, ?_⟩
    simp only [] at hE
    by_cases hi : i < hd
    · rw [if_pos hi] at hE
      refine oper_sound hcx hE (fun b hb => ?_) hM hF fun a' w' hA => hn a' w' ?_
      · simp only [Bool.or_eq_true] at hb
        rcases hb with hb | hb
        · exact Nat.lt_of_lt_of_le (hrb b hb) hnb
        · exact Nat.lt_of_lt_of_le (Nat.le_of_ble_eq_true hb) hnb
      · obtain ⟨k1, G1, k2, k3, k4⟩ := hA
        refine ⟨k1, G1, k2, k3, k4.weaken (fun b hb => by simp [hb]) fun b hb hb' => ?_⟩
        simp only [hb', Bool.false_or] at hb
        exact Nat.lt_of_lt_of_le (Nat.le_of_ble_eq_true hb) hnb
    · rw [if_neg hi] at hE
      exact oper_sound hcx hE (fun b hb => Nat.lt_of_lt_of_le (hrb b hb) hnb) hM hF hn

theorem regE_low (hcx : CxOK P B cx) {ops : Array Oper} {ro rb : Nat → Bool} {ht : HT} {nb : Nat} {strict : Bool} {hd i : Nat} {σ σ' : St} (hE : regE cx ro rb ht ops nb strict hd i σ = some σ') (hi : i < hd) {G : Gh} {w : World} {a : Act} (hnb : nb ≤ σ.st.length)
    (hrb : ∀ b, rb b = true → b < nb) (hM : SimM cx.tt B G σ.st w) (hF : SimF G σ.st w σ.sl a.tmps) : Low nb σ.st σ'.st := by
  unfold regE at hE
  cases ho : ops[i]? with
  | none => rw [ho] at hE; cases hE
  | some o =>
    rw [ho] at hE
    simp only [] at hE
    rw [if_pos hi] at hE
    obtain ⟨a', w', k1, G1, k2, k3, k4⟩ := oper_exists hcx hE (fun b hb => by
      simp only [Bool.or_eq_true] at hb
      rcases hb with hb | hb
      · exact Nat.lt_of_lt_of_le (hrb b hb) hnb
      · exact Nat.lt_of_lt_of_le (Nat.le_of_ble_eq_true hb) hnb) hM hF
    intro b hb
    exact (k4.keep b (by simp [Nat.ble_eq_true_of_le (show b + 1 ≤ nb from hb), Nat.blt]) (by omega)).1

theorem draw_ok (hm : P.follows .mixedOrders = true) : DrawOK P := by
  intro B cx hcx id ops ro rb ht s ex sf h G w a hrb hM hF
  have hcons : ∀ n c, getCon cx.cons n = some c → ∃ g f, c = mkCon g f := fun n c hc => by
    obtain ⟨_, g, f, e, _⟩ := hcx.cons n c hc
    exact ⟨g, f, e⟩
  simp only [codeF, evalC, cond_true] at h
  cases hdr : drawOK cx.tt ops with
  | false => rw [hdr] at h; cases h
  | true =>
    rw [hdr] at h
    simp only [cond_true] at h
    rw [evalOps_bind hcx.inlB] at h
    obtain ⟨s1, e1, h⟩ := Option.bind_eq_some_iff.1 h
    rw [evalOps_bind hcx.inlB] at h
    obtain ⟨s2, e2, h⟩ := Option.bind_eq_some_iff.1 h
    simp only [Option.some.injEq, Prod.mk.injEq] at h
    obtain ⟨rfl, rfl⟩ := h
    have hle : headOf ops ≤ ops.size := tailAt_le _
    have c1 : chain (regE cx ro rb ht ops s.st.length (strictOf ops) (headOf ops)) (List.range' 0 (headOf ops)) s = some s1 := by
      rw [opsF_chain (E := regE cx ro rb ht ops s.st.length (strictOf ops) (headOf ops)) _ _ _ (fun k o hk s0 => ?_)] at e1
      · rw [List.length_take, Array.length_toList, Nat.min_eq_left hle] at e1
        exact e1
      · rw [List.getElem?_take] at hk
        split at hk
        · rename_i hlt
          rw [Array.getElem?_toList] at hk
          unfold regE
          rw [Nat.zero_add, hk]
          simp only []
          rw [if_pos hlt]
        · cases hk
    have c2 : chain (regE cx ro rb ht ops s.st.length (strictOf ops) (headOf ops)) (List.range' (headOf ops) (ops.size - headOf ops)) s1 = some s2 := by
      rw [opsF_chain (E := regE cx ro rb ht ops s.st.length (strictOf ops) (headOf ops)) _ _ _ (fun k o hk s0 => ?_)] at e2
      · rw [List.length_drop, Array.length_toList] at e2
        exact e2
      · rw [List.getElem?_drop, Array.getElem?_toList] at hk
        unfold regE
        rw [hk]
        simp only []
        rw [if_neg (by omega)]
    have c3 : chain (regE cx ro rb ht ops s.st.length (strictOf ops) (headOf ops)) (left ops.size (Array.replicate ops.size false)) s = some s2 := by
      have : left ops.size (Array.replicate ops.size false) = List.range' 0 (headOf ops) ++ List.range' (headOf ops) (ops.size - headOf ops) := by
        unfold left
        rw [List.filter_eq_self.2 (fun i hi => by
          rw [List.mem_range] at hi
          simp [Array.getD_eq_getD_getElem?, hi])]
        rw [List.range_eq_range']
        have := List.range'_append (s := 0) (m := headOf ops) (n := ops.size - headOf ops) (step := 1)
        rw [Nat.one_mul, Nat.zero_add] at this
        rw [this]
        congr 1
        omega
      rw [this, chain_append, c1]
      exact c2
    obtain ⟨hd1, hd2⟩ := (Bool.and_eq_true_iff.1 hdr)
    refine wp_region_any hm ?_
    refine any_generic (S := St) (E := regE cx ro rb ht ops s.st.length (strictOf ops) (headOf ops)) (Rel := fun σ a' w' => After P cx B ro rb G s w a σ a' w') (Ind := IndP cx ops (headOf ops)) (sf := s2)
      ?gstep ?hn ?hs ?hind ?hback ?hQ ops.size _ s a _ (by simp) ?hcl c3 (drawn_after hM hF _) ?hf
    case gstep =>
      intro i σ σ' a' w' next hi hR hE hnext
      obtain ⟨k1, G1, k2, k3, k4⟩ := hR
      obtain ⟨o, ho, hop⟩ := regE_after (Q := Res P cx B ro rb G s w a .normal s2) hcx hE k4.len hrb k2 k3 (next := next) fun a2 w2 hA => hnext a2 w2 (hA.trans k1 k4)
      unfold wpOp
      rw [ho]
      simp only []
      unfold OpNext at hop
      split
      · rename_i hw
        rw [if_pos hw] at hop
        exact .inl hop
      · rename_i hw
        rw [if_neg hw] at hop
        exact hop
    case hn =>
      intro k σ σ' ⟨a', w', hR⟩ hE
      obtain ⟨k1, G1, k2, k3, k4⟩ := hR
      obtain ⟨o, ho, hop⟩ := regE_after (Q := fun _ _ _ => False) hcx hE k4.len hrb k2 k3 (next := fun a2 w2 => After P cx B ro rb G s w a σ' a2 w2) fun a2 w2 hA => hA.trans k1 k4
      unfold OpNext at hop
      split at hop
      · exact wp_exists hop
      · exact ⟨_, _, hop⟩
    case hs =>
      intro k i σ σ1 σ2 ⟨a', w', hR⟩ h1 h2 ⟨hi, hki, x, y, hx, hy, a1, a2, hS⟩
      obtain ⟨k1, G1, k2, k3, k4⟩ := hR
      have hk : k < headOf ops := by omega
      have l1 := regE_low hcx h1 hk k4.len hrb k2 k3
      obtain ⟨o, ho, hop⟩ := regE_after (Q := fun _ _ _ => False) hcx h1 k4.len hrb k2 k3 (next := fun a2 w2 => After P cx B ro rb G s w a σ1 a2 w2) fun a2 w2 hA => hA.trans k1 k4
      have hex : ∃ a2 w2, After P cx B ro rb G s w a σ1 a2 w2 := by
        unfold OpNext at hop
        split at hop
        · exact wp_exists hop
        · exact ⟨_, _, hop⟩
      obtain ⟨a3, w3, j1, G3, j2, j3, j4⟩ := hex
      have l2 := regE_low hcx h2 hi j4.len hrb j2 j3
      unfold regE at h1 h2
      rw [hx] at h1
      rw [hy] at h2
      simp only [] at h1 h2
      rw [if_pos hk] at h1
      rw [if_pos hi] at h2
      obtain ⟨s1', e1, e2⟩ := swap_oper (fun b hb => by simp [Nat.blt, Nat.ble_eq_true_of_le (show b + 1 ≤ s.st.length from hb)]) hcons h1 h2 l1 l2 a1 a2 hS
      refine ⟨s1', ?_, ?_⟩
      · unfold regE
        rw [hy]
        simp only []
        rw [if_pos hi]
        exact e1
      · unfold regE
        rw [hx]
        simp only []
        rw [if_pos hk]
        exact e2
    case hind =>
      intro listed hsz hcl k i hi hki hkl
      obtain ⟨hu, o, ho, hall⟩ := mem_ready.1 hi
      have hlt : i < ops.size := (Array.getElem?_eq_some_iff.1 ho).1
      have hkl' : listed.getD k false = false := by
        have hk : k < listed.size := by omega
        rw [Array.getD_eq_getD_getElem?, Array.getElem?_eq_getElem hk] at hkl ⊢
        exact hkl
      have hclosed : ∀ k ∈ (depsOf [] ops.toList).getD i [], listed.getD k false = true := by
        refine depsOf_closed (L := fun k => listed.getD k false = true) ops.toList [] ops.toList rfl (Nat.zero_le _) ?_ ?_ i o (by rw [Array.getElem?_toList]; exact ho) ?_
        · intro i o ho hl e he hb
          rw [Array.getElem?_toList] at ho
          exact hcl i o ho hl e (Array.mem_toList_iff.1 he) hb
        · intro i o hi
          simp at hi
        · intro e he hb
          exact hall e (Array.mem_toList_iff.1 he) hb
      have hnot : ((depsOf [] ops.toList).getD i []).contains k = false := by
        cases hc : ((depsOf [] ops.toList).getD i []).contains k with
        | false => rfl
        | true =>
          rw [hclosed k (by simpa using hc)] at hkl'
          cases hkl'
      have hg := (drawAll_get hd2 (i := i) (o := o) (by rw [Array.getElem?_toList]; exact ho)).2
      rw [Nat.zero_add] at hg
      by_cases hih : i < headOf ops
      · have hih' : i < tailAt (depsOf [] ops.toList) ops.size := hih
        rw [if_pos hih'] at hg
        have hk : k < ops.size := by omega
        have hp := drawPairs_get (k := k) (x := ops[k]) hg (by
          rw [List.getElem?_take, if_pos hki, Array.getElem?_toList, Array.getElem?_eq_getElem hk])
        rw [Nat.zero_add] at hp
        unfold drawPair at hp
        rw [hnot] at hp
        simp only [Bool.false_or, Bool.and_eq_true, Bool.or_eq_true, Bool.not_eq_true', bne_iff_ne, ne_eq] at hp
        obtain ⟨⟨p1, p2⟩, p3⟩ := hp
        refine ⟨hih, hki, ops[k], o, Array.getElem?_eq_getElem hk, ho, p2, p1, ?_⟩
        rcases p3 with p3 | p3
        · rcases Bool.and_eq_false_iff.1 p3 with q | q
          · exact .inl (.inl q)
          · exact .inr (.inl q)
        · have hmem : ∀ j oj, j < headOf ops → ops[j]? = some oj → isAlloc oj.op = true → strictOf ops = true := by
            intro j oj hj hoj hal
            unfold strictOf
            refine List.any_eq_true.2 ⟨oj, ?_, hal⟩
            refine List.mem_of_getElem? (i := j) ?_
            rw [List.getElem?_take, if_pos hj, Array.getElem?_toList]
            exact hoj
          cases hx : isAlloc (ops[k]).op with
          | true =>
            cases hy : isAlloc o.op with
            | true => rw [hx, hy] at p3; exact absurd rfl p3
            | false => exact .inr (.inr ⟨hmem k _ (by omega) (Array.getElem?_eq_getElem hk) hx, rfl⟩)
          | false =>
            cases hy : isAlloc o.op with
            | true => exact .inl (.inr ⟨hmem i o hih ho hy, rfl⟩)
            | false => rw [hx, hy] at p3; exact absurd rfl p3
      · have hih' : ¬ i < tailAt (depsOf [] ops.toList) ops.size := hih
        rw [if_neg hih'] at hg
        have := hg k hki
        rw [show ((depsOf [] ops.toList).getD i []).contains k = true from by simpa using this] at hnot
        cases hnot
    case hback =>
      intro i o ho e he hb
      have hg := (drawAll_get hd2 (i := i) (o := o) (by rw [Array.getElem?_toList]; exact ho)).1 e (Array.mem_toList_iff.2 he) hb
      rw [Nat.zero_add] at hg
      exact hg
    case hQ =>
      intro a' w' hR
      exact ⟨rfl, hR⟩
    case hcl =>
      intro i o ho hl
      have hlt : i < ops.size := (Array.getElem?_eq_some_iff.1 ho).1
      simp [Array.getD_eq_getD_getElem?, hlt] at hl
    case hf =>
      unfold left
      refine Nat.le_trans (List.length_filter_le _ _) ?_
      rw [List.length_range]
      exact Nat.le_refl _

end
end Go.Rf

/- The library's functions that have no body. -/
namespace Go.Rf
open Go.RowKit
set_option linter.unusedSectionVars false
variable [LowTab]

section
variable {P : Program}

def ExtSound (P : Program) (e : Ext) (ef : Array Value → Sem Value) : Prop :=
  ∀ (G : Gh) (st : List Blk) (w : World) (args : List SV) (vs : List Value) (av : AV), extA e args = some (true, av) → RSs G st w args vs → ∃ r, RAV G st w av r ∧ (ef vs.toArray).run P w = .ok r w

theorem ext_ok {n : FuncId} {e : Ext} {fn : Func} {ef : Array Value → Sem Value} (h1 : P.funcs[n]? = some fn) (h2 : (fn.name == "runtime.NumGoroutine") = false) (h3 : fn.body.isNone = true) (h4 : Extern.findNext fn = none) (h5 : Extern.find fn = some ef) (h6 : ExtSound P e ef) : ExtOK P n e :=
  ⟨fn, ef, h1, h2, h3, h4, h5, h6⟩

theorem rss3 {G : Gh} {st : List Blk} {w : World} {a b c : SV} {vs : List Value} (h : RSs G st w [a, b, c] vs) : ∃ x y z, vs = [x, y, z] ∧ RSV G st w a x ∧ RSV G st w b y ∧ RSV G st w c z := by
  match vs, h with
  | [x, y, z], h => exact ⟨x, y, z, rfl, h.1, h.2.1, h.2.2.1⟩
  | [], h => exact h.elim
  | [_], h => exact h.2.elim
  | [_, _], h => exact h.2.2.elim
  | _ :: _ :: _ :: _ :: _, h => exact h.2.2.2.elim

theorem rss2 {G : Gh} {st : List Blk} {w : World} {a b : SV} {vs : List Value} (h : RSs G st w [a, b] vs) : ∃ x y, vs = [x, y] ∧ RSV G st w a x ∧ RSV G st w b y := by
  match vs, h with
  | [x, y], h => exact ⟨x, y, rfl, h.1, h.2.1⟩
  | [], h => exact h.elim
  | [_], h => exact h.2.elim
  | _ :: _ :: _ :: _, h => exact h.2.2.elim

theorem rsv_int {G : Gh} {st : List Blk} {w : World} {k : IntKind} {x : Int} {v : Value} (h : RSV G st w (.c (.v (.int k) x)) v) : v = .int k x := by
  have h' : [v] = [Value.int k x] := h
  simpa using h'

theorem rsv_str {G : Gh} {st : List Blk} {w : World} {x : List UInt8} {v : Value} (h : RSV G st w (.c (.v .str x)) v) : v = .string ⟨x.toArray⟩ := by
  have h' : [v] = [Value.string ⟨x.toArray⟩] := h
  simpa using h'

theorem rav_int {G : Gh} {st : List Blk} {w : World} (k : IntKind) (x : Int) : RAV G st w (.int k x) (.int k x) := rfl

open Extern.MathBitsCarry in
theorem three_run (w : World) {nm : String} {k1 k2 k3 : IntKind} {x y c : Int} (hc : c.toNat ≤ 1) : (three nm #[.int k1 x, .int k2 y, .int k3 c]).run P w = .ok (x.toNat, y.toNat, c.toNat) w := by
  have h : ¬ c.toNat > 1 := by omega
  show Sem.run P (if c.toNat > 1 then _ else _ >>= fun _ => _) w = _
  rw [if_neg h]
  rfl

theorem pair_rel {G : Gh} {st : List Blk} {w : World} (a b : Nat) : RAV G st w (.tup [.c (.v (.int .u64) (a : Int)), .c (.v (.int .u64) (b : Int))]) (Extern.MathBitsCarry.pair a b) :=
  ⟨_, rfl, rfl, rfl, trivial⟩

open Extern.MathBitsCarry in
theorem add64_sound : ExtSound P .add64 (fun args => do
    let (x, y, c) ← three "Add64" args
    pure (pair ((x + y + c) % m64) ((x + y + c) / m64))) := by
  intro G st w args vs av h hr
  unfold extA at h
  split at h <;> try (rename_i he; cases he)
  · rename_i k1 x k2 y k3 c
    simp only [Option.some.injEq, Prod.mk.injEq, decide_eq_true_eq] at h
    obtain ⟨hc, rfl⟩ := h
    obtain ⟨v1, v2, v3, rfl, r1, r2, r3⟩ := rss3 hr
    cases rsv_int r1
    cases rsv_int r2
    cases rsv_int r3
    refine ⟨_, pair_rel _ _, ?_⟩
    simp only [Sem.run_bind, three_run w hc]
    rfl
  all_goals cases h

open Extern.MathBitsCarry in
theorem sub64_sound : ExtSound P .sub64 (fun args => do
    let (x, y, b) ← three "Sub64" args
    pure (pair ((x + m64 - y - b) % m64) (if x < y + b then 1 else 0))) := by
  intro G st w args vs av h hr
  unfold extA at h
  split at h <;> try (rename_i he; cases he)
  · rename_i k1 x k2 y k3 c
    simp only [Option.some.injEq, Prod.mk.injEq, decide_eq_true_eq] at h
    obtain ⟨hc, rfl⟩ := h
    obtain ⟨v1, v2, v3, rfl, r1, r2, r3⟩ := rss3 hr
    cases rsv_int r1
    cases rsv_int r2
    cases rsv_int r3
    refine ⟨_, pair_rel _ _, ?_⟩
    simp only [Sem.run_bind, three_run w hc]
    rfl
  all_goals cases h

theorem get_arr (l : List UInt8) (i : Nat) : (⟨l.toArray⟩ : ByteArray)[i]! = l.getD i 0 := by
  by_cases h : i < l.length
  · have h' : i < (⟨l.toArray⟩ : ByteArray).size := h
    rw [getElem!_pos (⟨l.toArray⟩ : ByteArray) i h', List.getD_eq_getElem?_getD, List.getElem?_eq_getElem h]
    rfl
  · have h' : ¬ i < (⟨l.toArray⟩ : ByteArray).size := h
    rw [getElem!_neg (⟨l.toArray⟩ : ByteArray) i h', List.getD_eq_getElem?_getD, List.getElem?_eq_none (by omega)]
    rfl

theorem idx_find (c : UInt8) : ∀ l : List UInt8, ((List.range l.length).find? fun i => l.getD i 0 == c) = l.findIdx? (fun b => b == c)
  | [] => rfl
  | a :: l => by
    rw [List.length_cons, List.range_succ_eq_map, List.find?_cons, List.findIdx?_cons, List.find?_map]
    have e : ((fun i => (a :: l).getD i 0 == c) ∘ Nat.succ) = fun i => l.getD i 0 == c := by
      funext i
      simp
    rw [e, idx_find c l]
    simp only [List.getD_cons_zero]
    cases a == c <;> simp

theorem cmp_find : ∀ x y : List UInt8, (match (List.range (min x.length y.length)).find? fun i => x.getD i 0 != y.getD i 0 with
    | some i => if x.getD i 0 < y.getD i 0 then (-1 : Int) else 1
    | none => if x.length < y.length then -1 else if x.length > y.length then 1 else 0) = cmpL x y
  | [], [] => rfl
  | [], b :: y => by
    simp [cmpL]
  | a :: x, [] => by
    simp [cmpL]
  | a :: x, b :: y => by
    have ih := cmp_find x y
    rw [List.length_cons, List.length_cons, Nat.succ_min_succ, List.range_succ_eq_map, List.find?_cons, List.find?_map]
    have e : ((fun i => (a :: x).getD i 0 != (b :: y).getD i 0) ∘ Nat.succ) = fun i => x.getD i 0 != y.getD i 0 := by
      funext i
      simp
    rw [e]
    simp only [List.getD_cons_zero, cmpL]
    by_cases hab : a = b
    · subst hab
      simp only [bne_self_eq_false, if_true]
      rw [← ih]
      cases (List.range (min x.length y.length)).find? fun i => x.getD i 0 != y.getD i 0 with
      | none => simp
      | some i => simp
    · have : (a != b) = true := by simpa using hab
      rw [this]
      simp only [hab, if_false, List.getD_cons_zero]

theorem count_foldl (c : UInt8) : ∀ (l : List UInt8) (n : Nat), l.foldl (fun n x => if x == c then n + 1 else n) n = n + l.countP fun b => b == c
  | [], n => rfl
  | a :: l, n => by
    rw [List.foldl_cons, count_foldl c l, List.countP_cons]
    cases a == c <;> simp <;> omega

open Extern.BytealgIndexByte in
theorem indexByte_sound : ExtSound P .indexByte indexByte := by
  intro G st w args vs av h hr
  unfold extA at h
  split at h <;> try (rename_i he; cases he)
  case h_4 x c =>
    simp only [Option.some.injEq, Prod.mk.injEq, true_and] at h
    subst h
    obtain ⟨v1, v2, rfl, r1, r2⟩ := rss2 hr
    cases rsv_str r1
    cases rsv_int r2
    refine ⟨_, rav_int _ _, ?_⟩
    have e : ((List.range x.length).find? fun i => (⟨x.toArray⟩ : ByteArray)[i]! == c.toNat.toUInt8) = x.findIdx? (fun b => b == c.toNat.toUInt8) := by
      rw [← idx_find]
      congr 1
      funext i
      rw [get_arr]
    show Sem.run P (match (List.range x.length).find? fun i => (⟨x.toArray⟩ : ByteArray)[i]! == c.toNat.toUInt8 with
      | some i => pure (goInt i)
      | none => pure (goInt (-1))) w = _
    rw [e]
    unfold idxByte
    show _ = Result.ok (Value.int .i64 (match x.findIdx? (fun b => b == c.toNat.toUInt8) with
      | some i => (i : Int)
      | none => -1)) w
    cases x.findIdx? (fun b => b == c.toNat.toUInt8) <;> rfl
  all_goals cases h

open Extern.BytealgCompare in
theorem cmp_sound : ExtSound P .cmp compare := by
  intro G st w args vs av h hr
  unfold extA at h
  split at h <;> try (rename_i he; cases he)
  case h_3 x y =>
    simp only [Option.some.injEq, Prod.mk.injEq, true_and] at h
    subst h
    obtain ⟨v1, v2, rfl, r1, r2⟩ := rss2 hr
    cases rsv_str r1
    cases rsv_str r2
    refine ⟨_, rav_int _ _, ?_⟩
    show Result.ok (goInt (cmp ⟨x.toArray⟩ ⟨y.toArray⟩)) w = _
    have e : cmp ⟨x.toArray⟩ ⟨y.toArray⟩ = cmpL x y := by
      rw [← cmp_find]
      unfold cmp
      simp only [get_arr]
      rfl
    rw [e]
    rfl
  all_goals cases h

end
end Go.Rf

/- What a seat's program owes: types, contracts, bodies. -/
namespace Go.Rf
open Go.RowKit
set_option linter.unusedSectionVars false
variable [LowTab]

section
variable {P : Program}

theorem tiok_mk {T : TypeId} {i : TI} (h1 : (P.info? T).map (fun f => (f.size, f.bytes, f.zero)) = some (i.size, i.bytes, some (zeroV i))) (h2 : (P.underlying T).map tdOf = some i.td)
    (h3 : (Nat.beq i.zero.length i.size && i.zero.all zok && (i.agg || Nat.beq i.size 1) && (!i.agg || !P.stoodInHeld T)) = true) (h4 : ∀ t, i.ty = some t → implodeAll [] t i.zero = some t.dflt) : TIok P T i := by
  simp only [Bool.and_eq_true, Bool.or_eq_true, Bool.not_eq_true'] at h3
  obtain ⟨⟨⟨a1, a2⟩, a3⟩, a4⟩ := h3
  refine ⟨?_, ?_, Nat.eq_of_beq_eq_true a1, a2, fun h => ?_, h4, fun h => ?_⟩
  · cases hf : P.info? T with
    | none => rw [hf] at h1; cases h1
    | some f =>
      rw [hf] at h1
      simp only [Option.map_some, Option.some.injEq, Prod.mk.injEq] at h1
      exact ⟨f, rfl, h1.1, h1.2.1, h1.2.2⟩
  · cases hd : P.underlying T with
    | none => rw [hd] at h2; cases h2
    | some d =>
      rw [hd] at h2
      simp only [Option.map_some, Option.some.injEq] at h2
      exact ⟨d, rfl, h2⟩
  · rcases a3 with a3 | a3
    · rw [h] at a3; cases a3
    · exact Nat.eq_of_beq_eq_true a3
  · rcases a4 with a4 | a4
    · rw [h] at a4; cases a4
    · exact a4

theorem ty_none {i : TI} (h : i.ty = none) : ∀ t, i.ty = some t → implodeAll [] t i.zero = some t.dflt := fun t ht => by rw [h] at ht; cases ht
theorem ty_some {i : TI} {t : Ty} (h : i.ty = some t) (h2 : implodeAll [] t i.zero = some t.dflt) : ∀ t, i.ty = some t → implodeAll [] t i.zero = some t.dflt := fun t' ht => by rw [h] at ht; cases ht; exact h2

def AllTI (P : Program) : TT → Prop
  | [] => True
  | (k, i) :: r => TIok P k i ∧ AllTI P r

theorem AllTI.get : ∀ {tt : TT}, AllTI P tt → ∀ T i, tt.get T = some i → TIok P T i
  | [], _, _, _, h => by cases h
  | (k, i0) :: r, h, T, i, hg => by
    simp only [TT.get] at hg
    cases hb : Nat.beq k T with
    | true =>
      rw [hb] at hg
      simp only [cond_true, Option.some.injEq] at hg
      subst hg
      cases Nat.eq_of_beq_eq_true hb
      exact h.1
    | false =>
      rw [hb] at hg
      exact AllTI.get h.2 T i hg

theorem ttok_mk {tt : TT} (h : AllTI P tt) (hd : 12 ≤ P.depth) : TTok P tt := ⟨h.get, hd⟩

/-! ### Contracts -/
theorem getCon_nil {n : FuncId} {c : Con} (h : getCon [] n = some c) : ConOK P n c := by cases h
theorem getCon_cons {k : FuncId} {c0 : Con} {r : List (FuncId × Con)} (h0 : ConOK P k c0) (hr : ∀ n c, getCon r n = some c → ConOK P n c) : ∀ n c, getCon ((k, c0) :: r) n = some c → ConOK P n c := fun n c h => by
  simp only [getCon] at h
  cases hb : Nat.beq k n with
  | true =>
    rw [hb] at h
    simp only [cond_true, Option.some.injEq] at h
    subst h
    cases Nat.eq_of_beq_eq_true hb
    exact h0
  | false =>
    rw [hb] at h
    exact hr n c h

theorem getExt_nil {n : FuncId} {c : Ext} (h : getExt [] n = some c) : ExtOK P n c := by cases h
theorem getExt_cons {k : FuncId} {c0 : Ext} {r : List (FuncId × Ext)} (h0 : ExtOK P k c0) (hr : ∀ n c, getExt r n = some c → ExtOK P n c) : ∀ n c, getExt ((k, c0) :: r) n = some c → ExtOK P n c := fun n c h => by
  simp only [getExt] at h
  cases hb : Nat.beq k n with
  | true =>
    rw [hb] at h
    simp only [cond_true, Option.some.injEq] at h
    subst h
    cases Nat.eq_of_beq_eq_true hb
    exact h0
  | false =>
    rw [hb] at h
    exact hr n c h

def GBody (P : Program) (tt : TT) (n : FuncId) (b : Body) : Prop := (b.sp = none → BodyOK P n b) ∧ ∀ p, b.sp = some p → SpOK P tt n p
theorem gbody_mk {tt : TT} {n : FuncId} {b : Body} (h : BodyOK P n b) (hs : b.sp = none) : GBody P tt n b := ⟨fun _ => h, fun p hp => by rw [hs] at hp; cases hp⟩
def spBody (p : Sp) : Body := ⟨.skip, 0, [], some p⟩
theorem gsp_mk {tt : TT} {n : FuncId} {p : Sp} (h : SpOK P tt n p) : GBody P tt n (spBody p) := ⟨(fun h => by cases h), (fun q hq => by cases hq; exact h)⟩

theorem getBody_nil {tt : TT} {n : FuncId} {c : Body} (h : getBody [] n = some c) : GBody P tt n c := by cases h
theorem getBody_cons {tt : TT} {k : FuncId} {c0 : Body} {r : List (FuncId × Body)} (h0 : GBody P tt k c0) (hr : ∀ n c, getBody r n = some c → GBody P tt n c) : ∀ n c, getBody ((k, c0) :: r) n = some c → GBody P tt n c := fun n c h => by
  simp only [getBody] at h
  cases hb : Nat.beq k n with
  | true =>
    rw [hb] at h
    simp only [cond_true, Option.some.injEq] at h
    subst h
    cases Nat.eq_of_beq_eq_true hb
    exact h0
  | false =>
    rw [hb] at h
    exact hr n c h

/-! ### Bodies -/
def codeOf (f : Func) : Code := match f.body with | some c => c | none => .skip
def bodyOf (f : Func) : Body := ⟨codeOf f, f.ntmps, f.results.toList, none⟩

theorem body_ok {n : FuncId} {f : Func} (h1 : P.funcs[n]? = some f) (h2 : (!(f.name == "runtime.NumGoroutine") && f.body.isSome) = true) : BodyOK P n (bodyOf f) := by
  simp only [Bool.and_eq_true, Bool.not_eq_true'] at h2
  refine ⟨f, h1, h2.1, ?_, rfl, rfl⟩
  show f.body = some (codeOf f)
  unfold codeOf
  cases hb : f.body with
  | none => rw [hb] at h2; cases h2.2
  | some c => rfl

theorem con_ok {n : FuncId} {b : Body} {g : Sig} {f : PL g.ps → Option (PL g.rs)} (hb : BodyOK P n b) (h : FOK P g f n) : ConOK P n (mkCon g f) := ⟨hb.found, g, f, rfl, h⟩

end
end Go.Rf

/- A law: a function of plain data that answers true. -/
namespace Go.Rf
open Go.RowKit
set_option linter.unusedSectionVars false
variable [LowTab]

section
variable {P : Program}

theorem law_calls {n : FuncId} {ps : List PT} {f : PL ps → Option Bool} (h : FOK P ⟨ps, [.c .bool]⟩ f n) {x : PL ps} (hx : f x = some true) {W : World} {vs : List Value} (hlow : LowAt W.heap.size W) (hv : RSs (Gh.of fun k => k < W.heap.size) [] W (encL ps x) vs) :
    Calls P n vs.toArray W fun e W' => e = .returned (.bool true) ∧ Below W.heap.size W W' := by
  refine calls_mono (h x true hx W (fun k => k < W.heap.size) vs (fun _ h => h) hlow hv) fun e w' he => ?_
  cases e with
  | returned v =>
    obtain ⟨⟨h1, h2, h3, h4, h5⟩, h6⟩ := he
    have h7 : [v] = [Value.bool true] := h6
    simp only [List.cons.injEq, and_true] at h7
    exact ⟨by rw [h7], h1, h2, h3, h4, h5⟩
  | panicked c => exact he.elim
  | outgrown => exact he.elim

theorem rss_nil {G : Gh} {st : List Blk} {w : World} : RSs G st w [] [] := trivial
theorem rss_cons {G : Gh} {st : List Blk} {w : World} {a : SV} {v : Value} {l : List SV} {vs : List Value} (h : RSV G st w a v) (hr : RSs G st w l vs) : RSs G st w (a :: l) (v :: vs) := ⟨h, hr⟩
theorem rsv_of_int {G : Gh} {st : List Blk} {w : World} (k : IntKind) (x : Int) : RSV G st w (.c (.v (.int k) x)) (.int k x) := rfl
theorem rsv_of_bool {G : Gh} {st : List Blk} {w : World} (x : Bool) : RSV G st w (.c (.v .bool x)) (.bool x) := rfl
theorem rsv_of_str {G : Gh} {st : List Blk} {w : World} (x : ByteArray) : RSV G st w (.c (.v .str x.data.toList)) (.string x) := by
  show [Value.string x] = [Value.string ⟨x.data.toList.toArray⟩]
  rw [Array.toArray_toList]

end
end Go.Rf

/- Functions with a contract on the store: strings.Builder's copyCheck and String. -/
namespace Go.Rf
open Go.RowKit
set_option linter.unusedSectionVars false

section
variable {P : Program}

/-- One block of the machine may have turned. -/
structure Near (g : Nat) (w w' : World) : Prop where
  os : w'.os = w.os
  tape : w'.tape = w.tape
  output : w'.output = w.output
  size : w.heap.size ≤ w'.heap.size
  heap : ∀ k, k < w.heap.size → k ≠ g → w'.heap[k]? = w.heap[k]?

theorem run_loadInts : ∀ (l : List Int) (a : Addr) (acc : ByteArray) {w : World}, (∀ (j : Nat) (x : Int), l[j]? = some x → w.cell? (a.add j) = some (Value.int .u8 x)) →
    (loadBytes a acc l.length).run P w = .ok ⟨acc.data ++ (bytesOf l).toArray⟩ w
  | [], a, acc, w, _ => by simp [loadBytes, bytesOf]
  | x :: l, a, acc, w, h => by
    have h0 : w.cell? a = some (Value.int .u8 x) := by
      have := h 0 x rfl
      simpa [Addr.add] using this
    have ih := run_loadInts (w := w) l (a.add 1) (acc.push x.toNat.toUInt8) (fun j y hy => by
      have := h (j + 1) y (by simpa using hy)
      rw [add_add, Nat.add_comm 1 j]
      exact this)
    simp only [List.length_cons, loadBytes, Sem.run_bind, run_load, h0, Result.andThen, ih]
    congr 1
    apply ByteArray.ext
    simp [ByteArray.push, bytesOf, Nat.toUInt8]

/-- unsafe.SliceData of a slice without room: a pointer to somewhere. -/
theorem sd_zero (ts : Array TypeId) (ty e : TypeId) (hp : P.underlying ty = some (.pointer e)) (w : World) (a : Addr) (ha : a.block < w.heap.size) : ∃ p w', (Builtin.unsafeSliceData_ ts ty #[.slice (some a) 0 0]).run P w = .ok (.pointer p) w' ∧ (w' = w ∨ w' = w.alloc (.view a e)) := by
  obtain ⟨o, ho⟩ : ∃ o, w.heap[a.block]? = some o := ⟨_, Array.getElem?_eq_getElem ha⟩
  conv in (Builtin.unsafeSliceData_ _ _ _) => whnf
  cases o with
  | cells c e' f =>
    have hs : w.shape? a.block = some (e', c.size) := by simp [World.shape?, ho]
    exact ⟨some ⟨w.heap.size, 0, none⟩, w.alloc (.view a e), by simp [Sem.run, Sem.run_bind', hs, elemOf, run_underlying hp], .inr rfl⟩
  | view x t =>
    have hs : w.shape? a.block = none := by simp [World.shape?, ho]
    exact ⟨some a, w, by simp [Sem.run, Sem.run_bind', hs, ho, getObj], .inl rfl⟩
  | _ =>
    have hs : w.shape? a.block = none := by simp [World.shape?, ho]
    exact ⟨some ⟨w.heap.size, 0, none⟩, w.alloc (.view a e), by simp [Sem.run, Sem.run_bind', hs, ho, getObj, elemOf, run_underlying hp], .inr rfl⟩

/-- unsafe.String over the head of a row of bytes. -/
theorem us_row (w : World) (pt it ty e : TypeId) (hp : P.underlying pt = some (.pointer e)) (hc : P.cellsOf e = 1) (g cells : Nat) (hsh : w.shape? g = some (e, cells)) (l : List Int) (h0 : l ≠ []) (hn : l.length ≤ cells) (h63 : l.length ≤ 9223372036854775807)
    (hcell : ∀ (j : Nat) (x : Int), l[j]? = some x → w.cell? ((⟨g, 0, none⟩ : Addr).add j) = some (Value.int .u8 x)) :
    (Builtin.unsafeString_ #[pt, it] ty #[.pointer (some ⟨g, 0, none⟩), .int .i64 l.length]).run P w = .ok (.string ⟨(bytesOf l).toArray⟩) (w.freeze ⟨g, 0, none⟩ l.length) := by
  have hlb := run_loadInts (P := P) l ⟨g, 0, none⟩ .empty hcell
  have hl : l.length ≠ 0 := by simpa using h0
  have hlies := Lib.liesAt_bytes (P := P) hc (cells / P.cellsOf e) l.length (by rw [hc]; simpa using hn)
  generalize l.length = n at hlb hl hn h63 hlies ⊢
  conv in (Builtin.unsafeString_ _ _ _) => whnf
  generalize Int.decLt _ _ = d
  cases d with
  | isTrue h =>
    have hmax : IntKind.i64.max = 9223372036854775807 := rfl
    rw [hmax] at h
    exact absurd h (by show ¬ (9223372036854775807 : Int) < (n : Int); omega)
  | isFalse h => simp [hl, variablesAt, hsh, elemOf, run_underlying hp, hlies, hlb]

theorem freeze_near (w : World) (a : Addr) (n : Nat) : Near a.block w (w.drew.freeze a n) := by
  unfold World.freeze
  split
  · exact ⟨rfl, rfl, rfl, Nat.le_refl _, fun _ _ _ => rfl⟩
  · refine ⟨rfl, rfl, rfl, by show _ ≤ (Array.modify _ _ _).size; rw [Array.size_modify]; exact Nat.le_refl _, fun k _ hne => ?_⟩
    simp only [World.drew, Array.getElem?_modify]
    rw [if_neg (Ne.symm hne)]

end

variable [LowTab]

section
variable {P : Program}

structure CCFacts (P : Program) (n : FuncId) (Ts : List (TypeId × Nat)) : Prop where
  found : Found P n
  used : ∀ (w : World) (b : Nat), w.cell? ⟨b, 0, none⟩ = some (.pointer (some ⟨b, 0, none⟩)) → Calls P n #[.pointer (some ⟨b, 0, none⟩)] w fun e w' => e = .returned (.tuple #[]) ∧ w' = w
  fresh : ∀ (w : World) (b T k : Nat), (T, k) ∈ Ts → w.cell? ⟨b, 0, none⟩ = some (.pointer none) → w.shape? b = some (T, k) → 0 < k → w.frozen? ⟨b, 0, none⟩ = false →
    Calls P n #[.pointer (some ⟨b, 0, none⟩)] w fun e w' => e = .returned (.tuple #[]) ∧ w' = w.setCell ⟨b, 0, none⟩ (.pointer (some ⟨b, 0, none⟩))

structure TextFacts (P : Program) (n : FuncId) (eb : TypeId) : Prop where
  found : Found P n
  none_ : ∀ (w : World) (b : Nat), w.cell? ⟨b, 1, none⟩ = some (.slice none 0 0) → Calls P n #[.pointer (some ⟨b, 0, none⟩)] w fun e w' => e = .returned (.string ⟨#[]⟩) ∧ Below w.heap.size w w'
  zero : ∀ (w : World) (b : Nat) (a : Addr), w.cell? ⟨b, 1, none⟩ = some (.slice (some a) 0 0) → a.block < w.heap.size → Calls P n #[.pointer (some ⟨b, 0, none⟩)] w fun e w' => e = .returned (.string ⟨#[]⟩) ∧ Below w.heap.size w w'
  room : ∀ (w : World) (b g c : Nat), c ≠ 0 → w.cell? ⟨b, 1, none⟩ = some (.slice (some ⟨g, 0, none⟩) 0 c) → Calls P n #[.pointer (some ⟨b, 0, none⟩)] w fun e w' => e = .returned (.string ⟨#[]⟩) ∧ Below w.heap.size w w'
  row : ∀ (w : World) (b g c : Nat) (cur : Array Value) (l : List Int), l ≠ [] → w.cell? ⟨b, 1, none⟩ = some (.slice (some ⟨g, 0, none⟩) l.length c) → w.heap[g]? = some (.cells cur eb (0, 0)) → l.length ≤ c → c ≤ maxLen → l.length ≤ cur.size →
    (∀ (j : Nat) (x : Int), l[j]? = some x → cur[j]? = some (Value.int .u8 x)) → Calls P n #[.pointer (some ⟨b, 0, none⟩)] w fun e w' => e = .returned (.string ⟨(bytesOf l).toArray⟩) ∧ Near g w w'

section
variable {tt : TT} {G : Gh} {st : List Blk} {w : World} {B : Nat} {rb : Nat → Bool}

theorem Turn.cells (hM : SimM tt B G st w) {b g : Nat} {T : TypeId} {cs cs' : List CV} {w' : World} (hst : st[b]? = some (.cells T cs)) (hrb : rb b = false) (hg : G.m b = .at_ g) (hn : Near g w w') :
    Turn tt B rb G st w b (G.m b) G.S (.cells T cs') (st.set b (.cells T cs')) w' := by
  have hlt : b < st.length := (List.getElem?_eq_some_iff.1 hst).1
  have hold : oldB G st b = some g := by unfold oldB; rw [hst]; simp [conc, hg]
  exact {
    other := fun i hi => List.getElem?_set_ne (Ne.symm hi)
    here := List.getElem?_set_self hlt
    len := by rw [List.length_set]; exact Nat.le_refl _
    was := fun _ => ⟨hrb, fun blk1 h1 => by
      rw [hst] at h1
      simp only [Option.some.injEq] at h1
      subst h1
      trivial⟩
    at_ := fun _ g hg => hg
    os := hn.os
    tape := hn.tape
    output := hn.output
    size := hn.size
    heap := fun k hk hne => hn.heap k hk fun e => hne (by rw [hold, e])
    place := fun k hk => by
      rw [conc_m _ (Gh.upd_m ..)] at hk
      have : conc G b (.cells T cs) = some k := by simpa [conc, hg] using hk
      obtain ⟨h1, h2, h3⟩ := hM.own b _ k hst this
      refine ⟨.inl (by rw [hold]; simpa [conc, hg] using hk), Nat.lt_of_lt_of_le h2 hn.size, h3⟩
    S := fun _ h => h
    S' := fun _ h => .inl h }

theorem Turn.dead (hM : SimM tt B G st w) {b : Nat} {blk : Blk} {w' : World} (hst : st[b]? = some blk) (hrb : rb b = false) (os : w'.os = w.os) (tape : w'.tape = w.tape) (output : w'.output = w.output) (size : w.heap.size ≤ w'.heap.size)
    (heap : ∀ k, k < w.heap.size → conc G b blk ≠ some k → w'.heap[k]? = w.heap[k]?) : Turn tt B rb G st w b (G.m b) G.S .dead (st.set b .dead) w' := by
  have hlt : b < st.length := (List.getElem?_eq_some_iff.1 hst).1
  have hold : oldB G st b = conc G b blk := by unfold oldB; rw [hst]
  exact {
    other := fun i hi => List.getElem?_set_ne (Ne.symm hi)
    here := List.getElem?_set_self hlt
    len := by rw [List.length_set]; exact Nat.le_refl _
    was := fun _ => ⟨hrb, fun blk1 h1 => by cases blk1 <;> trivial⟩
    at_ := fun _ g hg => hg
    os := os
    tape := tape
    output := output
    size := size
    heap := fun k hk hne => heap k hk fun e => hne (by rw [hold, e])
    place := fun k hk => by simp [conc] at hk
    S := fun _ h => h
    S' := fun _ h => .inl h }

end

theorem cell0_of {w : World} {g : Nat} {arr : List Value} {T : TypeId} {fr : Nat × Nat} (h : w.heap[g]? = some (.cells arr.toArray T fr)) (i : Nat) : w.cell? ⟨g, i, none⟩ = arr[i]? := by
  simp [World.cell?, h]

theorem setCell_near {w : World} {a : Addr} {v : Value} : Near a.block w (w.setCell a v) := ⟨rfl, rfl, rfl, by simp [World.setCell], fun k _ hne => by
  simp only [World.setCell, Array.getElem?_modify]
  rw [if_neg (Ne.symm hne)]⟩

theorem setCell_heap {w : World} {g : Nat} {arr : List Value} {T : TypeId} {fr : Nat × Nat} (h : w.heap[g]? = some (.cells arr.toArray T fr)) (i : Nat) (v : Value) : (w.setCell ⟨g, i, none⟩ v).heap[g]? = some (.cells (arr.set i v).toArray T fr) := by
  simp only [World.setCell, Array.getElem?_modify, h]
  simp

theorem sp_copyCheck {tt : TT} {n : FuncId} {Ts : List (TypeId × Nat)} (F : CCFacts P n Ts) : SpOK P tt n (.copyCheck Ts) := by
  refine ⟨F.found, fun B args rb st st' av h G w vs hrb hM hargs => ?_⟩
  unfold spA at h
  split at h
  · rename_i Ts' b e
    injection e with e
    subst e
    cases hb : rb b with
    | true => rw [hb] at h; cases h
    | false =>
      rw [hb] at h
      simp only [cond_false] at h
      split at h
      · rename_i T c cs hst
        cases hz : ((Ts.any fun p => Nat.beq p.1 T && Nat.beq p.2 (cs.length + 1)) && selfish b 0 c) with
        | false => rw [hz] at h; cases h
        | true =>
          rw [hz] at h
          simp only [cond_true, Option.some.injEq, Prod.mk.injEq, true_and] at h
          obtain ⟨rfl, rfl⟩ := h
          simp only [Bool.and_eq_true, List.any_eq_true] at hz
          obtain ⟨⟨⟨T0, k0⟩, hmem, h1, h2⟩, hself⟩ := hz
          have e1 : T0 = T := Nat.eq_of_beq_eq_true h1
          have e2 : k0 = cs.length + 1 := Nat.eq_of_beq_eq_true h2
          subst e1; subst e2
          match vs, hargs with
          | [u], ⟨hu, _⟩ =>
            obtain ⟨hlt, g, hg, rfl⟩ := hu
            obtain ⟨g', arr, hg', hh, hr⟩ := hM.blks b _ hst
            rw [hg] at hg'
            injection hg' with hg'
            subst hg'
            match arr, hr with
            | u :: us, ⟨hc, hcs⟩ =>
              have hlen := hcs.len
              have fin : ∀ w', Near g w w' → w'.heap[g]? = some (.cells (Value.pointer (some ⟨g, 0, none⟩) :: us).toArray T0 (0, 0)) → ∃ G', RAV G' (st.set b (.cells T0 (.ptr b 0 :: cs))) w' (.tup []) (.tuple #[]) ∧ SimM tt B G' (st.set b (.cells T0 (.ptr b 0 :: cs))) w' ∧ Post B rb G st w G' (st.set b (.cells T0 (.ptr b 0 :: cs))) w' := by
                intro w' hn hw
                have hT := Turn.cells (rb := rb) (cs' := .ptr b 0 :: cs) hM hst hb hg hn
                refine ⟨_, ⟨[], rfl, trivial⟩, hT.simM hM ⟨g, _ :: us, (Gh.upd_m ..).trans hg, hw, ?_, hcs.ext (hT.ext hM)⟩, hT.post hM⟩
                exact ⟨by rw [List.length_set]; exact hlt, g, (Gh.upd_m ..).trans hg, rfl⟩
              have c0 := cell0_of hh 0
              have used : u = .pointer (some ⟨g, 0, none⟩) → Calls P n #[.pointer (some ⟨g, 0, none⟩)] w fun
                  | .returned v, w' => ∃ G', RAV G' (st.set b (.cells T0 (.ptr b 0 :: cs))) w' (.tup []) v ∧ SimM tt B G' (st.set b (.cells T0 (.ptr b 0 :: cs))) w' ∧ Post B rb G st w G' (st.set b (.cells T0 (.ptr b 0 :: cs))) w'
                  | _, _ => False := by
                rintro rfl
                refine calls_mono (F.used w g c0) fun e w' he => ?_
                obtain ⟨rfl, rfl⟩ := he
                exact fin _ ⟨rfl, rfl, rfl, Nat.le_refl _, fun _ _ _ => rfl⟩ hh
              have fresh : u = .pointer none → Calls P n #[.pointer (some ⟨g, 0, none⟩)] w fun
                  | .returned v, w' => ∃ G', RAV G' (st.set b (.cells T0 (.ptr b 0 :: cs))) w' (.tup []) v ∧ SimM tt B G' (st.set b (.cells T0 (.ptr b 0 :: cs))) w' ∧ Post B rb G st w G' (st.set b (.cells T0 (.ptr b 0 :: cs))) w'
                  | _, _ => False := by
                rintro rfl
                refine calls_mono (F.fresh w g T0 (cs.length + 1) hmem c0 (by simp [World.shape?, hh, hlen]) (Nat.succ_pos _) (by simp [World.frozen?, hh])) fun e w' he => ?_
                obtain ⟨rfl, rfl⟩ := he
                exact fin _ (setCell_near (a := ⟨g, 0, none⟩)) (setCell_heap hh 0 _)
              cases c with
              | nilptr => exact fresh hc
              | ptr b' o =>
                simp only [selfish, Bool.and_eq_true] at hself
                cases Nat.eq_of_beq_eq_true hself.1
                cases Nat.eq_of_beq_eq_true hself.2
                obtain ⟨_, g', h3, h4⟩ := hc
                rw [hg] at h3
                injection h3 with h3
                subst h3
                exact used h4
              | selfp b' o =>
                simp only [selfish, Bool.and_eq_true] at hself
                cases Nat.eq_of_beq_eq_true hself.1
                cases Nat.eq_of_beq_eq_true hself.2
                obtain ⟨_, g', h3, h4⟩ := hc
                rw [hg] at h3
                injection h3 with h3
                subst h3
                rcases h4 with h4 | h4
                · exact fresh h4
                · exact used h4
              | _ => cases hself
            | [], hr => exact hr.elim
          | [], hargs => exact hargs.elim
          | _ :: _ :: _, hargs => exact hargs.2.elim
      · cases h
  all_goals first | (cases h; done) | (rename_i e; cases e)

theorem bytes_row {S : Nat → Prop} {w : World} {xs : List Int} {cells : List Value} (h : Rows S w (.int .u8) xs cells) : cells = xs.map (.int .u8) := by
  obtain ⟨h1, h2⟩ := h
  simp only [Ty.size, Nat.mul_one] at h1 h2
  refine List.ext_getElem? fun j => ?_
  rw [List.getElem?_map]
  cases hx : xs[j]? with
  | none =>
    simp only [Option.map_none, List.getElem?_eq_none_iff] at hx ⊢
    omega
  | some x =>
    have := h2 j x hx
    rw [Rep] at this
    have h3 : (List.take 1 (List.drop j cells))[0]? = some (.int .u8 x) := by rw [this]; rfl
    rw [List.getElem?_take, if_pos Nat.one_pos, List.getElem?_drop] at h3
    simpa using h3

theorem sp_text {tt : TT} {n : FuncId} {eb : TypeId} (F : TextFacts P n eb) : SpOK P tt n (.text eb) := by
  refine ⟨F.found, fun B args rb st st' av h G w vs hrb hM hargs => ?_⟩
  unfold spA at h
  split at h
  · rename_i e
    cases e
  · rename_i e0 b e
    injection e with e
    subst e
    match vs, hargs with
    | [u], ⟨hu, _⟩ =>
      obtain ⟨hlt, g, hg, rfl⟩ := hu
      split at h
      · rename_i T c0 cs hst
        simp only [Option.some.injEq, Prod.mk.injEq, true_and] at h
        obtain ⟨rfl, rfl⟩ := h
        obtain ⟨g', arr, hg', hh, hr⟩ := hM.blks b _ hst
        rw [hg] at hg'
        injection hg' with hg'
        subst hg'
        match arr, hr with
        | u0 :: u1 :: us, ⟨_, hc, _⟩ =>
          have hc' : u1 = .slice none 0 0 := hc
          subst hc'
          refine calls_mono (F.none_ w g (cell0_of hh 1)) fun e w' he => ?_
          obtain ⟨rfl, h1, h2, h3, h4, h5⟩ := he
          obtain ⟨k1, k2⟩ := newS (rb := rb) hM h1 h2 h3 h4 h5
          exact ⟨_, rfl, k1, k2⟩
        | [_], hr => exact hr.2.elim
        | [], hr => exact hr.elim
      · rename_i T c0 b' n' cs hst
        split at h
        · rename_i ver e' xs hst'
          cases hz : (Nat.beq ver n' && Nat.beq eb e' && !rb b') with
          | false => rw [hz] at h; cases h
          | true =>
            rw [hz] at h
            simp only [cond_true, Option.some.injEq, Prod.mk.injEq, true_and] at h
            obtain ⟨rfl, rfl⟩ := h
            simp only [Bool.and_eq_true, Bool.not_eq_true'] at hz
            obtain ⟨⟨z1, z2⟩, z3⟩ := hz
            have e1 : ver = n' := Nat.eq_of_beq_eq_true z1
            have e2 : eb = e' := Nat.eq_of_beq_eq_true z2
            subst e1; subst e2
            obtain ⟨g', arr, hg', hh, hr⟩ := hM.blks b _ hst
            rw [hg] at hg'
            injection hg' with hg'
            subst hg'
            match arr, hr with
            | u0 :: u1 :: us, ⟨_, hc, _⟩ =>
              simp only [RCV, hst'] at hc
              have hm := hc.2 (by first | trivial | rfl)
              obtain ⟨v, cells, hm', hown, hrows, _⟩ := hM.blks b' _ hst'
              rw [hm] at hm'
              injection hm' with hm'
              subst hm'
              have hcells := bytes_row hrows
              have fin : ∀ w' : World, w'.os = w.os → w'.tape = w.tape → w'.output = w.output → w.heap.size ≤ w'.heap.size → (∀ k, k < w.heap.size → rowBlk u1 ≠ some k → w'.heap[k]? = w.heap[k]?) →
                  ∃ G', RAV G' (st.set b' .dead) w' (.str (bytesOf xs)) (.string ⟨(bytesOf xs).toArray⟩) ∧ SimM tt B G' (st.set b' .dead) w' ∧ Post B rb G st w G' (st.set b' .dead) w' := by
                intro w' h1 h2 h3 h4 h5
                have hT := Turn.dead (rb := rb) hM hst' z3 h1 h2 h3 h4 (fun k hk hne => h5 k hk (by simpa [conc, hm] using hne))
                exact ⟨_, rfl, hT.simM hM trivial, hT.post hM⟩
              have below : xs = [] → ∀ e w', (e = Ending.returned (.string ⟨#[]⟩) ∧ Below w.heap.size w w') → (match e, w' with
                  | .returned v, w' => ∃ G', RAV G' (st.set b' .dead) w' (.str (bytesOf xs)) v ∧ SimM tt B G' (st.set b' .dead) w' ∧ Post B rb G st w G' (st.set b' .dead) w'
                  | _, _ => False) := by
                rintro rfl e w' ⟨rfl, h1, h2, h3, h4, h5⟩
                exact fin w' h1 h2 h3 h4 (fun k hk _ => h5 k hk)
              obtain ⟨hl, hcase⟩ := hown
              simp only [Ty.size, Nat.mul_one] at hl hcase
              rcases hcase with ⟨A, rfl, h0, hA⟩ | ⟨g2, cap, cur, rfl, hB, hg2, hn, hcm, hcs, htk⟩
              · have hx : xs = [] := List.eq_nil_of_length_eq_zero h0
                cases A with
                | none => exact calls_mono (F.none_ w g (cell0_of hh 1)) (below hx)
                | some a => exact calls_mono (F.zero w g a (cell0_of hh 1) (hA a rfl)) (below hx)
              · by_cases hx : xs = []
                · have hl0 : xs.length = 0 := by rw [hx]; rfl
                  have c1 := cell0_of hh 1
                  rw [show (u0 :: Value.slice (some ⟨g2, 0, none⟩) xs.length (cap + 1) :: us)[1]? = some (.slice (some ⟨g2, 0, none⟩) 0 (cap + 1)) by rw [hl0]; rfl] at c1
                  exact calls_mono (F.room w g g2 (cap + 1) (Nat.succ_ne_zero _) c1) (below hx)
                · refine calls_mono (F.row w g g2 (cap + 1) cur xs hx (cell0_of hh 1) hg2 hn hcm (by omega) ?_) fun e w' he => ?_
                  · intro j x hj
                    have : (cur.toList.take xs.length)[j]? = some (Value.int .u8 x) := by rw [htk, hcells, List.getElem?_map, hj]; rfl
                    rw [List.getElem?_take] at this
                    split at this
                    · simpa using this
                    · cases this
                  · obtain ⟨rfl, h1, h2, h3, h4, h5⟩ := he
                    exact fin w' h1 h2 h3 h4 (fun k hk hne => h5 k hk fun e => hne (by rw [e]; rfl))
            | [_], hr => exact hr.2.elim
            | [], hr => exact hr.elim
        · cases h
      · cases h
    | [], hargs => exact hargs.elim
    | _ :: _ :: _, hargs => exact hargs.2.elim
  all_goals first | (cases h; done) | (rename_i e; cases e)

structure CloneFacts (P : Program) (n : FuncId) (e : TypeId) (size bytes : Nat) : Prop where
  found : Found P n
  none_ : ∀ (k c : Nat) (w : World), Calls P n #[.slice none k c] w fun e w' => e = .returned (.slice none 0 0) ∧ w' = w
  row : ∀ (a : Addr) (k c : Nat) (news : List Value) (w : World), news.length = k * size → k ≤ maxLen → k * bytes ≤ 140737488355328 → (∀ (j : Nat) u, news[j]? = some u → w.cell? (a.add j) = some u) → (∀ u ∈ news, u.oneCell' = true) →
    Calls P n #[.slice (some a) k c] w fun r w' => ∃ v', r = .returned v' ∧ w'.ownsRow w.heap.size e size v' k news ∧ Below w.heap.size w w'

theorem sp_clone {tt : TT} {n : FuncId} {e : TypeId} {t : Ty} {by_ : Nat} (F : CloneFacts P n e t.size by_) : SpOK P tt n (.clone e t by_) := by
  refine ⟨F.found, fun B args rb st st' av h G w vs hrb hM hargs => ?_⟩
  unfold spA at h
  split at h
  any_goals first | (cases h; done) | (rename_i e; cases e; done)
  rename_i e0 t0 b0 c heq
  injection heq with h1 h2 h3
  subst h1; subst h2; subst h3
  match vs, hargs with
  | [u], ⟨hu, _⟩ =>
    split at h
    · rename_i xs hone
      · simp only [Option.some.injEq, Prod.mk.injEq] at h
        obtain ⟨hz, rfl, rfl⟩ := h
        simp only [Bool.and_eq_true, decide_eq_true_eq] at hz
        obtain ⟨⟨z1, z2⟩, z3⟩ := hz
        obtain ⟨A, c', rfl, news, hrows, hA⟩ := one_news hM hone hu
        have fin : ∀ (v' : Value) (w' : World), OwnR w' B e t.size v' (List.length (α := t.den) xs) news → (∀ g, rowBlk v' = some g → w.heap.size ≤ g ∧ g < w'.heap.size) → Below w.heap.size w w' →
            ∃ G', RAV G' (st ++ [.row 0 e t xs]) w' (.cv (.own st.length 0)) v' ∧ SimM tt B G' (st ++ [.row 0 e t xs]) w' ∧ Post B rb G st w G' (st ++ [.row 0 e t xs]) w' := by
          intro v' w' hown hblk hbel
          obtain ⟨k1, k2, k3, k4, k5⟩ := hbel
          have hT : Turn tt B rb G st w st.length (.hdr v') G.S (.row 0 e t xs) (st ++ [.row 0 e t xs]) w' := by
            refine Turn.fresh hM k1 k2 k3 k4 k5 (fun g hg => ?_)
            simp only [conc, Gh.upd_m] at hg
            exact hblk g hg
          refine ⟨_, ?_, hT.simM hM ⟨v', news, Gh.upd_m .., hown, hrows.mono hT.S (hT.hSw hM), z1⟩, hT.post hM⟩
          show RCV _ _ _ (.own st.length 0) v'
          simp only [RCV]
          rw [List.getElem?_append_right (Nat.le_refl _), Nat.sub_self]
          exact ⟨Nat.le_refl _, fun _ => Gh.upd_m ..⟩
        cases A with
        | none =>
          have hx : List.length (α := t.den) xs = 0 := by
            rcases Nat.eq_zero_or_pos (List.length (α := t.den) xs) with h0 | h0
            · exact h0
            · obtain ⟨a, ha, _⟩ := hA h0
              cases ha
          refine calls_mono (F.none_ _ c' w) fun r w' he => ?_
          obtain ⟨rfl, rfl⟩ := he
          exact fin _ _ ⟨hrows.1, .inl ⟨none, rfl, hx, fun a ha => by cases ha⟩⟩ (fun g hg => by simp [rowBlk] at hg) (Below.refl _ _)
        | some a =>
          have hcell : ∀ (j : Nat) u, news[j]? = some u → w.cell? (a.add j) = some u := by
            rcases Nat.eq_zero_or_pos (List.length (α := t.den) xs) with h0 | h0
            · intro j u hj
              have : news = [] := List.eq_nil_of_length_eq_zero (by rw [hrows.1]; rw [show xs.length = 0 from h0, Nat.zero_mul])
              rw [this] at hj
              simp at hj
            · obtain ⟨a', ha, hc⟩ := hA h0
              injection ha with ha
              subst ha
              exact hc
          refine calls_mono (F.row a _ c' news w hrows.1 (by simpa [maxLen] using z3) z2 hcell (rows_oneCell hrows z1)) fun r w' he => ?_
          obtain ⟨v', rfl, ⟨hl, ho⟩, hbel⟩ := he
          rcases ho with ⟨rfl, h0⟩ | ⟨g, cap, cur, rfl, hg, hh, h1, h2, h3, h4⟩
          · exact fin _ _ ⟨hl, .inl ⟨none, rfl, h0, fun a ha => by cases ha⟩⟩ (fun g hg => by simp [rowBlk] at hg) hbel
          · have hlt := (Array.getElem?_eq_some_iff.1 hh).1
            cases cap with
            | zero =>
              have h0 : List.length (α := t.den) xs = 0 := by omega
              exact fin _ _ ⟨hl, .inl ⟨_, by rw [h0], h0, fun a ha => by injection ha with ha; subst ha; exact hlt⟩⟩ (fun g' hg' => by simp [rowBlk] at hg') hbel
            | succ cap =>
              refine fin _ _ ⟨hl, .inr ⟨g, cap, cur, rfl, Nat.le_trans hM.base.1 hg, hh, h1, h2, h3, h4⟩⟩ (fun g' hg' => ?_) hbel
              have : g' = g := by simpa [rowBlk] using hg'.symm
              subst this
              exact ⟨hg, hlt⟩
    · cases h
  | [], hargs => exact hargs.elim
  | _ :: _ :: _, hargs => exact hargs.2.elim

end
end Go.Rf

/- Contracts out of the kit's shelf: strconv.FormatInt at base 10, over a table that is laid low. -/
namespace Go.Rf
open Go.RowKit
set_option linter.unusedSectionVars false

/-- One table of numbers, laid low. -/
@[reducible] def tabLow (P : Program) (g : Nat) (name : String) (k : IntKind) (zs : List Int) : LowTab := ⟨[g], fun _ o => ∀ w : World, w.heap[g]? = some o → Lib.TabIs P w name k zs⟩
@[reducible] def noLow : LowTab := ⟨[], fun _ _ => True⟩

theorem noLow_at (B : Nat) (w : World) : @LowAt noLow B w := fun k h => by cases h

theorem tabLow_at {P : Program} {g : Nat} {name : String} {k : IntKind} {zs : List Int} {w : World} (hg : P.globalNamed name = some g) (h : Lib.TabIs P w name k zs) : @LowAt (tabLow P g name k zs) w.heap.size w := by
  intro i hi
  have e : i = g := List.mem_singleton.1 hi
  subst e
  have h0 := h
  unfold Lib.TabIs World.var? at h0
  rw [hg] at h0
  simp only [Option.bind_some] at h0
  cases ho : w.heap[i]? with
  | none => rw [ho] at h0; cases h0
  | some o =>
    refine ⟨(Array.getElem?_eq_some_iff.1 ho).1, o, rfl, fun w' hw' => ?_⟩
    unfold Lib.TabIs World.var? at h ⊢
    rw [hg] at h ⊢
    simp only [Option.bind_some] at h ⊢
    rw [ho] at h
    rw [hw']
    exact h

theorem tabLow_is {P : Program} {g : Nat} {name : String} {k : IntKind} {zs : List Int} {B : Nat} {w : World} (h : @LowAt (tabLow P g name k zs) B w) : Lib.TabIs P w name k zs := by
  obtain ⟨_, o, h1, h2⟩ := h g (List.mem_singleton_self g)
  exact h2 w h1

theorem tab_of_laid {P : Program} {W : World} {l : List (String × DataW Unit)} {name : String} {k : IntKind} {zs : List Int} {g : Nat} {t e : TypeId} {n : Nat} (h : laidMet P l W) (hm : (name, Lib.tabData k zs) ∈ l)
    (hg : P.globalNamed name = some g) (hty : (P.globals[g]?).map (·.type) = some t) (ht : P.underlying t = some (.array n e)) (he : P.underlying e = some (.int k)) (hce : P.cellsOf e = 1) (hct : P.cellsOf t = n) : Lib.TabIs P W name k zs := by
  obtain ⟨g', t', cs, fuel, p, hg', ht', hvar, hd⟩ := Lib.laidMet.reads h hm
  obtain rfl := Option.some.inj (hg.symm.trans hg')
  obtain rfl := Option.some.inj (hty.symm.trans ht')
  unfold Lib.TabIs
  rw [hvar, ← Lib.cells_of_tab ht he hce hct hd]

/-- A whole number's text, at base 10. -/
def fmtInt (n b : Int) : Option (List UInt8) := bif decide (b = 10) && (decide (-9223372036854775808 ≤ n) && decide (n ≤ 9223372036854775807)) then some (Lib.itoa n) else none

section
variable [LowTab] {P : Program}

theorem fmt_fok {n : FuncId} {T : World → Prop} (hlow : ∀ B w, LowAt B w → T w)
    (hc : ∀ m : Int, -9223372036854775808 ≤ m → m ≤ 9223372036854775807 → ∀ w, T w → Calls P n #[.int .i64 m, .int .i64 10] w fun e w' => e = .returned (.string ⟨(Lib.itoa m).toArray⟩) ∧ ∃ k os, w' = Sort.grow (w.drewN k) os) :
    FOK P ⟨[.c (.int .i64), .c (.int .i64)], [.c .str]⟩ (fun x => fmtInt x.1 x.2) n := by
  intro x y hxy w S vs hS hl hargs
  have key : ∀ (m b : Int) (y : List UInt8), fmtInt m b = some y → RSs (Gh.of S) [] w [.c (.v (.int .i64) m), .c (.v (.int .i64) b)] vs → Calls P n vs.toArray w (Ret S w (.s (.c (.v .str y)))) := by
    intro m b y hxy hargs
    unfold fmtInt at hxy
    cases hz : (decide (b = 10) && (decide (-9223372036854775808 ≤ m) && decide (m ≤ 9223372036854775807))) with
    | false => rw [hz] at hxy; cases hxy
    | true =>
    rw [hz] at hxy
    simp only [cond_true, Option.some.injEq] at hxy
    subst hxy
    simp only [Bool.and_eq_true, decide_eq_true_eq] at hz
    obtain ⟨rfl, h0, h1⟩ := hz
    match vs, hargs with
    | [v1, v2], ⟨e1, e2, _⟩ =>
      have e1' : [v1] = [Value.int .i64 m] := e1
      have e2' : [v2] = [Value.int .i64 10] := e2
      simp only [List.cons.injEq, and_true] at e1' e2'
      subst e1'; subst e2'
      refine calls_mono (hc m h0 h1 w (hlow _ w hl)) fun e w' he => ?_
      obtain ⟨rfl, k, os, rfl⟩ := he
      refine ⟨⟨rfl, rfl, rfl, by simp [Sort.grow, World.drewN], fun g hg => ?_⟩, rfl⟩
      simp only [Sort.grow, World.drewN]
      rw [Array.getElem?_append_left hg]
    | [], h => exact h.elim
    | [_], h => exact h.2.elim
    | _ :: _ :: _ :: _, h => exact h.2.2.elim
  exact key x.1 x.2 y hxy hargs

end
end Go.Rf

/- Contracts out of the kit's shelf: strings.Join, strings.ReplaceAll, strings.Split (at one byte). -/
namespace Go.Rf
open Go.RowKit
set_option linter.unusedSectionVars false

/-! ### Plain -/
def joinS (sep : List UInt8) : List (List UInt8) → List UInt8
  | [] => []
  | [x] => x
  | x :: r => x ++ (sep ++ joinS sep r)

theorem joinS_eq (sep : List UInt8) : ∀ xs, Lib.join xs sep = joinS sep xs
  | [] => rfl
  | [x] => Lib.join_one x sep
  | x :: y :: r => by
    rw [Lib.join_cons, joinS, ← joinS_eq sep (y :: r), Lib.join_cons]
    · simp [Lib.joinTail]
    · simp

def joinF (xs : List (List UInt8)) (sep : List UInt8) : Option (List UInt8) := bif decide (xs.length ≤ LIM) && decide ((joinS sep xs).length ≤ LIM) then some (joinS sep xs) else none

def putFor (c : UInt8) (new : List UInt8) : List UInt8 → List UInt8
  | [] => []
  | b :: l => (if b = c then new else [b]) ++ putFor c new l

def replF (s old new : List UInt8) : Option (List UInt8) :=
  match old with
  | [c] => bif decide ((s.length + 1) * (new.length + 1) ≤ 4294967280) then some (putFor c new s) else none
  | _ => none

def cutAt (c : UInt8) : List UInt8 → List (List UInt8)
  | [] => [[]]
  | b :: l => if b = c then [] :: cutAt c l else
    match cutAt c l with
    | h :: t => (b :: h) :: t
    | [] => [[b]]

def splitF (s sep : List UInt8) : Option (List (List UInt8)) :=
  match sep with
  | [c] => bif decide (s.length ≤ 4294967280) then some (cutAt c s) else none
  | _ => none

theorem notm (i : Nat) : ¬ ((i : Int) == -1) = true := fun h => by have := beq_iff_eq.1 h; omega
theorem notm' (i : Nat) : ¬ ((i : Int) + 1 == -1) = true := fun h => by have := beq_iff_eq.1 h; omega
theorem index_here (c : UInt8) (l : List UInt8) : Lib.index (c :: l) [c] = 0 := by simp [Lib.index, List.isPrefixOf]
theorem index_there {b c : UInt8} (h : b ≠ c) (l : List UInt8) : Lib.index (b :: l) [c] = if Lib.index l [c] == -1 then -1 else Lib.index l [c] + 1 := by
  have : (c == b) = false := beq_eq_false_iff_ne.2 (Ne.symm h)
  simp [Lib.index, List.isPrefixOf, this]

theorem split_one (c : UInt8) : ∀ s : List UInt8, Lib.splitK [c] 0 (s.count c) s = cutAt c s
  | [] => rfl
  | b :: l => by
    have ih := split_one c l
    by_cases h : b = c
    · subst h
      rw [List.count_cons_self, Lib.splitK, index_here, cutAt, if_pos rfl, ← ih]
      rfl
    · rw [List.count_cons_of_ne h, cutAt, if_neg h]
      cases hk : l.count c with
      | zero =>
        rw [hk, Lib.splitK] at ih
        rw [Lib.splitK, ← ih]
      | succ k =>
        have hc : 0 < Lib.count l [c] := by rw [Lib.count_one, hk]; omega
        obtain ⟨i, hi⟩ := Lib.index_of_count hc
        rw [hk, Lib.splitK, hi, if_neg (notm i)] at ih
        rw [Lib.splitK, index_there h, hi, if_neg (notm i), if_neg (notm' i), ← ih]
        have e : ((i : Int) + 1).toNat = i + 1 := by omega
        have e' : (i : Int).toNat = i := by omega
        rw [e, e']
        rfl

theorem replK_one (c : UInt8) (new : List UInt8) : ∀ s : List UInt8, Lib.replaceK [c] new (s.count c) s = putFor c new s
  | [] => rfl
  | b :: l => by
    have ih := replK_one c new l
    by_cases h : b = c
    · subst h
      rw [List.count_cons_self, Lib.replaceK, index_here, putFor, if_pos rfl, ← ih]
      rfl
    · rw [List.count_cons_of_ne h, putFor, if_neg h]
      cases hk : l.count c with
      | zero =>
        rw [hk, Lib.replaceK] at ih
        rw [Lib.replaceK, ← ih]
        rfl
      | succ k =>
        have hc : 0 < Lib.count l [c] := by rw [Lib.count_one, hk]; omega
        obtain ⟨i, hi⟩ := Lib.index_of_count hc
        rw [hk, Lib.replaceK, hi, if_neg (notm i)] at ih
        rw [Lib.replaceK, index_there h, hi, if_neg (notm i), if_neg (notm' i), ← ih]
        have e : ((i : Int) + 1).toNat = i + 1 := by omega
        have e' : (i : Int).toNat = i := by omega
        rw [e, e']
        rfl

theorem putFor_self (c : UInt8) : ∀ s, putFor c [c] s = s
  | [] => rfl
  | b :: l => by
    rw [putFor, putFor_self c l]
    by_cases h : b = c
    · subst h; simp
    · simp [h]

theorem repl_one (c : UInt8) (new s : List UInt8) : Lib.replaceAll s [c] new = putFor c new s := by
  unfold Lib.replaceAll Lib.replace
  split
  · rename_i h
    have := beq_iff_eq.1 h
    subst this
    exact (putFor_self c s).symm
  · have : Lib.replaceNum s [c] (-1) = s.count c := by simp [Lib.replaceNum, Lib.count_one]
    rw [this]
    exact replK_one c new s

/-! ### Contracts -/
section
variable [LowTab] {P : Program}

def bas (xs : List (List UInt8)) : List ByteArray := xs.map fun x => ⟨x.toArray⟩
theorem bas_data (xs : List (List UInt8)) : (bas xs).map (·.data.toList) = xs := by
  unfold bas
  rw [List.map_map]
  conv => rhs; rw [← List.map_id xs]
  exact List.map_congr_left fun x _ => by simp

theorem rep_str {S : Nat → Prop} {w : World} {x : List UInt8} {cs : List Value} (h : Rep S w .str x cs) : cs = [.string ⟨x.toArray⟩] := h

theorem spot_of {w : World} {ad : Addr} {v : Value} (h : w.cell? ad = some v) : ad.spot = none := by
  unfold World.cell? at h
  split at h
  · split at h
    · cases h
    · rename_i h1
      cases hs : ad.spot with
      | none => rfl
      | some _ => rw [hs] at h1; simp at h1
  · cases h

theorem join_fok {n : FuncId}
    (h0 : ∀ (a : Option Addr) (c : Nat) (sep : ByteArray) (w : World), Calls P n #[.slice a 0 c, .string sep] w fun e w' => e = .returned (.string ⟨#[]⟩) ∧ w' = w)
    (h1 : ∀ (bk o c : Nat) (xs : List ByteArray) (sep : ByteArray) (w : World), (∀ (j : Nat) x, xs[j]? = some x → w.cell? ⟨bk, o + j, none⟩ = some (.string x)) → bk < w.heap.size → xs.length ≤ 140737488355328 → xs.length ≤ c →
      (Lib.join (xs.map (·.data.toList)) sep.data.toList).length ≤ 140737488355328 →
      Calls P n #[.slice (some ⟨bk, o, none⟩) xs.length c, .string sep] w fun e w' => e = .returned (.string ⟨(Lib.join (xs.map (·.data.toList)) sep.data.toList).toArray⟩) ∧ Below w.heap.size w w') :
    FOK P ⟨[.c (.sl .str), .c .str], [.c .str]⟩ (fun x => joinF x.1 x.2) n := by
  intro x y hxy w S vs hS hl hargs
  have key : ∀ (xs : List (List UInt8)) (sep y : List UInt8), joinF xs sep = some y → RSs (Gh.of S) [] w [.c (.v (.sl .str) xs), .c (.v .str sep)] vs → Calls P n vs.toArray w (Ret S w (.s (.c (.v .str y)))) := by
    intro xs sep y hxy hargs
    unfold joinF at hxy
    cases hz : (decide (xs.length ≤ LIM) && decide ((joinS sep xs).length ≤ LIM)) with
    | false => rw [hz] at hxy; cases hxy
    | true =>
    rw [hz] at hxy
    simp only [cond_true, Option.some.injEq] at hxy
    subst hxy
    simp only [Bool.and_eq_true, decide_eq_true_eq] at hz
    obtain ⟨z1, z2⟩ := hz
    match vs, hargs with
    | [v1, v2], ⟨e1, e2, _⟩ =>
      have e1' : Rep (Gh.of S).S w (.sl .str) xs [v1] := e1
      have e2' : [v2] = [Value.string ⟨sep.toArray⟩] := e2
      simp only [List.cons.injEq, and_true] at e2'
      subst e2'
      rw [Rep] at e1'
      obtain ⟨A, c, ec, hlc, hc⟩ := e1'
      simp only [List.cons.injEq, and_true] at ec
      subst ec
      cases hx : xs with
      | nil =>
        refine calls_mono (h0 A c _ w) fun e w' he => ?_
        obtain ⟨rfl, rfl⟩ := he
        exact ⟨⟨rfl, rfl, rfl, Nat.le_refl _, fun _ _ => rfl⟩, rfl⟩
      | cons x0 r =>
        obtain ⟨ad, rfl, hs, hcell⟩ := hc (by rw [hx]; exact Nat.succ_pos _)
        have hcell' : ∀ (j : Nat) (x : List UInt8), xs[j]? = some x → w.cell? (ad.add j) = some (.string ⟨x.toArray⟩) := by
          intro j x hj
          obtain ⟨rs, k1, k2⟩ := hcell j x hj
          have := rep_str k1
          subst this
          have := k2 0 _ rfl
          simpa [Ty.size, add_zero'] using this
        have hsp : ad.spot = none := by
          have := hcell' 0 x0 (by rw [hx]; rfl)
          rw [add_zero'] at this
          exact spot_of this
        obtain ⟨bk, o, sp⟩ := ad
        simp only at hsp
        subst hsp
        have := h1 bk o c (bas xs) ⟨sep.toArray⟩ w (fun j x hj => by
          unfold bas at hj
          rw [List.getElem?_map] at hj
          cases hq : xs[j]? with
          | none => rw [hq] at hj; cases hj
          | some q =>
            rw [hq] at hj
            simp only [Option.map_some, Option.some.injEq] at hj
            subst hj
            rw [← add_plain]
            exact hcell' j q hq) (hS _ hs) (by simpa [bas, LIM] using z1) (by simpa [bas] using hlc) (by rw [bas_data, joinS_eq]; simpa [LIM] using z2)
        rw [bas_data, joinS_eq] at this
        have hl' : (bas xs).length = xs.length := by simp [bas]
        rw [hl'] at this
        rw [← hx]
        refine calls_mono this fun e w' he => ?_
        obtain ⟨rfl, k1, k2, k3, k4, k5⟩ := he
        exact ⟨⟨k1, k2, k3, k4, k5⟩, rfl⟩
    | [], h => exact h.elim
    | [_], h => exact h.2.elim
    | _ :: _ :: _ :: _, h => exact h.2.2.elim
  exact key x.1 x.2 y hxy hargs

theorem repl_fok {n : FuncId} {T : World → Prop} (hlow : ∀ B w, LowAt B w → T w)
    (hc : ∀ (s old new : ByteArray) (w : World), T w → s.size < 4294967281 → 1 ≤ old.size → s.size + Lib.countB s old * new.size ≤ 140737488355328 →
      Calls P n #[.string s, .string old, .string new] w fun e w' => e = .returned (.string ⟨(Lib.replaceAll s.data.toList old.data.toList new.data.toList).toArray⟩) ∧ Below w.heap.size w w') :
    FOK P ⟨[.c .str, .c .str, .c .str], [.c .str]⟩ (fun x => replF x.1 x.2.1 x.2.2) n := by
  intro x y hxy w S vs hS hl hargs
  have key : ∀ (s old new y : List UInt8), replF s old new = some y → RSs (Gh.of S) [] w [.c (.v .str s), .c (.v .str old), .c (.v .str new)] vs → Calls P n vs.toArray w (Ret S w (.s (.c (.v .str y)))) := by
    intro s old new y hxy hargs
    match old, hxy with
    | [c], hxy =>
      unfold replF at hxy
      cases hz : decide ((s.length + 1) * (new.length + 1) ≤ 4294967280) with
      | false => simp only [hz] at hxy; cases hxy
      | true =>
      simp only [hz, cond_true, Option.some.injEq] at hxy
      subst hxy
      have hz := of_decide_eq_true hz
      match vs, hargs with
      | [v1, v2, v3], ⟨e1, e2, e3, _⟩ =>
        have e1' : [v1] = [Value.string ⟨s.toArray⟩] := e1
        have e2' : [v2] = [Value.string ⟨[c].toArray⟩] := e2
        have e3' : [v3] = [Value.string ⟨new.toArray⟩] := e3
        simp only [List.cons.injEq, and_true] at e1' e2' e3'
        subst e1'; subst e2'; subst e3'
        have hs : s.length < 4294967281 := by
          have : s.length + 1 ≤ (s.length + 1) * (new.length + 1) := Nat.le_mul_of_pos_right _ (Nat.succ_pos _)
          omega
        have h2 : s.length + s.length * new.length ≤ (s.length + 1) * (new.length + 1) := by
          rw [Nat.add_mul, Nat.mul_add, Nat.mul_add]; omega
        have hcb := Lib.countB_le ⟨[c].toArray⟩ (Nat.le_refl 1) s.length ⟨s.toArray⟩ (Nat.le_refl _)
        have hcb' : Lib.countB ⟨s.toArray⟩ ⟨[c].toArray⟩ * new.length ≤ s.length * new.length := Nat.mul_le_mul_right _ hcb
        refine calls_mono (hc ⟨s.toArray⟩ ⟨[c].toArray⟩ ⟨new.toArray⟩ w (hlow _ w hl) hs (Nat.le_refl 1) (by show s.length + Lib.countB _ _ * new.length ≤ _; omega)) fun e w' he => ?_
        obtain ⟨rfl, k1, k2, k3, k4, k5⟩ := he
        have hr : Lib.replaceAll s [c] new = putFor c new s := repl_one c new s
        have hv : (Value.string ⟨(Lib.replaceAll (⟨s.toArray⟩ : ByteArray).data.toList (⟨[c].toArray⟩ : ByteArray).data.toList (⟨new.toArray⟩ : ByteArray).data.toList).toArray⟩) = .string ⟨(putFor c new s).toArray⟩ := by rw [← hr]
        rw [hv]
        exact ⟨⟨k1, k2, k3, k4, k5⟩, rfl⟩
      | [], h => exact h.elim
      | [_], h => exact h.2.elim
      | [_, _], h => exact h.2.2.elim
      | _ :: _ :: _ :: _ :: _, h => exact h.2.2.2.elim
    | [], hxy => cases hxy
    | _ :: _ :: _, hxy => cases hxy
  exact key x.1 x.2.1 x.2.2 y hxy hargs

theorem split_fok {n : FuncId} {t : TypeId} {T : World → Prop} (hlow : ∀ B w, LowAt B w → T w)
    (hc : ∀ (s sep : ByteArray) (w : World), T w → s.size < 4294967281 → 1 ≤ sep.size →
      Calls P n #[.string s, .string sep] w fun e w' => e = .returned (.slice (some ⟨w.heap.size, 0, none⟩) (Lib.countB s sep + 1) (Lib.countB s sep + 1)) ∧ w' = w.alloc (.cells ((Lib.splitB sep 0 (Lib.countB s sep) s).map Value.string).toArray t)) :
    FOK P ⟨[.c .str, .c .str], [.c (.sl .str)]⟩ (fun x => splitF x.1 x.2) n := by
  intro x y hxy w S vs hS hl hargs
  have key : ∀ (s sep : List UInt8) (y : List (List UInt8)), splitF s sep = some y → RSs (Gh.of S) [] w [.c (.v .str s), .c (.v .str sep)] vs → Calls P n vs.toArray w (Ret S w (.s (.c (.v (.sl .str) y)))) := by
    intro s sep y hxy hargs
    match sep, hxy with
    | [c], hxy =>
      unfold splitF at hxy
      cases hz : decide (s.length ≤ 4294967280) with
      | false => simp only [hz] at hxy; cases hxy
      | true =>
      simp only [hz, cond_true, Option.some.injEq] at hxy
      subst hxy
      have hz := of_decide_eq_true hz
      match vs, hargs with
      | [v1, v2], ⟨e1, e2, _⟩ =>
        have e1' : [v1] = [Value.string ⟨s.toArray⟩] := e1
        have e2' : [v2] = [Value.string ⟨[c].toArray⟩] := e2
        simp only [List.cons.injEq, and_true] at e1' e2'
        subst e1'; subst e2'
        refine calls_mono (hc ⟨s.toArray⟩ ⟨[c].toArray⟩ w (hlow _ w hl) (by show s.length < _; omega) (Nat.le_refl 1)) fun e w' he => ?_
        obtain ⟨rfl, rfl⟩ := he
        have hcnt : Lib.countB ⟨s.toArray⟩ ⟨[c].toArray⟩ = s.count c := Lib.count_one c s
        have hall := Lib.splitB_all ⟨[c].toArray⟩ (Nat.le_refl 1) 0 _ ⟨s.toArray⟩ rfl
        have hdat : (Lib.splitB ⟨[c].toArray⟩ 0 (Lib.countB ⟨s.toArray⟩ ⟨[c].toArray⟩) ⟨s.toArray⟩).map (·.data.toList) = cutAt c s := by
          rw [Lib.splitB_data, hcnt]
          exact split_one c s
        generalize Lib.splitB ⟨[c].toArray⟩ 0 (Lib.countB ⟨s.toArray⟩ ⟨[c].toArray⟩) ⟨s.toArray⟩ = L at hall hdat ⊢
        generalize Lib.countB ⟨s.toArray⟩ ⟨[c].toArray⟩ = k at hall ⊢
        have hlen : (cutAt c s).length = k + 1 := by rw [← hdat, List.length_map, hall]
        refine ⟨⟨rfl, rfl, rfl, by show _ ≤ (Array.push _ _).size; rw [Array.size_push]; exact Nat.le_succ _, fun g hg => ?_⟩, ?_⟩
        · show (Array.push _ _)[g]? = _
          rw [Array.getElem?_push_lt hg]
          exact (Array.getElem?_eq_getElem hg).symm
        · show Rep _ _ (.sl .str) (cutAt c s) _
          rw [Rep]
          refine ⟨_, _, by rw [show List.length (α := Ty.str.den) (cutAt c s) = k + 1 from hlen], by rw [show List.length (α := Ty.str.den) (cutAt c s) = k + 1 from hlen]; exact Nat.le_refl _, fun _ => ⟨_, rfl, ?_, fun j x hj => ⟨[.string ⟨x.toArray⟩], rfl, ?_⟩⟩⟩
          · exact .inr ⟨Nat.le_refl _, by show _ < (Array.push _ _).size; rw [Array.size_push]; exact Nat.lt_succ_self _⟩
          · intro i u hu
            match i, hu with
            | 0, hu =>
              simp only [List.getElem?_cons_zero, Option.some.injEq] at hu
              subst hu
              rw [add_zero', add_plain]
              have hj' : (cutAt c s)[j]? = some x := hj
              rw [← hdat, List.getElem?_map] at hj'
              cases hq : L[j]? with
              | none => rw [hq] at hj'; cases hj'
              | some q =>
                rw [hq] at hj'
                simp only [Option.map_some, Option.some.injEq] at hj'
                subst hj'
                have hh : (w.alloc (.cells (L.map Value.string).toArray t)).heap[w.heap.size]? = some (.cells (L.map Value.string).toArray t (0, 0)) := by
                  show (Array.push _ _)[w.heap.size]? = _
                  rw [Array.getElem?_push_size]
                unfold World.cell?
                simp only [hh]
                simp [Ty.size, hq]
            | i + 1, hu => simp at hu
      | [], h => exact h.elim
      | [_], h => exact h.2.elim
      | _ :: _ :: _ :: _, h => exact h.2.2.elim
    | [], hxy => cases hxy
    | _ :: _ :: _, hxy => cases hxy
  exact key x.1 x.2 y hxy hargs

end
/-! ### What is laid low, together -/
/-- A package variable that is a whole number. -/
@[reducible] def cellLow (g : Nat) : LowTab := ⟨[g], fun _ o => ∀ w : World, w.heap[g]? = some o → ∃ m : Int, w.cell? ⟨g, 0, none⟩ = some (.int .i64 m)⟩
theorem cellLow_is {g B : Nat} {w : World} (h : @LowAt (cellLow g) B w) : ∃ m : Int, w.cell? ⟨g, 0, none⟩ = some (.int .i64 m) := by
  obtain ⟨_, o, h1, h2⟩ := h g (List.mem_singleton_self g)
  exact h2 w h1
theorem cellLow_at {g : Nat} {m : Int} {w : World} (h : w.cell? ⟨g, 0, none⟩ = some (.int .i64 m)) : @LowAt (cellLow g) w.heap.size w := by
  intro i hi
  have e : i = g := List.mem_singleton.1 hi
  subst e
  have hlt : i < w.heap.size := World.block_lt_of_cell? _ _ h
  exact ⟨hlt, w.heap[i], Array.getElem?_eq_getElem hlt, fun w' hw' => ⟨m, by
    rw [cell_eq (w := w) (a := ⟨i, 0, none⟩) (hw'.trans (Array.getElem?_eq_getElem hlt).symm)]
    exact h⟩⟩

@[reducible] def andLow (a b : LowTab) : LowTab := ⟨a.ks ++ b.ks, fun k o => (k ∈ a.ks → a.ok k o) ∧ (k ∈ b.ks → b.ok k o)⟩
theorem low_left {a b : LowTab} {B : Nat} {w : World} (h : @LowAt (andLow a b) B w) : @LowAt a B w := fun k hk => by
  obtain ⟨h1, o, h2, h3⟩ := h k (List.mem_append_left _ hk)
  exact ⟨h1, o, h2, h3.1 hk⟩
theorem low_right {a b : LowTab} {B : Nat} {w : World} (h : @LowAt (andLow a b) B w) : @LowAt b B w := fun k hk => by
  obtain ⟨h1, o, h2, h3⟩ := h k (List.mem_append_right _ hk)
  exact ⟨h1, o, h2, h3.2 hk⟩
theorem low_both {a b : LowTab} {B : Nat} {w : World} (h : @LowAt a B w) (k : @LowAt b B w) : @LowAt (andLow a b) B w := fun i hi => by
  have hh : ∃ o, w.heap[i]? = some o ∧ i < B := by
    rcases List.mem_append.1 hi with h1 | h1
    · obtain ⟨h2, o, h3, _⟩ := h i h1
      exact ⟨o, h3, h2⟩
    · obtain ⟨h2, o, h3, _⟩ := k i h1
      exact ⟨o, h3, h2⟩
  obtain ⟨o, h1, h2⟩ := hh
  refine ⟨h2, o, h1, fun h3 => ?_, fun h3 => ?_⟩
  · obtain ⟨_, o', h4, h5⟩ := h i h3
    rw [h1] at h4
    injection h4 with h4
    subst h4
    exact h5
  · obtain ⟨_, o', h4, h5⟩ := k i h3
    rw [h1] at h4
    injection h4 with h4
    subst h4
    exact h5

end Go.Rf

