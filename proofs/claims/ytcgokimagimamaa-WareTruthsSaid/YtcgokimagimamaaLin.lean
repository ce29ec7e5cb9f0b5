/- Laws of my own: a region that draws its order, walked once, in one order: each operation yields the same value in every world in which the old blocks are as they were. -/
import Derived.OrdersHeld
import Derived.Below
import Derived.Laws.World
namespace Go.Proofs.Ytcgokimagimamaa
open Go.RowKit

theorem hidI {p : Prop} (h : p) : Hid p := h

section
variable {P : Program} {ops : Array Oper} {Q : Exit → Act → World → Prop} {md : Region.Mode} {S : World → Prop}

/-- Whatever order is picked from here on, in every world that meets S: operation t comes last, and may do what it likes. -/
def wpAnyS (P : Program) (md : Region.Mode) (ops : Array Oper) (Q : Exit → Act → World → Prop) (S : World → Prop) (t : Nat) : Nat → Array Bool → Act → Prop
  | 0, listed, a => Region.ready md ops listed = [] ∧ ∀ w, S w → Q .normal a w
  | fuel + 1, listed, a => ((∀ j ∈ Region.ready md ops listed, j = t) → ∀ w, S w → wpAny P md ops Q (fuel + 1) listed a w) ∧
    ∀ i ∈ Region.ready md ops listed, i ≠ t → ∀ w, S w → wpOp P ops Q i (fun a' w' => S w' ∧ wpAnyS P md ops Q S t fuel (listed.setIfInBounds i true) a') a w

/-- What has come up has all that it waits for. -/
def Closed (md : Region.Mode) (ops : Array Oper) (listed : Array Bool) : Prop :=
  ∀ j o, ops[j]? = some o → listed.getD j false = true → ∀ e ∈ o.after, Region.binds md e = true → listed.getD e.on false = true

theorem Closed.set {listed : Array Bool} {i : Nat} (h : Closed md ops listed) (hi : i ∈ Region.ready md ops listed) : Closed md ops (listed.setIfInBounds i true) := by
  intro j o ho hj e he hb
  by_cases hij : i = j
  · subst hij
    obtain ⟨_, o', ho', hall⟩ := mem_ready.1 hi
    rw [ho] at ho'
    injection ho' with ho'
    subst ho'
    exact getD_set_true (hall e he hb)
  · rw [getD_set_ne false hij] at hj
    exact getD_set_true (h j o ho hj e he hb)

/-- Every operation but t has one behind it that waits for it. -/
def oneEnd (md : Region.Mode) (ops : Array Oper) (t : Nat) : Bool :=
  (List.range ops.size).all fun j => j == t || (List.range ops.size).any fun k => decide (j < k) && ((ops[k]?).map fun o => o.after.any fun e => Region.binds md e && e.on == j).getD false

theorem oneEnd_spec {t : Nat} (h : oneEnd md ops t = true) {listed : Array Bool} (hc : Closed md ops listed) (ht : t ∈ Region.ready md ops listed) :
    ∀ j ∈ Region.ready md ops listed, j = t := by
  have key : ∀ d j, j < ops.size → ops.size - j = d → j ≠ t → listed.getD j false = true := by
    intro d
    induction d using Nat.strongRecOn with
    | _ d ih =>
      intro j hj hd hjt
      simp only [oneEnd, List.all_eq_true, List.mem_range] at h
      have h1 := h j hj
      simp only [Bool.or_eq_true, beq_iff_eq, hjt, false_or, List.any_eq_true, List.mem_range, Bool.and_eq_true, decide_eq_true_eq] at h1
      obtain ⟨k, hk, hjk, hw⟩ := h1
      cases ho : ops[k]? with
      | none => simp [ho] at hw
      | some o =>
        simp only [ho, Option.map_some, Option.getD_some] at hw
        obtain ⟨e, he, hb⟩ := Array.any_eq_true'.1 hw
        simp only [Bool.and_eq_true, beq_iff_eq] at hb
        by_cases hkt : k = t
        · subst hkt
          obtain ⟨_, o', ho', hall⟩ := mem_ready.1 ht
          rw [ho] at ho'
          injection ho' with ho'
          subst ho'
          have := hall e he hb.1
          rwa [hb.2] at this
        · have h2 := ih (ops.size - k) (by omega) k hk rfl hkt
          have h3 := hc k o ho h2 e he hb.1
          rwa [hb.2] at h3
  intro j hj
  by_cases hjt : j = t
  · exact hjt
  · exfalso
    obtain ⟨h0, o, ho, _⟩ := mem_ready.1 hj
    have hlt := (Array.getElem?_eq_some_iff.1 ho).1
    have h1 := key _ j hlt rfl hjt
    rcases Nat.lt_or_ge j listed.size with h' | h'
    · simp [h'] at h0 h1; rw [h0] at h1; cases h1
    · simp [Array.getElem?_eq_none h'] at h1

theorem wpAny_of_S {t : Nat} (hT : ∀ listed, Closed md ops listed → t ∈ Region.ready md ops listed → ∀ j ∈ Region.ready md ops listed, j = t) :
    ∀ (fuel : Nat) (listed : Array Bool) (a : Act) (w : World), Closed md ops listed → S w → wpAnyS P md ops Q S t fuel listed a → wpAny P md ops Q fuel listed a w
  | 0, _, _, w, _, hS, h => ⟨h.1, h.2 w hS⟩
  | fuel + 1, listed, a, w, hc, hS, h => by
    refine ⟨fun e => (h.1 (by rw [e]; intro j hj; cases hj) w hS).1 e, fun i hi => ?_⟩
    by_cases hit : i = t
    · subst hit
      exact (h.1 (hT listed hc hi) w hS).2 i hi
    · exact wpOp_mono (fun a' w' h' => wpAny_of_S hT fuel _ a' w' (hc.set hi) h'.1 h'.2) (h.2 i hi hit w hS)

/-- In state a, in every world that meets S, operation o leaves v in its temporary, and a world that meets S. -/
def YieldsS (P : Program) (ops : Array Oper) (S : World → Prop) (o : Oper) (v : Value) (a : Act) : Prop :=
  (Region.wanted o (yielded ops a.tmps) = true ∧ ∀ w, S w → o.wp P a w (fun a' w' => a' = a.put o.dst v ∧ S w') (fun _ _ _ => False)) ∨
  (Region.wanted o (yielded ops a.tmps) = false ∧ v = undef)

theorem YieldsIf.yieldsS {o : Oper} {v : Value} {a : Act} (h : YieldsIf P ops S o v a) : YieldsS P ops S o v a :=
  h.imp (fun ⟨hw, hv⟩ => ⟨hw, fun w hS => by simp only [Oper.wp, hv w hS, Oper.upon]; exact ⟨trivial, hS⟩⟩) id

theorem Oper.wp_weak {o : Oper} {a : Act} {w : World} {K K' : Act → World → Prop} (h : ∀ a w, K a w → K' a w)
    (hh : o.wp P a w K (fun _ _ _ => False)) : o.wp P a w K' Q := by
  unfold Oper.wp at *
  generalize (execOp a.eval o).run P w = r at *
  cases r with
  | ok n w' =>
    cases n <;> simp only [Oper.upon] at hh ⊢ <;>
      first
        | exact h _ _ hh
        | exact Calls.mono hh (fun e w'' he => by cases e <;> first | exact h _ _ he | exact he.elim | (obtain ⟨_, _, hf⟩ := he; exact hf.elim))
        | exact Rows.mono hh (fun _ _ he => h _ _ he)
  | halt x w' => cases x <;> simp only [Oper.upon] at hh ⊢

theorem YieldsS.wpOp {i : Nat} {o : Oper} {v : Value} {a : Act} (hi : ops[i]? = some o) (hy : YieldsS P ops S o v a)
    {K : Act → World → Prop} {w : World} (hS : S w) (h : ∀ w', S w' → K (a.put o.dst v) w') : wpOp P ops Q i K a w := by
  unfold Go.wpOp
  simp only [hi]
  rcases hy with ⟨hw, hv⟩ | ⟨hw, rfl⟩
  · simp only [hw, if_true]
    exact .inl (Oper.wp_weak (fun a' w' ⟨e, hs⟩ => e ▸ h w' hs) (hv w hS))
  · simp only [hw, Bool.false_eq_true, if_false]; exact h w hS

theorem put_turn {a a' : Act} {dst : Option Tmp} {u v : Value} (hz : a'.tmps.size = a.tmps.size) (h : a.put dst u = a.put dst v) : a'.put dst u = a'.put dst v := by
  cases dst with
  | none => rfl
  | some d =>
    simp only [Act.put] at h ⊢
    injection h with h1 _
    by_cases hd : d < a.tmps.size
    · have h2 := congrArg (fun x => x[d]?) h1
      simp [hd] at h2
      rw [h2]
    · have e : ∀ x : Value, a'.tmps.setIfInBounds d x = a'.tmps := fun x => Array.setIfInBounds_eq_of_size_le (by rw [hz]; exact Nat.le_of_not_lt hd)
      rw [e, e]

theorem YieldsS.of_same {o : Oper} {v : Value} {a a' : Act} (hy : YieldsS P ops S o v a) (hz : a'.tmps.size = a.tmps.size) (he : execOp a'.eval o = execOp a.eval o)
    (hw : Region.wanted o (yielded ops a'.tmps) = Region.wanted o (yielded ops a.tmps)) : YieldsS P ops S o v a' := by
  unfold YieldsS at *
  rw [hw]
  refine hy.imp (fun ⟨h1, h2⟩ => ⟨h1, fun w hS => ?_⟩) id
  have h3 := h2 w hS
  unfold Oper.wp at *
  rw [he]
  generalize (execOp a.eval o).run P w = r at *
  cases r with
  | ok n w' =>
    cases n <;> simp only [Oper.upon] at h3 ⊢
    case value u => exact ⟨put_turn hz h3.1, h3.2⟩
    case skip => exact ⟨put_turn hz h3.1, h3.2⟩
    case defer d =>
      exfalso
      have h4 := congrArg (fun x => x.defers.length) h3.1
      cases hd : o.dst <;> simp [Act.put, hd] at h4
    case enter f args => exact Calls.mono h3 (fun e w'' he => by
      cases e with
      | returned u => exact ⟨put_turn hz he.1, he.2⟩
      | panicked c => exact he
      | outgrown => exact he)
    case row row args => exact Rows.mono h3 (fun u w'' he => ⟨put_turn hz he.1, he.2⟩)
  | halt x w' => cases x <;> simp only [Oper.upon] at h3 ⊢

theorem wpOp_putS {j : Nat} {oi oj : Oper} {v : Value} (hj : ops[j]? = some oj) (hap : oi.apart ops oj = true)
    (hsi : ∀ cs b, oi.op ≠ .select cs b) (hsj : ∀ cs b, oj.op ≠ .select cs b)
    (hQ : ∀ c a w, Q (.panic c) (a.put oi.dst v) w → Q (.panic c) a w) {K : Act → World → Prop} {a : Act} {w : World}
    (hy : YieldsS P ops S oi v a) (h : wpOp P ops Q j K (a.put oi.dst v) w) :
    wpOp P ops Q j (fun a' w' => YieldsS P ops S oi v a' ∧ K (a'.put oi.dst v) w') a w := by
  obtain ⟨h1, h2, h3⟩ := Oper.apart_spec hap
  have hsz : ∀ (a : Act) (d : Option Tmp) (u : Value), (a.put d u).tmps.size = a.tmps.size := fun a d u => by cases d <;> simp [Act.put]
  have keep : ∀ (a : Act), YieldsS P ops S oi v a → ∀ u, YieldsS P ops S oi v (a.put oj.dst u) := fun a hy u =>
    hy.of_same (hsz _ _ _) (execOp_put oi hsi a oj.dst u h3) (wanted_put oi a oj.dst u h3)
  have keepD : ∀ d, YieldsS P ops S oi v { a with defers := d :: a.defers } := fun d => hy.of_same rfl rfl rfl
  unfold wpOp at *
  simp only [hj] at *
  rw [wanted_put oj a oi.dst v h1] at h
  split
  · rename_i hw
    simp only [hw, if_true] at h
    rcases h with h | ⟨hasks, hlets⟩
    case inr => exact .inr ⟨by unfold Oper.asks at *; rw [execOp_put oj hsj a oi.dst v h1] at hasks; exact hasks, hlets⟩
    refine .inl ?_
    unfold Oper.wp at *
    rw [execOp_put oj hsj a oi.dst v h1] at h
    generalize (execOp a.eval oj).run P w = r at *
    cases r with
    | ok n w' =>
      cases n <;> simp only [Oper.upon] at h ⊢
      case value u => exact ⟨keep a hy u, by rw [← Act.put_comm a v u h2]; exact h⟩
      case skip => exact ⟨keep a hy _, by rw [← Act.put_comm a v undef h2]; exact h⟩
      case defer d =>
        refine ⟨(keepD d).of_same (hsz _ _ _) (execOp_put oi hsi _ oj.dst undef h3) (wanted_put oi _ oj.dst undef h3), ?_⟩
        rw [← Act.put_comm _ v undef h2, ← Act.put_defers]
        exact h
      case enter f args =>
        refine Calls.mono h fun e w'' he => ?_
        cases e with
        | returned u => exact ⟨keep a hy u, by rw [← Act.put_comm a v u h2]; exact he⟩
        | panicked c => exact hQ _ _ _ he
        | outgrown => exact he
      case row row args => exact Rows.mono h fun u w'' he => ⟨keep a hy u, by rw [← Act.put_comm a v u h2]; exact he⟩
    | halt x w' =>
      cases x <;> simp only [Oper.upon] at h ⊢
      case panic u => exact hQ _ _ _ h
  · rename_i hw
    simp only [hw] at h
    exact ⟨keep a hy _, by rw [← Act.put_comm a v undef h2]; exact h⟩

theorem wpAnyS_first {i t : Nat} {oi : Oper} {v : Value} (hit : i ≠ t) (hi : ops[i]? = some oi) (hsel : ∀ (j : Nat) (o : Oper) cs b, ops[j]? = some o → o.op ≠ .select cs b)
    (hQ : ∀ c a w, Q (.panic c) (a.put oi.dst v) w → Q (.panic c) a w) :
    ∀ (fuel : Nat) (listed : Array Bool) (a : Act),
      (∀ j oj, ops[j]? = some oj → j ≠ i → listed.getD j true = false → (∀ e ∈ oj.after, Region.binds md e = true → e.on ≠ i) → oi.apart ops oj = true) →
      i ∈ Region.ready md ops listed → YieldsS P ops S oi v a →
      wpAnyS P md ops Q S t fuel (listed.setIfInBounds i true) (a.put oi.dst v) → wpAnyS P md ops Q S t (fuel + 1) listed a := by
  intro fuel
  induction fuel with
  | zero =>
    intro listed a _ hr hy H
    refine ⟨fun h => absurd (h i hr) hit, fun j hj _ w hS => ?_⟩
    by_cases hji : j = i
    · subst hji; exact hy.wpOp hi hS (fun w' hS' => ⟨hS', H⟩)
    · have := ready_mono hj hji
      rw [H.1] at this
      cases this
  | succ fuel ih =>
    intro listed a hfree hr hy H
    refine ⟨fun h => absurd (h i hr) hit, fun j hj hjt w hS => ?_⟩
    by_cases hji : j = i
    · subst hji; exact hy.wpOp hi hS (fun w' hS' => ⟨hS', H⟩)
    · have h1 := H.2 j (ready_mono hj hji) hjt w hS
      obtain ⟨hjun, oj, hoj, hall⟩ := mem_ready.1 hj
      have hnot : ∀ e ∈ oj.after, Region.binds md e = true → e.on ≠ i := fun e he hb heq => by
        have h1 := hall e he hb
        have h0 := (mem_ready.1 hr).1
        rw [heq] at h1
        rcases Nat.lt_or_ge i listed.size with h' | h'
        · simp [h'] at h0 h1; rw [h0] at h1; cases h1
        · simp [Array.getElem?_eq_none h'] at h1
      have h2 := wpOp_putS hoj (hfree j oj hoj hji hjun hnot) (fun cs b => hsel i oi cs b hi) (fun cs b => hsel j oj cs b hoj) hQ hy h1
      have hfree' : ∀ k ok, ops[k]? = some ok → k ≠ i → (listed.setIfInBounds j true).getD k true = false →
          (∀ e ∈ ok.after, Region.binds md e = true → e.on ≠ i) → oi.apart ops ok = true := fun k ok hk hki hun hno => by
        refine hfree k ok hk hki ?_ hno
        by_cases hjk : j = k
        · subst hjk; exact hjun
        · rw [getD_set_ne true hjk] at hun; exact hun
      refine wpOp_mono (fun a' w' h3 => ⟨h3.2.1, ih (listed.setIfInBounds j true) a' hfree' (ready_mono hr (Ne.symm hji)) h3.1 ?_⟩) h2
      rw [Array.setIfInBounds_comm _ _ hji]
      exact h3.2.2
end

/-! ### S: the old blocks are as they were -/
section
variable {P : Program} {ops : Array Oper} {Q : Exit → Act → World → Prop} {W : World}

/-- In every world in which W's blocks are as they were. -/
def OldAs (W w : World) : Prop := Below W.heap.size W w

theorem OldAs.below {w : World} (h : OldAs W w) : Below W.heap.size W w := h
theorem OldAs.cells {w : World} (h : OldAs W w) (p : Addr) (hp : p.block < W.heap.size) : w.cell? p = W.cell? p := Below.cell h hp

/-- The rest of a region, from a state on, in every such world; t comes last. -/
def Lin (P : Program) (ops : Array Oper) (Q : Exit → Act → World → Prop) (W : World) (t : Nat) (fuel : Nat) (listed : Array Bool) (a : Act) : Prop :=
  wpAnyS P .any ops Q (OldAs W) t fuel listed a

theorem lin_begin (t : Nat) {id : Nat} {a : Act} (hm : P.follows .mixedOrders = true) (ht : oneEnd .any ops t = true)
    (h : Lin P ops Q W t ops.size (Array.replicate ops.size false) a) : (Code.region id ops true).wp P Q a W :=
  wp_region_any hm (wpAny_of_S (fun _ hc hr => oneEnd_spec ht hc hr) _ _ _ _
    (fun j o _ hj => by
      exfalso
      rcases Nat.lt_or_ge j ops.size with h' | h'
      · simp [h'] at hj
      · simp [Array.getElem?_eq_none (xs := Array.replicate ops.size false) (by simpa using h')] at hj) ((Below.refl _ _).drew) h)

/-- No operation that does more: whatever order. -/
theorem lin_begin_all {id : Nat} {a : Act} (hm : P.follows .mixedOrders = true)
    (h : Lin P ops Q W ops.size ops.size (Array.replicate ops.size false) a) : (Code.region id ops true).wp P Q a W :=
  wp_region_any hm (wpAny_of_S (fun _ _ hr => by
      exfalso
      obtain ⟨_, o, ho, _⟩ := mem_ready.1 hr
      have := (Array.getElem?_eq_some_iff.1 ho).1
      omega) _ _ _ _
    (fun j o _ hj => by
      exfalso
      rcases Nat.lt_or_ge j ops.size with h' | h'
      · simp [h'] at hj
      · simp [Array.getElem?_eq_none (xs := Array.replicate ops.size false) (by simpa using h')] at hj) ((Below.refl _ _).drew) h)

section
variable {t : Nat} {oi : Oper} {v : Value} {fuel : Nat} {listed : Array Bool} {a : Act}
/-- An operation that only computes, or reads. -/
theorem lin_take (i : Nat) (hit : i ≠ t) (hi : ops[i]? = some oi)
    (hs : Region.noSelect ops = true) (hf : Region.free .any ops listed i = true) (hr : (Region.ready .any ops listed).contains i = true)
    (hQ : ∀ c a w, Q (.panic c) (a.put oi.dst v) w → Q (.panic c) a w)
    (hw : Region.wanted oi (yielded ops a.tmps) = true)
    (hy : ∀ w, OldAs W w → (∀ p : Addr, p.block < W.heap.size → w.cell? p = W.cell? p) → (execOp a.eval oi).run P w = .ok (.value v) w)
    (h : Lin P ops Q W t fuel (listed.setIfInBounds i true) (a.put oi.dst v)) : Lin P ops Q W t (fuel + 1) listed a :=
  wpAnyS_first hit hi (Region.noSelect_spec hs) hQ fuel listed a (Region.free_spec hi hf) (by simpa using hr)
    (YieldsIf.yieldsS (Or.inl ⟨hw, fun w hS => hy w hS (OldAs.cells hS)⟩)) h

/-- An operation that is not wanted. -/
theorem lin_skip (i : Nat) (hit : i ≠ t) (hi : ops[i]? = some oi)
    (hs : Region.noSelect ops = true) (hf : Region.free .any ops listed i = true) (hr : (Region.ready .any ops listed).contains i = true)
    (hQ : ∀ c a w, Q (.panic c) (a.put oi.dst undef) w → Q (.panic c) a w)
    (hw : Region.wanted oi (yielded ops a.tmps) = false)
    (h : Lin P ops Q W t fuel (listed.setIfInBounds i true) (a.put oi.dst undef)) : Lin P ops Q W t (fuel + 1) listed a :=
  wpAnyS_first hit hi (Region.noSelect_spec hs) hQ fuel listed a (Region.free_spec hi hf) (by simpa using hr) (Or.inr ⟨hw, rfl⟩) h

/-- A call that answers the same in every such world. -/
theorem lin_call (i : Nat) {g : FuncId} {args : Array Value} (hit : i ≠ t) (hi : ops[i]? = some oi)
    (hs : Region.noSelect ops = true) (hf : Region.free .any ops listed i = true) (hr : (Region.ready .any ops listed).contains i = true)
    (hQ : ∀ c a w, Q (.panic c) (a.put oi.dst v) w → Q (.panic c) a w)
    (hw : Region.wanted oi (yielded ops a.tmps) = true)
    (hy : ∀ w, (execOp a.eval oi).run P w = .ok (.enter g args) w)
    (hc : ∀ w, OldAs W w → (∀ p : Addr, p.block < W.heap.size → w.cell? p = W.cell? p) → Calls P g args w fun e w' => e = .returned v ∧ Below w.heap.size w w')
    (h : Lin P ops Q W t fuel (listed.setIfInBounds i true) (a.put oi.dst v)) : Lin P ops Q W t (fuel + 1) listed a :=
  wpAnyS_first hit hi (Region.noSelect_spec hs) hQ fuel listed a (Region.free_spec hi hf) (by simpa using hr)
    (Or.inl ⟨hw, fun w hS => by
      simp only [Oper.wp, hy w, Oper.upon]
      refine (hc w hS (OldAs.cells hS)).mono fun e w' he => ?_
      obtain ⟨rfl, hb⟩ := he
      exact ⟨rfl, Below.trans hS (Below.mono hb (Below.size hS))⟩⟩) h

/-- The one operation that is left: whatever it does. -/
theorem lin_last (hi : ops[t]? = some oi) (hr : Region.ready .any ops listed = [t])
    (hd : Region.ready .any ops (listed.setIfInBounds t true) = [])
    (hw : Region.wanted oi (yielded ops a.tmps) = true)
    (h : ∀ w, OldAs W w → (∀ p : Addr, p.block < W.heap.size → w.cell? p = W.cell? p) → (∀ p : Addr, p.block < W.heap.size → w.frozen? p = W.frozen? p) →
      ∀ K : Act → World → Prop, (∀ a' w', Q .normal a' w' → K a' w') → oi.wp P a w K Q) : Lin P ops Q W t 1 listed a :=
  ⟨fun _ w hS => ⟨fun e => (by rw [hr] at e; cases e), fun j hj => by
    rw [hr] at hj
    obtain rfl : j = t := by simpa using hj
    unfold wpOp
    simp only [hi, hw, if_true]
    exact .inl (h w hS (OldAs.cells hS) (fun p hp => Below.frozen hS hp) _ (fun a' w' hq => ⟨hd, hq⟩))⟩,
   fun i hi2 hne => by rw [hr] at hi2; exact absurd (by simpa using hi2) hne⟩

/-- Nothing is left. -/
theorem lin_done (hr : Region.ready .any ops listed = [])
    (h : ∀ w, OldAs W w → (∀ p : Addr, p.block < W.heap.size → w.cell? p = W.cell? p) → (∀ p : Addr, p.block < W.heap.size → w.frozen? p = W.frozen? p) → Q .normal a w) : ∀ fuel, Lin P ops Q W t fuel listed a
  | 0 => ⟨hr, fun w hS => h w hS (OldAs.cells hS) (fun p hp => Below.frozen hS hp)⟩
  | _ + 1 => ⟨fun _ w hS => ⟨fun _ => h w hS (OldAs.cells hS) (fun p hp => Below.frozen hS hp), by rw [hr]; simp⟩, by rw [hr]; simp⟩
end
end
end Go.Proofs.Ytcgokimagimamaa
