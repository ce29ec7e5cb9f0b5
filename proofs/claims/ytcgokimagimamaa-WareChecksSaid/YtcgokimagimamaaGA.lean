/- Laws of my own: a region that draws its order, walked once, in one order: each operation yields the same value in every world in which the old blocks are as they were. -/
import Derived.OrdersHeld
import Derived.Below
import Derived.Laws.World
import Derived.WalkKit
import Derived.WalkSpells
import Derived.Deep.Draws
import Derived.LoopN
namespace Go.Proofs.Ytcgokimagimamaa
open Go.RowKit

theorem hidI {p : Prop} (h : p) : Hid p := h

section
variable {P : Program} {ops : Array Oper} {Q : Exit → Act → World → Prop} {md : Region.Mode} {S : World → Prop}

/-- Whatever order is picked from here on, in every world that meets S: operation t comes last, and may do what it likes. -/
def wpAnyS (P : Program) (md : Region.Mode) (ops : Array Oper) (Q : Exit → Act → World → Prop) (S : World → Prop) (t : Nat) : Nat → Array Bool → Act → Prop
  | 0, listed, a => Region.ready md ops listed = [] ∧ ∀ w, S w → Q .normal a w
  | fuel + 1, listed, a => ((∀ j ∈ Region.ready md ops listed, j = t) → ∀ w, S w → wpAny P md ops Q (fuel + 1) listed a w) ∧
    ∀ i ∈ Region.ready md ops listed, i ≠ t → ∀ w, S w → wpOp P ops Q i (fun a' w' => S w' ∧ wpAnyS P md ops Q S t fuel (listed.setIfInBounds i true) a') a w

/-- What has come up has all that it waits for. -/
def Closed (md : Region.Mode) (ops : Array Oper) (listed : Array Bool) : Prop :=
  ∀ j o, ops[j]? = some o → listed.getD j false = true → ∀ e ∈ o.after, Region.binds md e = true → listed.getD e.on false = true

theorem Closed.set {listed : Array Bool} {i : Nat} (h : Closed md ops listed) (hi : i ∈ Region.ready md ops listed) : Closed md ops (listed.setIfInBounds i true) := by
  intro j o ho hj e he hb
  by_cases hij : i = j
  · subst hij
    obtain ⟨_, o', ho', hall⟩ := mem_ready.1 hi
    rw [ho] at ho'
    injection ho' with ho'
    subst ho'
    exact getD_set_true (hall e he hb)
  · rw [getD_set_ne false hij] at hj
    exact getD_set_true (h j o ho hj e he hb)

/-- Every operation but t has one behind it that waits for it. -/
def oneEnd (md : Region.Mode) (ops : Array Oper) (t : Nat) : Bool :=
  (List.range ops.size).all fun j => j == t || (List.range ops.size).any fun k => decide (j < k) && ((ops[k]?).map fun o => o.after.any fun e => Region.binds md e && e.on == j).getD false

theorem oneEnd_spec {t : Nat} (h : oneEnd md ops t = true) {listed : Array Bool} (hc : Closed md ops listed) (ht : t ∈ Region.ready md ops listed) :
    ∀ j ∈ Region.ready md ops listed, j = t := by
  have key : ∀ d j, j < ops.size → ops.size - j = d → j ≠ t → listed.getD j false = true := by
    intro d
    induction d using Nat.strongRecOn with
    | _ d ih =>
      intro j hj hd hjt
      simp only [oneEnd, List.all_eq_true, List.mem_range] at h
      have h1 := h j hj
      simp only [Bool.or_eq_true, beq_iff_eq, hjt, false_or, List.any_eq_true, List.mem_range, Bool.and_eq_true, decide_eq_true_eq] at h1
      obtain ⟨k, hk, hjk, hw⟩ := h1
      cases ho : ops[k]? with
      | none => simp [ho] at hw
      | some o =>
        simp only [ho, Option.map_some, Option.getD_some] at hw
        obtain ⟨e, he, hb⟩ := Array.any_eq_true'.1 hw
        simp only [Bool.and_eq_true, beq_iff_eq] at hb
        by_cases hkt : k = t
        · subst hkt
          obtain ⟨_, o', ho', hall⟩ := mem_ready.1 ht
          rw [ho] at ho'
          injection ho' with ho'
          subst ho'
          have := hall e he hb.1
          rwa [hb.2] at this
        · have h2 := ih (ops.size - k) (by omega) k hk rfl hkt
          have h3 := hc k o ho h2 e he hb.1
          rwa [hb.2] at h3
  intro j hj
  by_cases hjt : j = t
  · exact hjt
  · exfalso
    obtain ⟨h0, o, ho, _⟩ := mem_ready.1 hj
    have hlt := (Array.getElem?_eq_some_iff.1 ho).1
    have h1 := key _ j hlt rfl hjt
    rcases Nat.lt_or_ge j listed.size with h' | h'
    · simp [h'] at h0 h1; rw [h0] at h1; cases h1
    · simp [Array.getElem?_eq_none h'] at h1

theorem wpAny_of_S {t : Nat} (hT : ∀ listed, Closed md ops listed → t ∈ Region.ready md ops listed → ∀ j ∈ Region.ready md ops listed, j = t) :
    ∀ (fuel : Nat) (listed : Array Bool) (a : Act) (w : World), Closed md ops listed → S w → wpAnyS P md ops Q S t fuel listed a → wpAny P md ops Q fuel listed a w
  | 0, _, _, w, _, hS, h => ⟨h.1, h.2 w hS⟩
  | fuel + 1, listed, a, w, hc, hS, h => by
    refine ⟨fun e => (h.1 (by rw [e]; intro j hj; cases hj) w hS).1 e, fun i hi => ?_⟩
    by_cases hit : i = t
    · subst hit
      exact (h.1 (hT listed hc hi) w hS).2 i hi
    · exact wpOp_mono (fun a' w' h' => wpAny_of_S hT fuel _ a' w' (hc.set hi) h'.1 h'.2) (h.2 i hi hit w hS)

/-- In state a, in every world that meets S, operation o leaves v in its temporary, and a world that meets S. -/
def YieldsS (P : Program) (ops : Array Oper) (S : World → Prop) (o : Oper) (v : Value) (a : Act) : Prop :=
  (Region.wanted o (yielded ops a.tmps) = true ∧ ∀ w, S w → o.wp P a w (fun a' w' => a' = a.put o.dst v ∧ S w') (fun _ _ _ => False)) ∨
  (Region.wanted o (yielded ops a.tmps) = false ∧ v = undef)

theorem YieldsIf.yieldsS {o : Oper} {v : Value} {a : Act} (h : YieldsIf P ops S o v a) : YieldsS P ops S o v a :=
  h.imp (fun ⟨hw, hv⟩ => ⟨hw, fun w hS => by simp only [Oper.wp, hv w hS, Oper.upon]; exact ⟨trivial, hS⟩⟩) id

theorem Oper.wp_weak {o : Oper} {a : Act} {w : World} {K K' : Act → World → Prop} (h : ∀ a w, K a w → K' a w)
    (hh : o.wp P a w K (fun _ _ _ => False)) : o.wp P a w K' Q := by
  unfold Oper.wp at *
  generalize (execOp a.eval o).run P w = r at *
  cases r with
  | ok n w' =>
    cases n <;> simp only [Oper.upon] at hh ⊢ <;>
      first
        | exact h _ _ hh
        | exact Calls.mono hh (fun e w'' he => by cases e <;> first | exact h _ _ he | exact he.elim | (obtain ⟨_, _, hf⟩ := he; exact hf.elim))
        | exact Rows.mono hh (fun _ _ he => h _ _ he)
  | halt x w' => cases x <;> simp only [Oper.upon] at hh ⊢

theorem YieldsS.wpOp {i : Nat} {o : Oper} {v : Value} {a : Act} (hi : ops[i]? = some o) (hy : YieldsS P ops S o v a)
    {K : Act → World → Prop} {w : World} (hS : S w) (h : ∀ w', S w' → K (a.put o.dst v) w') : wpOp P ops Q i K a w := by
  unfold Go.wpOp
  simp only [hi]
  rcases hy with ⟨hw, hv⟩ | ⟨hw, rfl⟩
  · simp only [hw, if_true]
    exact .inl (Oper.wp_weak (fun a' w' ⟨e, hs⟩ => e ▸ h w' hs) (hv w hS))
  · simp only [hw, Bool.false_eq_true, if_false]; exact h w hS

theorem put_turn {a a' : Act} {dst : Option Tmp} {u v : Value} (hz : a'.tmps.size = a.tmps.size) (h : a.put dst u = a.put dst v) : a'.put dst u = a'.put dst v := by
  cases dst with
  | none => rfl
  | some d =>
    simp only [Act.put] at h ⊢
    injection h with h1 _
    by_cases hd : d < a.tmps.size
    · have h2 := congrArg (fun x => x[d]?) h1
      simp [hd] at h2
      rw [h2]
    · have e : ∀ x : Value, a'.tmps.setIfInBounds d x = a'.tmps := fun x => Array.setIfInBounds_eq_of_size_le (by rw [hz]; exact Nat.le_of_not_lt hd)
      rw [e, e]

theorem YieldsS.of_same {o : Oper} {v : Value} {a a' : Act} (hy : YieldsS P ops S o v a) (hz : a'.tmps.size = a.tmps.size) (he : execOp a'.eval o = execOp a.eval o)
    (hw : Region.wanted o (yielded ops a'.tmps) = Region.wanted o (yielded ops a.tmps)) : YieldsS P ops S o v a' := by
  unfold YieldsS at *
  rw [hw]
  refine hy.imp (fun ⟨h1, h2⟩ => ⟨h1, fun w hS => ?_⟩) id
  have h3 := h2 w hS
  unfold Oper.wp at *
  rw [he]
  generalize (execOp a.eval o).run P w = r at *
  cases r with
  | ok n w' =>
    cases n <;> simp only [Oper.upon] at h3 ⊢
    case value u => exact ⟨put_turn hz h3.1, h3.2⟩
    case skip => exact ⟨put_turn hz h3.1, h3.2⟩
    case defer d =>
      exfalso
      have h4 := congrArg (fun x => x.defers.length) h3.1
      cases hd : o.dst <;> simp [Act.put, hd] at h4
    case enter f args => exact Calls.mono h3 (fun e w'' he => by
      cases e with
      | returned u => exact ⟨put_turn hz he.1, he.2⟩
      | panicked c => exact he
      | outgrown => exact he)
    case row row args => exact Rows.mono h3 (fun u w'' he => ⟨put_turn hz he.1, he.2⟩)
  | halt x w' => cases x <;> simp only [Oper.upon] at h3 ⊢

theorem wpOp_putS {j : Nat} {oi oj : Oper} {v : Value} (hj : ops[j]? = some oj) (hap : oi.apart ops oj = true)
    (hsi : ∀ cs b, oi.op ≠ .select cs b) (hsj : ∀ cs b, oj.op ≠ .select cs b)
    (hQ : ∀ c a w, Q (.panic c) (a.put oi.dst v) w → Q (.panic c) a w) {K : Act → World → Prop} {a : Act} {w : World}
    (hy : YieldsS P ops S oi v a) (h : wpOp P ops Q j K (a.put oi.dst v) w) :
    wpOp P ops Q j (fun a' w' => YieldsS P ops S oi v a' ∧ K (a'.put oi.dst v) w') a w := by
  obtain ⟨h1, h2, h3⟩ := Oper.apart_spec hap
  have hsz : ∀ (a : Act) (d : Option Tmp) (u : Value), (a.put d u).tmps.size = a.tmps.size := fun a d u => by cases d <;> simp [Act.put]
  have keep : ∀ (a : Act), YieldsS P ops S oi v a → ∀ u, YieldsS P ops S oi v (a.put oj.dst u) := fun a hy u =>
    hy.of_same (hsz _ _ _) (execOp_put oi hsi a oj.dst u h3) (wanted_put oi a oj.dst u h3)
  have keepD : ∀ d, YieldsS P ops S oi v { a with defers := d :: a.defers } := fun d => hy.of_same rfl rfl rfl
  unfold wpOp at *
  simp only [hj] at *
  rw [wanted_put oj a oi.dst v h1] at h
  split
  · rename_i hw
    simp only [hw, if_true] at h
    rcases h with h | ⟨hasks, hlets⟩
    case inr => exact .inr ⟨by unfold Oper.asks at *; rw [execOp_put oj hsj a oi.dst v h1] at hasks; exact hasks, hlets⟩
    refine .inl ?_
    unfold Oper.wp at *
    rw [execOp_put oj hsj a oi.dst v h1] at h
    generalize (execOp a.eval oj).run P w = r at *
    cases r with
    | ok n w' =>
      cases n <;> simp only [Oper.upon] at h ⊢
      case value u => exact ⟨keep a hy u, by rw [← Act.put_comm a v u h2]; exact h⟩
      case skip => exact ⟨keep a hy _, by rw [← Act.put_comm a v undef h2]; exact h⟩
      case defer d =>
        refine ⟨(keepD d).of_same (hsz _ _ _) (execOp_put oi hsi _ oj.dst undef h3) (wanted_put oi _ oj.dst undef h3), ?_⟩
        rw [← Act.put_comm _ v undef h2, ← Act.put_defers]
        exact h
      case enter f args =>
        refine Calls.mono h fun e w'' he => ?_
        cases e with
        | returned u => exact ⟨keep a hy u, by rw [← Act.put_comm a v u h2]; exact he⟩
        | panicked c => exact hQ _ _ _ he
        | outgrown => exact he
      case row row args => exact Rows.mono h fun u w'' he => ⟨keep a hy u, by rw [← Act.put_comm a v u h2]; exact he⟩
    | halt x w' =>
      cases x <;> simp only [Oper.upon] at h ⊢
      case panic u => exact hQ _ _ _ h
  · rename_i hw
    simp only [hw] at h
    exact ⟨keep a hy _, by rw [← Act.put_comm a v undef h2]; exact h⟩

theorem wpAnyS_first {i t : Nat} {oi : Oper} {v : Value} (hit : i ≠ t) (hi : ops[i]? = some oi) (hsel : ∀ (j : Nat) (o : Oper) cs b, ops[j]? = some o → o.op ≠ .select cs b)
    (hQ : ∀ c a w, Q (.panic c) (a.put oi.dst v) w → Q (.panic c) a w) :
    ∀ (fuel : Nat) (listed : Array Bool) (a : Act),
      (∀ j oj, ops[j]? = some oj → j ≠ i → listed.getD j true = false → (∀ e ∈ oj.after, Region.binds md e = true → e.on ≠ i) → oi.apart ops oj = true) →
      i ∈ Region.ready md ops listed → YieldsS P ops S oi v a →
      wpAnyS P md ops Q S t fuel (listed.setIfInBounds i true) (a.put oi.dst v) → wpAnyS P md ops Q S t (fuel + 1) listed a := by
  intro fuel
  induction fuel with
  | zero =>
    intro listed a _ hr hy H
    refine ⟨fun h => absurd (h i hr) hit, fun j hj _ w hS => ?_⟩
    by_cases hji : j = i
    · subst hji; exact hy.wpOp hi hS (fun w' hS' => ⟨hS', H⟩)
    · have := ready_mono hj hji
      rw [H.1] at this
      cases this
  | succ fuel ih =>
    intro listed a hfree hr hy H
    refine ⟨fun h => absurd (h i hr) hit, fun j hj hjt w hS => ?_⟩
    by_cases hji : j = i
    · subst hji; exact hy.wpOp hi hS (fun w' hS' => ⟨hS', H⟩)
    · have h1 := H.2 j (ready_mono hj hji) hjt w hS
      obtain ⟨hjun, oj, hoj, hall⟩ := mem_ready.1 hj
      have hnot : ∀ e ∈ oj.after, Region.binds md e = true → e.on ≠ i := fun e he hb heq => by
        have h1 := hall e he hb
        have h0 := (mem_ready.1 hr).1
        rw [heq] at h1
        rcases Nat.lt_or_ge i listed.size with h' | h'
        · simp [h'] at h0 h1; rw [h0] at h1; cases h1
        · simp [Array.getElem?_eq_none h'] at h1
      have h2 := wpOp_putS hoj (hfree j oj hoj hji hjun hnot) (fun cs b => hsel i oi cs b hi) (fun cs b => hsel j oj cs b hoj) hQ hy h1
      have hfree' : ∀ k ok, ops[k]? = some ok → k ≠ i → (listed.setIfInBounds j true).getD k true = false →
          (∀ e ∈ ok.after, Region.binds md e = true → e.on ≠ i) → oi.apart ops ok = true := fun k ok hk hki hun hno => by
        refine hfree k ok hk hki ?_ hno
        by_cases hjk : j = k
        · subst hjk; exact hjun
        · rw [getD_set_ne true hjk] at hun; exact hun
      refine wpOp_mono (fun a' w' h3 => ⟨h3.2.1, ih (listed.setIfInBounds j true) a' hfree' (ready_mono hr (Ne.symm hji)) h3.1 ?_⟩) h2
      rw [Array.setIfInBounds_comm _ _ hji]
      exact h3.2.2
end

/-! ### S: the old blocks are as they were -/
section
variable {P : Program} {ops : Array Oper} {Q : Exit → Act → World → Prop} {W : World}

/-- In every world in which W's blocks are as they were. -/
def OldAs (W w : World) : Prop := Below W.heap.size W w

theorem OldAs.below {w : World} (h : OldAs W w) : Below W.heap.size W w := h
theorem OldAs.cells {w : World} (h : OldAs W w) (p : Addr) (hp : p.block < W.heap.size) : w.cell? p = W.cell? p := Below.cell h hp

/-- The rest of a region, from a state on, in every such world; t comes last. -/
def Lin (P : Program) (ops : Array Oper) (Q : Exit → Act → World → Prop) (W : World) (t : Nat) (fuel : Nat) (listed : Array Bool) (a : Act) : Prop :=
  wpAnyS P .any ops Q (OldAs W) t fuel listed a

theorem lin_begin (t : Nat) {id : Nat} {a : Act} (hm : P.follows .mixedOrders = true) (ht : oneEnd .any ops t = true)
    (h : Lin P ops Q W t ops.size (Array.replicate ops.size false) a) : (Code.region id ops true).wp P Q a W :=
  wp_region_any hm (wpAny_of_S (fun _ hc hr => oneEnd_spec ht hc hr) _ _ _ _
    (fun j o _ hj => by
      exfalso
      rcases Nat.lt_or_ge j ops.size with h' | h'
      · simp [h'] at hj
      · simp [Array.getElem?_eq_none (xs := Array.replicate ops.size false) (by simpa using h')] at hj) ((Below.refl _ _).drew) h)

/-- No operation that does more: whatever order. -/
theorem lin_begin_all {id : Nat} {a : Act} (hm : P.follows .mixedOrders = true)
    (h : Lin P ops Q W ops.size ops.size (Array.replicate ops.size false) a) : (Code.region id ops true).wp P Q a W :=
  wp_region_any hm (wpAny_of_S (fun _ _ hr => by
      exfalso
      obtain ⟨_, o, ho, _⟩ := mem_ready.1 hr
      have := (Array.getElem?_eq_some_iff.1 ho).1
      omega) _ _ _ _
    (fun j o _ hj => by
      exfalso
      rcases Nat.lt_or_ge j ops.size with h' | h'
      · simp [h'] at hj
      · simp [Array.getElem?_eq_none (xs := Array.replicate ops.size false) (by simpa using h')] at hj) ((Below.refl _ _).drew) h)

section
variable {t : Nat} {oi : Oper} {v : Value} {fuel : Nat} {listed : Array Bool} {a : Act}
/-- An operation that only computes, or reads. -/
theorem lin_take (i : Nat) (hit : i ≠ t) (hi : ops[i]? = some oi)
    (hs : Region.noSelect ops = true) (hf : Region.free .any ops listed i = true) (hr : (Region.ready .any ops listed).contains i = true)
    (hQ : ∀ c a w, Q (.panic c) (a.put oi.dst v) w → Q (.panic c) a w)
    (hw : Region.wanted oi (yielded ops a.tmps) = true)
    (hy : ∀ w, OldAs W w → (∀ p : Addr, p.block < W.heap.size → w.cell? p = W.cell? p) → (execOp a.eval oi).run P w = .ok (.value v) w)
    (h : Lin P ops Q W t fuel (listed.setIfInBounds i true) (a.put oi.dst v)) : Lin P ops Q W t (fuel + 1) listed a :=
  wpAnyS_first hit hi (Region.noSelect_spec hs) hQ fuel listed a (Region.free_spec hi hf) (by simpa using hr)
    (YieldsIf.yieldsS (Or.inl ⟨hw, fun w hS => hy w hS (OldAs.cells hS)⟩)) h

/-- An operation that is not wanted. -/
theorem lin_skip (i : Nat) (hit : i ≠ t) (hi : ops[i]? = some oi)
    (hs : Region.noSelect ops = true) (hf : Region.free .any ops listed i = true) (hr : (Region.ready .any ops listed).contains i = true)
    (hQ : ∀ c a w, Q (.panic c) (a.put oi.dst undef) w → Q (.panic c) a w)
    (hw : Region.wanted oi (yielded ops a.tmps) = false)
    (h : Lin P ops Q W t fuel (listed.setIfInBounds i true) (a.put oi.dst undef)) : Lin P ops Q W t (fuel + 1) listed a :=
  wpAnyS_first hit hi (Region.noSelect_spec hs) hQ fuel listed a (Region.free_spec hi hf) (by simpa using hr) (Or.inr ⟨hw, rfl⟩) h

/-- A call that answers the same in every such world. -/
theorem lin_call (i : Nat) {g : FuncId} {args : Array Value} (hit : i ≠ t) (hi : ops[i]? = some oi)
    (hs : Region.noSelect ops = true) (hf : Region.free .any ops listed i = true) (hr : (Region.ready .any ops listed).contains i = true)
    (hQ : ∀ c a w, Q (.panic c) (a.put oi.dst v) w → Q (.panic c) a w)
    (hw : Region.wanted oi (yielded ops a.tmps) = true)
    (hy : ∀ w, (execOp a.eval oi).run P w = .ok (.enter g args) w)
    (hc : ∀ w, OldAs W w → (∀ p : Addr, p.block < W.heap.size → w.cell? p = W.cell? p) → Calls P g args w fun e w' => e = .returned v ∧ Below w.heap.size w w')
    (h : Lin P ops Q W t fuel (listed.setIfInBounds i true) (a.put oi.dst v)) : Lin P ops Q W t (fuel + 1) listed a :=
  wpAnyS_first hit hi (Region.noSelect_spec hs) hQ fuel listed a (Region.free_spec hi hf) (by simpa using hr)
    (Or.inl ⟨hw, fun w hS => by
      simp only [Oper.wp, hy w, Oper.upon]
      refine (hc w hS (OldAs.cells hS)).mono fun e w' he => ?_
      obtain ⟨rfl, hb⟩ := he
      exact ⟨rfl, Below.trans hS (Below.mono hb (Below.size hS))⟩⟩) h

/-- The one operation that is left: whatever it does. -/
theorem lin_last (hi : ops[t]? = some oi) (hr : Region.ready .any ops listed = [t])
    (hd : Region.ready .any ops (listed.setIfInBounds t true) = [])
    (hw : Region.wanted oi (yielded ops a.tmps) = true)
    (h : ∀ w, OldAs W w → (∀ p : Addr, p.block < W.heap.size → w.cell? p = W.cell? p) → (∀ p : Addr, p.block < W.heap.size → w.frozen? p = W.frozen? p) →
      ∀ K : Act → World → Prop, (∀ a' w', Q .normal a' w' → K a' w') → oi.wp P a w K Q) : Lin P ops Q W t 1 listed a :=
  ⟨fun _ w hS => ⟨fun e => (by rw [hr] at e; cases e), fun j hj => by
    rw [hr] at hj
    obtain rfl : j = t := by simpa using hj
    unfold wpOp
    simp only [hi, hw, if_true]
    exact .inl (h w hS (OldAs.cells hS) (fun p hp => Below.frozen hS hp) _ (fun a' w' hq => ⟨hd, hq⟩))⟩,
   fun i hi2 hne => by rw [hr] at hi2; exact absurd (by simpa using hi2) hne⟩

/-- Nothing is left. -/
theorem lin_done (hr : Region.ready .any ops listed = [])
    (h : ∀ w, OldAs W w → (∀ p : Addr, p.block < W.heap.size → w.cell? p = W.cell? p) → (∀ p : Addr, p.block < W.heap.size → w.frozen? p = W.frozen? p) → Q .normal a w) : ∀ fuel, Lin P ops Q W t fuel listed a
  | 0 => ⟨hr, fun w hS => h w hS (OldAs.cells hS) (fun p hp => Below.frozen hS hp)⟩
  | _ + 1 => ⟨fun _ w hS => ⟨fun _ => h w hS (OldAs.cells hS) (fun p hp => Below.frozen hS hp), by rw [hr]; simp⟩, by rw [hr]; simp⟩
end
end
end Go.Proofs.Ytcgokimagimamaa
/- Words for memory: what a call that makes only new blocks leaves; lists that are read. -/
namespace Go.Proofs.Ytcgokimagimamaa
open Go.RowKit
set_option linter.unusedVariables false
set_option linter.unusedSimpArgs false
theorem Below.next {w W w' : World} (h : Below w.heap.size w W) (hb : Below W.heap.size W w') : Below w.heap.size w w' := h.trans (hb.mono h.size)
theorem Below.nalloc {w W : World} (h : Below w.heap.size w W) (o : Obj) : Below w.heap.size w (W.alloc o) := h.alloc h.size o
theorem Below.ndrew {w W : World} (h : Below w.heap.size w W) : Below w.heap.size w W.drew := h.drew
theorem Below.ndrewN {w W : World} (h : Below w.heap.size w W) (n : Nat) : Below w.heap.size w (W.drewN n) := h.trans ⟨rfl, rfl, rfl, Nat.le_refl _, fun _ _ => rfl⟩
theorem Below.nset {w W : World} (h : Below w.heap.size w W) {p : Addr} (hp : w.heap.size ≤ p.block) (u : Value) : Below w.heap.size w (W.setCell p u) := h.setCell hp u
theorem bcell {W w1 : World} (hb : Below W.heap.size W w1) : (∀ p : Addr, p.block < W.heap.size → w1.cell? p = W.cell? p) ∧ (∀ p : Addr, p.block < W.heap.size → w1.frozen? p = W.frozen? p) :=
  ⟨fun _ h => hb.cell h, fun _ h => hb.frozen h⟩
theorem bcell3 {W w1 : World} (hb : Below W.heap.size W w1) : (∀ p : Addr, p.block < W.heap.size → w1.cell? p = W.cell? p) ∧ (∀ p : Addr, p.block < W.heap.size → w1.frozen? p = W.frozen? p) ∧ (∀ b, b < W.heap.size → b < w1.heap.size) ∧
    (∀ b, b < W.heap.size → b < w1.heap.size + 1) ∧ (∀ b, b < W.heap.size → b < w1.heap.size + 1 + 1) ∧ (∀ b, b < W.heap.size → (b = w1.heap.size) = False) ∧ (∀ b, b < W.heap.size → (w1.heap.size = b) = False) :=
  ⟨fun _ h => hb.cell h, fun _ h => hb.frozen h, fun _ h => (by have := hb.size; omega), fun _ h => (by have := hb.size; omega), fun _ h => (by have := hb.size; omega), fun _ h => (by have := hb.size; simp; omega), fun _ h => (by have := hb.size; simp; omega)⟩
theorem calls_eq {P : Program} {f : FuncId} {args : Array Value} {w : World} {v : Value} (h : Calls P f args w fun e w' => e = .returned v ∧ w = w') :
    Calls P f args w fun e w' => e = .returned v ∧ Below w.heap.size w w' := h.mono fun _ _ ⟨h1, h2⟩ => ⟨h1, h2 ▸ Below.refl _ _⟩
theorem ent {P : Program} (k : Nat) {fn : Func} {c : Code} (hf : P.funcs[k]? = some fn) (hname : (fn.name == "runtime.NumGoroutine") = false) (hb : fn.body = some c) :
    ∀ (a : Array Value) w, (callFunc k a).run P w = .ok (.enter k a) w := by
  intro a w
  have h1 : fn.name ≠ "runtime.NumGoroutine" := by simpa using hname
  simp [callFunc, hf, h1, hb, mark]

/-! ### a slice that reads as a list -/
theorem add_none (b o k : Nat) : (⟨b, o, none⟩ : Addr).add k = ⟨b, o + k, none⟩ := by unfold Addr.add; split <;> simp_all
/-- The slice value v holds the elements xs, of sz cells each. -/
def Rd {α : Type} (sz : Nat) (enc : α → List Value) (w : World) (v : Value) (xs : List α) : Prop :=
  ∃ A c, v = .slice A xs.length c ∧ xs.length ≤ c ∧ (xs ≠ [] → ∃ b o, A = some ⟨b, o, none⟩ ∧ b < w.heap.size ∧ ∀ i x, xs[i]? = some x → ∀ j u, (enc x)[j]? = some u → w.cell? ⟨b, o + i * sz + j, none⟩ = some u)
section
variable {α : Type} {sz : Nat} {enc : α → List Value} {w w' : World} {v : Value} {xs : List α}
theorem Rd.keepN (h : Rd sz enc w v xs) (hn : ∀ b, b < w.heap.size → (∃ A c o, v = .slice A c o ∧ ∃ p, A = some p ∧ p.block = b) → w'.heap[b]? = w.heap[b]?) (hs : w.heap.size ≤ w'.heap.size) : Rd sz enc w' v xs := by
  obtain ⟨A, c, rfl, hc, h⟩ := h
  refine ⟨A, c, rfl, hc, fun hne => ?_⟩
  obtain ⟨b, o, rfl, hb, hx⟩ := h hne
  refine ⟨b, o, rfl, Nat.lt_of_lt_of_le hb hs, fun i x hi j u hu => ?_⟩
  rw [World.cell?_of_block (w := w) (hn b hb ⟨_, _, _, rfl, _, rfl, rfl⟩)]
  exact hx i x hi j u hu
theorem Rd.below (h : Rd sz enc w v xs) (hb : Below w.heap.size w w') : Rd sz enc w' v xs := h.keepN (fun b hlt _ => hb.block b hlt) hb.size
theorem Rd.alloc (h : Rd sz enc w v xs) (o : Obj) : Rd sz enc (w.alloc o) v xs := h.below ((Below.refl _ _).alloc (Nat.le_refl _) _)
theorem Rd.drew (h : Rd sz enc w v xs) : Rd sz enc w.drew v xs := h
theorem Rd.at_ (h : Rd sz enc w v xs) {k : Nat} (hk : k < xs.length) : ∃ b o c, v = .slice (some ⟨b, o, none⟩) xs.length c ∧ xs.length ≤ c ∧ b < w.heap.size ∧ ∀ j u, (enc xs[k])[j]? = some u → w.cell? ⟨b, o + k * sz + j, none⟩ = some u := by
  obtain ⟨A, c, rfl, hc, h⟩ := h
  obtain ⟨b, o, rfl, hb, hx⟩ := h (by intro e; rw [e] at hk; simp at hk)
  exact ⟨b, o, c, rfl, hc, hb, fun j u hu => hx k _ (List.getElem?_eq_getElem hk) j u hu⟩
theorem Rd.form (h : Rd sz enc w v xs) : ∃ A c, v = .slice A xs.length c ∧ xs.length ≤ c := by
  obtain ⟨A, c, rfl, hc, _⟩ := h
  exact ⟨A, c, rfl, hc⟩
theorem Rd.nil (sz : Nat) (enc : α → List Value) (w : World) : Rd sz enc w (.slice none 0 0) ([] : List α) := ⟨none, 0, rfl, Nat.le_refl _, fun h => absurd rfl h⟩
end
/-! ### the first index -/
def firstI {α : Type} (p : α → Bool) : List α → Int
  | [] => -1
  | x :: t => if p x then 0 else if firstI p t < 0 then -1 else firstI p t + 1
theorem firstI_found {α : Type} {p : α → Bool} : ∀ {xs : List α} {k : Nat}, (∀ j x, j < k → xs[j]? = some x → p x = false) → ∀ {y : α}, xs[k]? = some y → p y = true → firstI p xs = k
  | [], k, _, y, hy, _ => by simp at hy
  | x :: t, 0, _, y, hy, hp => by simp at hy; subst hy; simp [firstI, hp]
  | x :: t, k + 1, h, y, hy, hp => by
    have h0 := h 0 x (by omega) (by simp)
    have ih := firstI_found (xs := t) (k := k) (fun j z hj hz => h (j + 1) z (by omega) (by simpa using hz)) (y := y) (by simpa using hy) hp
    rw [firstI, h0, ih]
    simp; try omega
theorem firstI_none {α : Type} {p : α → Bool} : ∀ {xs : List α}, (∀ x ∈ xs, p x = false) → firstI p xs = -1
  | [], _ => rfl
  | x :: t, h => by rw [firstI, h x (by simp), firstI_none (fun y hy => h y (by simp [hy]))]; simp
theorem firstI_any {α : Type} {p : α → Bool} : ∀ {xs : List α}, decide (0 ≤ firstI p xs) = xs.any p
  | [] => by simp [firstI]
  | x :: t => by
    have ih := firstI_any (p := p) (xs := t)
    rw [firstI, List.any_cons, ← ih]
    cases p x
    · by_cases h : firstI p t < 0
      · simp [h]
      · simp [h]; try omega
    · simp
theorem firstI_bound {α : Type} {p : α → Bool} : ∀ {xs : List α}, -1 ≤ firstI p xs ∧ firstI p xs < xs.length
  | [] => by simp [firstI]
  | x :: t => by
    have ih := firstI_bound (p := p) (xs := t)
    rw [firstI]
    split
    · simp <;> omega
    · split <;> simp <;> omega
end Go.Proofs.Ytcgokimagimamaa
/- Layer 1 in plain Lean: what shapes, bodies, ranges and piles are, and what the functions answer. -/
namespace Go.Proofs.Ytcgokimagimamaa
structure Rng where
  lo : Int
  hi : Int
structure Shape where
  id : Int
  wide : Rng
  deep : Rng
  high : Rng
  nest : Int
  weight : Rng
  bears : Int
structure Body where
  id : Int
  shrink : Rng
  loss : Rng
  heat : Rng
structure Trial where
  source : Int
  wet : Rng
  dry : Rng
def zR : Rng := ⟨0, 0⟩
def zShape : Shape := ⟨0, zR, zR, zR, 0, zR, 0⟩
def zBody : Body := ⟨0, zR, zR, zR⟩
def zTrial : Trial := ⟨0, zR, zR⟩
def inB (n lo hi : Int) : Bool := decide (lo ≤ n) && decide (n ≤ hi)
def partB (a b lo hi : Int) : Bool := decide (lo ≤ a) && decide (a ≤ b) && decide (b ≤ hi)
def partR (r : Rng) (lo hi : Int) : Bool := partB r.lo r.hi lo hi
def okShape (s : Shape) : Bool := inB s.id 1 999 && partR s.wide 0 2000 && partR s.deep 0 2000 && partR s.high 0 2000 && inB s.nest 0 s.high.lo && partR s.weight 0 100000 && inB s.bears 0 1000000
def okBody (b : Body) : Bool := inB b.id 1 999 && partR b.shrink 0 200 && partR b.loss 0 300 && partR b.heat 1 2000
def okTrial (t : Trial) : Bool := inB t.source 1 99999 && partR t.wet 1 2000 && partR t.dry 0 2000
def errIf (b : Bool) (e : Int) : Int := if b then 0 else e

theorem inB_iff {n lo hi : Int} : inB n lo hi = true ↔ lo ≤ n ∧ n ≤ hi := by simp [inB]
theorem partB_iff {a b lo hi : Int} : partB a b lo hi = true ↔ lo ≤ a ∧ a ≤ b ∧ b ≤ hi := by simp [partB, and_assoc]
theorem errIf_ne {b : Bool} {e : Int} (he : e ≠ 0) : (errIf b e = 0) = (b = true) := by cases b <;> simp [errIf, he]
theorem errIf_true {e : Int} : errIf true e = 0 := rfl
theorem errIf_false {e : Int} : errIf false e = e := rfl

structure ShapeOk (s : Shape) : Prop where
  id1 : 1 ≤ s.id
  id2 : s.id ≤ 999
  w1 : 0 ≤ s.wide.lo
  w2 : s.wide.lo ≤ s.wide.hi
  w3 : s.wide.hi ≤ 2000
  d1 : 0 ≤ s.deep.lo
  d2 : s.deep.lo ≤ s.deep.hi
  d3 : s.deep.hi ≤ 2000
  h1 : 0 ≤ s.high.lo
  h2 : s.high.lo ≤ s.high.hi
  h3 : s.high.hi ≤ 2000
  n1 : 0 ≤ s.nest
  n2 : s.nest ≤ s.high.lo
  g1 : 0 ≤ s.weight.lo
  g2 : s.weight.lo ≤ s.weight.hi
  g3 : s.weight.hi ≤ 100000
  b1 : 0 ≤ s.bears
  b2 : s.bears ≤ 1000000
theorem okShape_iff {s : Shape} : okShape s = true ↔ ShapeOk s := by
  simp only [okShape, partR, Bool.and_eq_true, inB_iff, partB_iff]
  constructor
  · rintro ⟨⟨⟨⟨⟨⟨⟨a1, a2⟩, b1, b2, b3⟩, c1, c2, c3⟩, d1, d2, d3⟩, e1, e2⟩, f1, f2, f3⟩, g1, g2⟩
    exact ⟨a1, a2, b1, b2, b3, c1, c2, c3, d1, d2, d3, e1, e2, f1, f2, f3, g1, g2⟩
  · rintro ⟨a1, a2, b1, b2, b3, c1, c2, c3, d1, d2, d3, e1, e2, f1, f2, f3, g1, g2⟩
    exact ⟨⟨⟨⟨⟨⟨⟨a1, a2⟩, b1, b2, b3⟩, c1, c2, c3⟩, d1, d2, d3⟩, e1, e2⟩, f1, f2, f3⟩, g1, g2⟩
structure BodyOk (b : Body) : Prop where
  id1 : 1 ≤ b.id
  id2 : b.id ≤ 999
  s1 : 0 ≤ b.shrink.lo
  s2 : b.shrink.lo ≤ b.shrink.hi
  s3 : b.shrink.hi ≤ 200
  l1 : 0 ≤ b.loss.lo
  l2 : b.loss.lo ≤ b.loss.hi
  l3 : b.loss.hi ≤ 300
  t1 : 1 ≤ b.heat.lo
  t2 : b.heat.lo ≤ b.heat.hi
  t3 : b.heat.hi ≤ 2000
theorem okBody_iff {b : Body} : okBody b = true ↔ BodyOk b := by
  simp only [okBody, partR, Bool.and_eq_true, inB_iff, partB_iff]
  constructor
  · rintro ⟨⟨⟨⟨a1, a2⟩, b1, b2, b3⟩, c1, c2, c3⟩, d1, d2, d3⟩
    exact ⟨a1, a2, b1, b2, b3, c1, c2, c3, d1, d2, d3⟩
  · rintro ⟨a1, a2, b1, b2, b3, c1, c2, c3, d1, d2, d3⟩
    exact ⟨⟨⟨⟨a1, a2⟩, b1, b2, b3⟩, c1, c2, c3⟩, d1, d2, d3⟩

/-! ### what fire makes -/
def turnLo (n hi : Int) : Int := n * (1000 - hi) / 1000
def turnHi (n lo : Int) : Int := (n * (1000 - lo) + 999) / 1000
def becomesR (wet by_ : Rng) : Rng := ⟨turnLo wet.lo by_.hi, turnHi wet.hi by_.lo⟩
def firedS (b : Body) (wet : Rng) (most : Int) (by_ : Rng) : Rng × Int :=
  if okBody b then (if partR wet 0 most then (becomesR wet by_, 0) else (zR, 1)) else (zR, 11)
theorem mul_bound {n h N : Int} (h0 : 0 ≤ n) (h1 : n ≤ N) (h2 : 0 ≤ h) (h3 : h ≤ 1000) : 0 ≤ n * (1000 - h) ∧ n * (1000 - h) ≤ N * 1000 := by
  constructor
  · exact Int.mul_nonneg h0 (by omega)
  · exact Int.le_trans (Int.mul_le_mul_of_nonneg_left (by omega : 1000 - h ≤ 1000) h0) (Int.mul_le_mul_of_nonneg_right h1 (by omega))
def firedShape (s : Shape) (b : Body) : Shape :=
  { s with wide := becomesR s.wide b.shrink, deep := becomesR s.deep b.shrink, high := becomesR s.high b.shrink, weight := becomesR s.weight b.loss, nest := turnLo s.nest b.shrink.hi }
/-- With the first k of wide, deep and high turned. -/
def firedTo (s : Shape) (b : Body) (k : Nat) : Shape :=
  { s with wide := if 0 < k then becomesR s.wide b.shrink else s.wide, deep := if 1 < k then becomesR s.deep b.shrink else s.deep, high := if 2 < k then becomesR s.high b.shrink else s.high }
def firedSS (s : Shape) (b : Body) : Shape × Int :=
  if okShape s then (if okBody b then (firedShape s b, 0) else (zShape, 11)) else (zShape, 10)

/-! ### division -/
theorem tdiv_down {n d : Int} (hd : 0 < d) : (if n.tmod d < 0 then n.tdiv d - 1 else n.tdiv d) = n / d := by
  have h1 := Int.tmod_add_mul_tdiv n d
  have h2 := Int.tmod_lt_of_pos n hd
  have h3 : -d < n.tmod d := Int.lt_tmod_of_pos n hd
  split
  · have := (Int.ediv_emod_unique (a := n) (b := d) (r := n.tmod d + d) (q := n.tdiv d - 1) hd).2 ⟨by rw [Int.mul_sub]; omega, by omega, by omega⟩
    exact this.1.symm
  · have := (Int.ediv_emod_unique (a := n) (b := d) (r := n.tmod d) (q := n.tdiv d) hd).2 ⟨by omega, by omega, by omega⟩
    exact this.1.symm
theorem tdiv_bound {n d N : Int} (hd : 0 < d) (h0 : -N ≤ n) (h1 : n ≤ N) (hN : 0 ≤ N) : -N ≤ n.tdiv d ∧ n.tdiv d ≤ N := by
  have key : ∀ m : Int, 0 ≤ m → m ≤ N → 0 ≤ m.tdiv d ∧ m.tdiv d ≤ N := fun m hm hmN => by
    rw [Int.tdiv_eq_ediv_of_nonneg hm]
    exact ⟨Int.ediv_nonneg hm (by omega), Int.le_trans (Int.ediv_le_self d hm) hmN⟩
  by_cases hn : 0 ≤ n
  · have := key n hn h1; omega
  · have := key (-n) (by omega) (by omega)
    rw [Int.neg_tdiv] at this
    omega
theorem tmod_bound {n d : Int} (hd : 0 < d) : -d < n.tmod d ∧ n.tmod d < d := ⟨Int.lt_tmod_of_pos n hd, Int.tmod_lt_of_pos n hd⟩
/-- n / d, rounded up. -/
def upDiv (n d : Int) : Int := -((-n) / d)

/-! ### moulds -/
def mouldOk (dry by_ : Rng) (n : Int) : Bool := decide (dry.lo ≤ turnLo n by_.hi) && decide (turnHi n by_.lo ≤ dry.hi)
def mouldTo (dry by_ : Rng) : Nat → Rng
  | 0 => ⟨-1, 0⟩
  | n + 1 => if mouldOk dry by_ n then ⟨if (mouldTo dry by_ n).lo < 0 then (n : Int) else (mouldTo dry by_ n).lo, n⟩ else mouldTo dry by_ n
def mouldS (b : Body) (dry : Rng) : Rng × Int :=
  if okBody b then (if partR dry 0 2000 then (if (mouldTo dry b.shrink 2001).lo < 0 then (zR, 3) else (mouldTo dry b.shrink 2001, 0)) else (zR, 1)) else (zR, 11)

def mouldLo (b : Body) (dry : Rng) : Int := upDiv (1000 * dry.lo) (1000 - b.shrink.hi)
def mouldHi (b : Body) (dry : Rng) : Int := min (1000 * dry.hi / (1000 - b.shrink.lo)) 2000
theorem upDiv_le {n d x : Int} (hd : 0 < d) : upDiv n d ≤ x ↔ n ≤ x * d := by
  unfold upDiv
  have h1 : -(-n / d) ≤ x ↔ -x ≤ -n / d := by omega
  rw [h1, Int.le_ediv_iff_mul_le hd, Int.neg_mul]
  omega
theorem mouldOk_iff {dry by_ : Rng} {n : Int} (hA : by_.hi ≤ 999) (hB : by_.lo ≤ 999) :
    mouldOk dry by_ n = true ↔ upDiv (1000 * dry.lo) (1000 - by_.hi) ≤ n ∧ n ≤ 1000 * dry.hi / (1000 - by_.lo) := by
  rw [upDiv_le (by omega), Int.le_ediv_iff_mul_le (by omega)]
  simp only [mouldOk, Bool.and_eq_true, decide_eq_true_eq]
  simp only [turnLo, turnHi]
  generalize n * (1000 - by_.hi) = x
  generalize n * (1000 - by_.lo) = y
  omega
theorem mouldTo_eq {dry by_ : Rng} (hA : by_.hi ≤ 999) (hB : by_.lo ≤ 999) (hL : 0 ≤ upDiv (1000 * dry.lo) (1000 - by_.hi)) : ∀ k : Nat,
    mouldTo dry by_ k = if upDiv (1000 * dry.lo) (1000 - by_.hi) ≤ min (1000 * dry.hi / (1000 - by_.lo)) ((k : Int) - 1) then
      ⟨upDiv (1000 * dry.lo) (1000 - by_.hi), min (1000 * dry.hi / (1000 - by_.lo)) ((k : Int) - 1)⟩ else ⟨-1, 0⟩ := by
  intro k
  have hg := fun n : Int => mouldOk_iff (dry := dry) (n := n) hA hB
  generalize upDiv (1000 * dry.lo) (1000 - by_.hi) = L at *
  generalize 1000 * dry.hi / (1000 - by_.lo) = H at *
  induction k with
  | zero => rw [if_neg (by omega)]; rfl
  | succ k ih =>
    rw [mouldTo]
    have h1 := hg k
    by_cases ho : mouldOk dry by_ k = true
    · have h2 := h1.1 ho
      rw [if_pos ho, ih, if_pos (c := L ≤ min H (((k + 1 : Nat) : Int) - 1)) (by omega)]
      by_cases hq : L ≤ min H ((k : Int) - 1)
      · rw [if_pos hq, if_neg (by simp; omega)]
        congr 1; omega
      · rw [if_neg hq, if_pos (by simp)]
        congr 1 <;> omega
    · have h2 : ¬ (L ≤ k ∧ (k : Int) ≤ H) := fun q => ho (h1.2 q)
      rw [if_neg ho, ih]
      by_cases hq : L ≤ min H ((k : Int) - 1)
      · rw [if_pos hq, if_pos (by omega)]
        congr 1; omega
      · rw [if_neg hq, if_neg (by omega)]
theorem mouldS_eq (b : Body) (dry : Rng) (hb : okBody b = true) (hp : partR dry 0 2000 = true) :
    mouldS b dry = if mouldLo b dry > mouldHi b dry then (zR, 3) else (⟨mouldLo b dry, mouldHi b dry⟩, 0) := by
  have ho := okBody_iff.1 hb
  obtain ⟨p1, p2, p3⟩ := partB_iff.1 hp
  have h3 := ho.s3
  have h2 := ho.s2
  have hL : 0 ≤ upDiv (1000 * dry.lo) (1000 - b.shrink.hi) := by
    unfold upDiv
    have : -(1000 * dry.lo) / (1000 - b.shrink.hi) ≤ 0 := by
      by_cases hz : dry.lo = 0
      · rw [hz]; simp
      · have := Int.ediv_neg_of_neg_of_pos (a := -(1000 * dry.lo)) (b := 1000 - b.shrink.hi) (by omega) (by omega); omega
    omega
  have hM := mouldTo_eq (dry := dry) (by omega : b.shrink.hi ≤ 999) (by omega : b.shrink.lo ≤ 999) hL 2001
  unfold mouldS mouldLo mouldHi
  rw [if_pos hb, if_pos hp, hM]
  clear hM
  generalize upDiv (1000 * dry.lo) (1000 - b.shrink.hi) = L at *
  generalize 1000 * dry.hi / (1000 - b.shrink.lo) = H at *
  by_cases hq : L ≤ min H (((2001 : Nat) : Int) - 1)
  · rw [if_pos hq, if_neg (by simp; omega), if_neg (by omega)]
    have e : min H (((2001 : Nat) : Int) - 1) = min H 2000 := by omega
    rw [e]
  · rw [if_neg hq, if_pos (by simp), if_pos (by omega)]

/-! ### piles -/
def pileErr (s : Shape) (many : Int) : Int := if okShape s then (if inB many 1 40 then 0 else 14) else 10
def pileHigh (high nest many : Int) : Int := high + (many - 1) * (high - nest)
def heightS (s : Shape) (many : Int) : Rng × Int :=
  if pileErr s many = 0 then (⟨pileHigh s.high.lo s.nest many, pileHigh s.high.hi s.nest many⟩, 0) else (zR, pileErr s many)
def loadS (s : Shape) (many at_ : Int) : Rng × Int :=
  if pileErr s many = 0 then (if inB at_ 0 (many - 1) then (⟨(many - 1 - at_) * s.weight.lo, (many - 1 - at_) * s.weight.hi⟩, 0) else (zR, 1)) else (zR, pileErr s many)
def standsB (s : Shape) (many : Int) : Bool := decide ((many - 1) * s.weight.hi ≤ s.bears)
def standsS (s : Shape) (many : Int) : Bool × Int :=
  if pileErr s many = 0 then (standsB s many, 0) else (false, pileErr s many)
def fitsPile (s : Shape) (high many : Int) : Bool := standsB s many && decide (pileHigh s.high.hi s.nest many ≤ high)
/-- The greatest number from n down that does; 0 if none. -/
def mostFrom (p : Int → Bool) : Nat → Int
  | 0 => 0
  | n + 1 => if p (n + 1 : Nat) then ((n + 1 : Nat) : Int) else mostFrom p n
def mostS (s : Shape) (high : Int) : Int × Int :=
  if okShape s then (if mostFrom (fitsPile s high) 40 = 0 then (0, 3) else (mostFrom (fitsPile s high) 40, 0)) else (0, 10)
theorem mostFrom_nonneg (p : Int → Bool) (n : Nat) : 0 ≤ mostFrom p n ∧ mostFrom p n ≤ n := by
  induction n with
  | zero => simp [mostFrom]
  | succ n ih => unfold mostFrom; split <;> omega
theorem pile_bound {high nest many : Int} (h0 : 0 ≤ nest) (h1 : nest ≤ high) (h2 : high ≤ 2000) (h3 : 1 ≤ many) (h4 : many ≤ 40) :
    0 ≤ (many - 1) * (high - nest) ∧ (many - 1) * (high - nest) ≤ 100000 := by
  constructor
  · exact Int.mul_nonneg (by omega) (by omega)
  · exact Int.le_trans (Int.mul_le_mul_of_nonneg_left (by omega : high - nest ≤ 2000) (by omega)) (by omega)
theorem load_bound {many at_ g : Int} (h0 : 0 ≤ g) (h1 : g ≤ 100000) (h2 : 0 ≤ at_) (h3 : at_ ≤ many - 1) (h4 : many ≤ 40) :
    0 ≤ (many - 1 - at_) * g ∧ (many - 1 - at_) * g ≤ 4000000 := by
  constructor
  · exact Int.mul_nonneg (by omega) h0
  · exact Int.le_trans (Int.mul_le_mul_of_nonneg_left h1 (by omega)) (by omega)

/-! ### trials -/
def allowsB (t : Trial) (by_ : Int) : Bool := decide (t.wet.lo * (1000 - by_) ≤ 1000 * t.dry.hi) && decide (1000 * t.dry.lo ≤ t.wet.hi * (1000 - by_))
structure TrialOk (t : Trial) : Prop where
  s1 : 1 ≤ t.source
  s2 : t.source ≤ 99999
  w1 : 1 ≤ t.wet.lo
  w2 : t.wet.lo ≤ t.wet.hi
  w3 : t.wet.hi ≤ 2000
  d1 : 0 ≤ t.dry.lo
  d2 : t.dry.lo ≤ t.dry.hi
  d3 : t.dry.hi ≤ 2000
theorem okTrial_iff {t : Trial} : okTrial t = true ↔ TrialOk t := by
  simp only [okTrial, partR, Bool.and_eq_true, inB_iff, partB_iff]
  constructor
  · rintro ⟨⟨⟨a1, a2⟩, b1, b2, b3⟩, c1, c2, c3⟩
    exact ⟨a1, a2, b1, b2, b3, c1, c2, c3⟩
  · rintro ⟨a1, a2, b1, b2, b3, c1, c2, c3⟩
    exact ⟨⟨⟨a1, a2⟩, b1, b2, b3⟩, c1, c2, c3⟩
def okBy (l : List Trial) (by_ : Int) : Bool := l.all fun t => allowsB t by_
/-- The numbers from lo on, n of them, that all trials allow. -/
def allowedL (l : List Trial) : Nat → Int → List Int
  | 0, _ => []
  | n + 1, lo => if okBy l lo then lo :: allowedL l n (lo + 1) else allowedL l n (lo + 1)
def leftL (r : Rng) (l : List Trial) : List Int := allowedL l (r.hi - r.lo + 1).toNat r.lo
def leftS (r : Rng) (l : List Trial) : Rng × Bool :=
  match leftL r l with
  | [] => (zR, false)
  | x :: t => (⟨x, (x :: t).getLast (by simp)⟩, true)
def toldS (t : Trial) : Rng × Int :=
  if okTrial t then (if (leftS ⟨0, 200⟩ [t]).2 then ((leftS ⟨0, 200⟩ [t]).1, 0) else (zR, 3)) else (zR, 13)
theorem not_okBy (l : List Trial) (b : Int) : (l.any fun t => !allowsB t b) = !okBy l b := by
  induction l with
  | nil => rfl
  | cons x t ih => simp only [List.any_cons, okBy, List.all_cons] at *; rw [ih]; simp [Bool.not_and]
end Go.Proofs.Ytcgokimagimamaa
