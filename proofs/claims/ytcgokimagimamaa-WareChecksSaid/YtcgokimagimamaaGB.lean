/- Laws of my own: a loop over a function's yields. An iterator's word: it yields the elements of a list, one after the other; it turns none of the blocks that lay when it was called, and none of the loop's own. -/
import Derived.RangeFuncFrom
import Derived.Test.YtcgokimagimamaaGA
import Derived.OwnWalkIn
import Derived.Maps.AppendAt
import Derived.RangeFuncBox
import Derived.Test.YtcgokimagimamaaProg
import Derived.TacticsInMore
import Derived.LoopIn
import Derived.RangeFuncLeaves
import Derived.RangeFuncCalls
namespace Go.Proofs.Ytcgokimagimamaa
open Go.RowKit

/-- From A to B: the streams are the same, no block has gone, and the blocks of T are as they were. -/
structure Keep (T : Nat → Prop) (A B : World) : Prop where
  os : B.os = A.os
  tape : B.tape = A.tape
  output : B.output = A.output
  size : A.heap.size ≤ B.heap.size
  block : ∀ k, T k → B.heap[k]? = A.heap[k]?

theorem Keep.refl (T : Nat → Prop) (A : World) : Keep T A A := ⟨rfl, rfl, rfl, Nat.le_refl _, fun _ _ => rfl⟩
theorem Keep.trans {T : Nat → Prop} {A B C : World} (h : Keep T A B) (k : Keep T B C) : Keep T A C :=
  ⟨k.os.trans h.os, k.tape.trans h.tape, k.output.trans h.output, Nat.le_trans h.size k.size, fun i hi => (k.block i hi).trans (h.block i hi)⟩
theorem Keep.mono {T U : Nat → Prop} {A B : World} (h : Keep T A B) (hu : ∀ k, U k → T k) : Keep U A B := ⟨h.os, h.tape, h.output, h.size, fun k hk => h.block k (hu k hk)⟩
theorem Keep.below {T : Nat → Prop} {n : Nat} {A B : World} (h : Keep T A B) (hn : ∀ k, k < n → T k) : Below n A B := ⟨h.os, h.tape, h.output, h.size, fun k hk => h.block k (hn k hk)⟩
theorem Keep.of_below {T : Nat → Prop} {n : Nat} {A B : World} (h : Below n A B) (hn : ∀ k, T k → k < n) : Keep T A B := ⟨h.os, h.tape, h.output, h.size, fun k hk => h.block k (hn k hk)⟩
theorem Keep.alloc (T : Nat → Prop) (A : World) (o : Obj) (hT : ∀ k, T k → k < A.heap.size) : Keep T A (A.alloc o) :=
  ⟨rfl, rfl, rfl, by simp, fun k hk => Below.heap_alloc A o k (hT k hk)⟩
theorem Keep.putObj (T : Nat → Prop) (A : World) (l : Nat) (o : Obj) (hl : ¬ T l) : Keep T A (A.putObj l o) :=
  ⟨rfl, rfl, rfl, by simp, fun k hk => World.putObj_heap_other (fun e => hl (e ▸ hk))⟩
theorem Keep.setCell (T : Nat → Prop) (A : World) (p : Addr) (v : Value) (hl : ¬ T p.block) : Keep T A (A.setCell p v) :=
  ⟨rfl, rfl, rfl, by simp [World.setCell], fun k hk => Below.heap_setCell A p v k (fun e => hl (e ▸ hk))⟩
theorem Keep.cell {T : Nat → Prop} {A B : World} (h : Keep T A B) {p : Addr} (hp : T p.block) : B.cell? p = A.cell? p := World.cell?_of_block (w := A) (h.block p.block hp)
theorem Keep.frozen {T : Nat → Prop} {A B : World} (h : Keep T A B) {p : Addr} (hp : T p.block) : B.frozen? p = A.frozen? p := World.frozen?_of_block (w := A) (h.block p.block hp)

/-- What a round may do: it turns blocks of its own (S) alone, and S grows by new blocks alone. -/
structure RoundKeeps (S S' : Nat → Prop) (A B : World) : Prop where
  keep : Keep (fun k => k < A.heap.size ∧ ¬ S k) A B
  grow : ∀ k, S' k → S k ∨ (A.heap.size ≤ k ∧ k < B.heap.size)

/-- THE CONTRACT OF AN ITERATOR: made in w0; it reads the blocks Foot. -/
def IterC {α : Type} (P : Program) (gf : Nat) (lb : Array Value) (encs : α → Array Value) (Foot : Nat → Prop) (xs : List α) (w0 : World) : Prop :=
  ∀ (l n : Nat) (J Jx : Nat → (Nat → Prop) → World → Prop) (S0 : Nat → Prop) (W : World), Keep Foot w0 W → (∀ k, Foot k → k < W.heap.size ∧ ¬ S0 k) → (∀ k, S0 k → k < W.heap.size) →
    (∀ i S A B, J i S A → Keep (fun k => k < W.heap.size ∨ S k) A B → J i S B) →
    (∀ i S A B, Jx i S A → Keep (fun k => k < W.heap.size ∨ S k) A B → Jx i S B) →
    (∀ i x S A, J i S A → xs[i]? = some x → W.heap.size ≤ A.heap.size → (∀ k, S k → k < A.heap.size) → ∀ m, YieldAt Fence.wide m P l (encs x) A fun e B =>
      ∃ S', RoundKeeps S S' A B ∧ ((e = .returned (.bool true) ∧ J (i + 1) S' B) ∨ (e = .returned (.bool false) ∧ Jx (i + 1) S' B))) →
    J 0 S0 W →
    CallsIn Fence.wide n P gf (#[.func (.yield l) #[] #[]] ++ lb) W fun e B => (∃ v, e = .returned v) ∧ ((∃ S, J xs.length S B) ∨ ∃ i S, i < xs.length ∧ Jx (i + 1) S B)

/-- How a round's body may be left. -/
def iterPost (S : Nat → Prop) (I : Nat → (Nat → Prop) → World → Prop) (Ix : Code → Nat → (Nat → Prop) → World → Prop) (i : Nat) (W : World) : Exit → Act → World → Prop
  | .normal, _, W' => ∃ S', RoundKeeps S S' W W' ∧ I i S' W'
  | .ret, _, W' => ∃ S', RoundKeeps S S' W W' ∧ Ix .ret i S' W'
  | .exit id, _, W' => ∃ S', RoundKeeps S S' W W' ∧ Ix (.exit id) i S' W'
  | .goto t, _, W' => ∃ S', RoundKeeps S S' W W' ∧ Ix (.goto t) i S' W'
  | .panic _, _, _ => False
  | .outgrown, _, _ => False

variable {n : Nat} {P : Program}

/-- **A LOOP OVER AN ITERATOR.** S0: the blocks that the body may turn. -/
theorem wpIn_iter {α : Type} {g : Operand} {ps : Array Tmp} {assign body : Code} {Q : Exit → Act → World → Prop} {a : Act} {w w0 : World}
    {gf : Nat} {lb : Array Value} (hg : a.eval g = .func (.func gf) #[] lb) (eg : ∀ args w, (callFunc gf args).run P w = .ok (.enter gf args) w)
    {encs : α → Array Value} {Foot : Nat → Prop} {xs : List α} (hseq : IterC P gf lb encs Foot xs w0) (hF : Keep Foot w0 w) (hps : ∀ x, (encs x).size = ps.size)
    (S0 : Nat → Prop) (hS0 : ∀ k, S0 k → k < w.heap.size ∧ ¬ Foot k) (hFl : ∀ k, Foot k → k < w.heap.size)
    (I : Nat → (Nat → Prop) → World → Prop) (Ix : Code → Nat → (Nat → Prop) → World → Prop)
    (hI : ∀ i S A B, I i S A → Keep (fun k => k < w.heap.size ∨ S k) A B → I i S B) (hIx : ∀ c i S A B, Ix c i S A → Keep (fun k => k < w.heap.size ∨ S k) A B → Ix c i S B)
    (h0 : I 0 S0 w) (a₁ : α → Act)
    (hassign : ∀ (l m : Nat) (x : α) (W : World) (K : Act → World → Prop), K (a₁ x) W →
      assign.wpIn (Fence.wide.inRound l) m P (Exit.then K (fun _ _ _ => False)) { tmps := (ps.zip (encs x)).foldl (fun t (p, v) => t.setIfInBounds p v) a.tmps, defers := [] } W)
    (hbody : ∀ (l m i : Nat) (x : α) (S : Nat → Prop) (W : World), I i S W → xs[i]? = some x → w.heap.size ≤ W.heap.size → (∀ k, S k → k < W.heap.size) → body.wpIn (Fence.wide.inRound l) m P (iterPost S I Ix (i + 1) W) (a₁ x) W)
    (hdone : ∀ (D : Nat) (S : Nat → Prop) (W : World), w.heap.size ≤ D → I xs.length S W → W.heap[D]? = some (.deferred (some [])) → Q .normal { a with defers := { target := .collected D, args := #[] } :: a.defers } W)
    (hstop : ∀ (D i : Nat) (c : Code) (S : Nat → Prop) (W : World), w.heap.size ≤ D → i < xs.length → Ix c (i + 1) S W → W.heap[D]? = some (.deferred (some [])) → c.wpIn Fence.wide n P Q { a with defers := { target := .collected D, args := #[] } :: a.defers } W) :
    (Code.rangeFunc g ps assign body).wpIn Fence.wide n P Q a w := by
  refine wpIn_rangeFunc ?_
  intro fn hfn
  simp only [Fence.wide_round]
  obtain ⟨rec, hrec⟩ : ∃ rec : LoopState → Option Code → Loop, rec = fun st pe => { state := st, pending := pe, fn, tmps := a.tmps, params := ps, assign, body, defers := w.heap.size } := ⟨_, rfl⟩
  obtain ⟨W1, hW1⟩ : ∃ W1, (w.alloc (.deferred (some []))).alloc (.loop (rec .ready none)) = W1 := ⟨_, rfl⟩
  have hL1 : W1.heap[w.heap.size + 1]? = some (.loop (rec .ready none)) := by
    rw [← hW1]; have := World.alloc_heap_new (w.alloc (.deferred (some []))) (.loop (rec .ready none)); rwa [World.size_alloc] at this
  have hK1 : W1.heap[w.heap.size]? = some (.deferred (some [])) := by
    rw [← hW1]; exact (Below.heap_alloc _ _ _ (by simp)).trans (World.alloc_heap_new w _)
  have hs1 : W1.heap.size = w.heap.size + 1 + 1 := by rw [← hW1]; simp
  have hb1 : Below w.heap.size w W1 := by rw [← hW1]; exact ((Below.refl _ w).alloc (Nat.le_refl _) _).alloc (by simp) _
  have hI1 : I 0 S0 W1 := hI _ _ _ _ h0 (Keep.of_below hb1 (fun k hk => hk.elim id (fun h => (hS0 k h).1)))
  refine ⟨w.heap.size + 1, [{ target := .collected w.heap.size, args := #[] }], W1, { target := .fn (.func gf) lb, args := #[.func (.yield (w.heap.size + 1)) #[] #[]] }, W1, gf,
    #[.func (.yield (w.heap.size + 1)) #[] #[]] ++ lb, W1, ?_, ?_, ?_, ?_, (fun h => by simp [Fence.wide] at h), ?_⟩
  · rw [← hW1, hrec]; exact run_enterLoop_outer _ _ _ _ _
  · simp only [resolve, hg]
    simp [go_sem]
  · intro f' _; trivial
  · simp [invoke, go_sem, eg]
  · -- the records: blocks l = size + 1 and D = size
    have nS : ∀ (T : Nat → Prop), (∀ k, T k → k ≠ w.heap.size ∧ k ≠ w.heap.size + 1) → ¬ T (w.heap.size + 1) ∧ ¬ T w.heap.size := fun T h => ⟨fun q => (h _ q).2 rfl, fun q => (h _ q).1 rfl⟩
    refine (hseq (w.heap.size + 1) _
      (fun i S W => ∃ T, (∀ k, S k ↔ T k ∨ k = w.heap.size ∨ k = w.heap.size + 1) ∧ (∀ k, T k → k ≠ w.heap.size ∧ k ≠ w.heap.size + 1) ∧ I i T W ∧ W.heap[w.heap.size + 1]? = some (.loop (rec .ready none)) ∧ W.heap[w.heap.size]? = some (.deferred (some [])))
      (fun i S W => ∃ T c, (∀ k, S k ↔ T k ∨ k = w.heap.size ∨ k = w.heap.size + 1) ∧ (∀ k, T k → k ≠ w.heap.size ∧ k ≠ w.heap.size + 1) ∧ Ix c i T W ∧ W.heap[w.heap.size + 1]? = some (.loop (rec .done (some c))) ∧ W.heap[w.heap.size]? = some (.deferred (some [])))
      (fun k => S0 k ∨ k = w.heap.size ∨ k = w.heap.size + 1) W1
      (hF.trans (Keep.of_below hb1 (fun k hk => hFl k hk)))
      (fun k hk => ⟨by have := hFl k hk; omega, fun h => by
        have := hFl k hk
        rcases h with h | h | h
        · exact (hS0 k h).2 hk
        · omega
        · omega⟩)
      (fun k hk => by
        rcases hk with h | h | h
        · have := (hS0 k h).1; omega
        · omega
        · omega)
      ?_ ?_ ?_ ⟨S0, fun k => Iff.rfl, fun k hk => by have := (hS0 k hk).1; omega, hI1, hL1, hK1⟩).mono ?_
    · rintro i S A B ⟨T, hT, hn, hi, hl, hk⟩ hkp
      have hw : ∀ k, k < w.heap.size ∨ T k → (k < W1.heap.size ∨ S k) := fun k h => h.elim (fun h => .inl (by omega)) (fun h => .inr ((hT k).2 (.inl h)))
      exact ⟨T, hT, hn, hI _ _ _ _ hi (hkp.mono hw), (hkp.block _ (.inl (by omega))).trans hl, (hkp.block _ (.inl (by omega))).trans hk⟩
    · rintro i S A B ⟨T, c, hT, hn, hi, hl, hk⟩ hkp
      have hw : ∀ k, k < w.heap.size ∨ T k → (k < W1.heap.size ∨ S k) := fun k h => h.elim (fun h => .inl (by omega)) (fun h => .inr ((hT k).2 (.inl h)))
      exact ⟨T, c, hT, hn, hIx _ _ _ _ _ hi (hkp.mono hw), (hkp.block _ (.inl (by omega))).trans hl, (hkp.block _ (.inl (by omega))).trans hk⟩
    · -- one round
      rintro i x S W ⟨T, hT, hn, hi, hl, hk⟩ hx hWs hSl m
      have hlt : w.heap.size + 1 < W.heap.size := (Array.getElem?_eq_some_iff.1 hl).1
      have hy := run_yield (P := P) (args := encs x) hl (by rw [hrec]; exact hps x)
      rw [hrec] at hy
      refine ⟨fn, _, assign, body, hy, roundIn_of_wpIn hfn (hassign _ _ x W _ ⟨_, run_beginRound hl (by rw [hrec]), ?_⟩)⟩
      obtain ⟨W2, hW2⟩ : ∃ W2, W.putObj (w.heap.size + 1) (.loop { rec .ready none with state := .busy }) = W2 := ⟨_, rfl⟩
      rw [hrec] at hW2
      have hl2 : W2.heap[w.heap.size + 1]? = some (.loop { rec .ready none with state := .busy }) := by rw [← hW2, hrec]; exact World.putObj_heap_same hlt
      have hk2 : W2.heap[w.heap.size]? = some (.deferred (some [])) := by rw [← hW2]; exact (World.putObj_heap_other (by omega)).trans hk
      have hq2 : Keep (fun k => k ≠ w.heap.size + 1) W W2 := by rw [← hW2]; exact Keep.putObj _ _ _ _ (fun h => h rfl)
      have hs2 : W2.heap.size = W.heap.size := by rw [← hW2]; simp
      rw [hrec]
      simp only [hW2]
      have hi2 : I i T W2 := hI _ _ _ _ hi (hq2.mono (fun k hk => hk.elim (fun h => by omega) (fun h => (hn k h).2)))
      refine wpIn_mono (hbody _ _ i x T W2 hi2 hx (by omega) (fun k hk => by have := hSl k ((hT k).2 (.inl hk)); omega)) ?_
      have fin : ∀ (jump : Option Code) (T' : Nat → Prop) (W3 : World), RoundKeeps T T' W2 W3 →
          ∃ W4, (Instr.endRound (w.heap.size + 1) jump).run P W3 = .ok (.bool jump.isNone) W4 ∧ W4.heap[w.heap.size + 1]? = some (.loop (rec (if jump.isNone then .ready else .done) jump)) ∧
            W4.heap[w.heap.size]? = some (.deferred (some [])) ∧ (∀ k, T' k → k ≠ w.heap.size ∧ k ≠ w.heap.size + 1) ∧ Keep (fun k => k ≠ w.heap.size + 1) W3 W4 ∧
            RoundKeeps S (fun k => T' k ∨ k = w.heap.size ∨ k = w.heap.size + 1) W W4 := fun jump T' W3 hr => by
        obtain ⟨u1, u2⟩ := nS T hn
        have hl3 : W3.heap[w.heap.size + 1]? = some (.loop { rec .ready none with state := .busy }) := (hr.keep.block _ ⟨by omega, u1⟩).trans hl2
        have hk3 : W3.heap[w.heap.size]? = some (.deferred (some [])) := (hr.keep.block _ ⟨by omega, u2⟩).trans hk2
        have he := run_endRound (P := P) jump hl3
        refine ⟨_, he, ?_, ?_, ?_, ?_, ?_⟩
        · rw [hrec]; exact World.putObj_heap_same (Array.getElem?_eq_some_iff.1 hl3).1
        · exact (World.putObj_heap_other (by omega)).trans hk3
        · intro k hk
          rcases hr.grow k hk with h | h
          · exact hn k h
          · omega
        · exact Keep.putObj _ _ _ _ (fun h => h rfl)
        · have hq4 : Keep (fun k => k ≠ w.heap.size + 1) W3 (W3.putObj (w.heap.size + 1) (.loop { { rec .ready none with state := .busy } with state := if jump.isNone then .ready else .done, pending := jump })) := Keep.putObj _ _ _ _ (fun h => h rfl)
          refine ⟨(hq2.mono ?_).trans ((hr.keep.mono ?_).trans (hq4.mono ?_)), ?_⟩
          · rintro k ⟨_, h⟩ e; exact h ((hT k).2 (.inr (.inr e)))
          · rintro k ⟨h1, h⟩; exact ⟨by omega, fun e => h ((hT k).2 (.inl e))⟩
          · rintro k ⟨_, h⟩ e; exact h ((hT k).2 (.inr (.inr e)))
          · intro k hk
            rcases hk with hk | hk | hk
            · rcases hr.grow k hk with h | h
              · exact .inl ((hT k).2 (.inl h))
              · exact .inr ⟨by omega, by simpa using h.2⟩
            · exact .inl ((hT k).2 (.inr (.inl hk)))
            · exact .inl ((hT k).2 (.inr (.inr hk)))
      rintro e a3 W3 hp
      cases e with
      | normal =>
        obtain ⟨T', hr, hi3⟩ := hp
        obtain ⟨W4, he, hl4, hk4, hn4, hq4, hr4⟩ := fin none T' W3 hr
        exact ⟨_, _, he, _, hr4, .inl ⟨rfl, T', fun k => Iff.rfl, hn4, hI _ _ _ _ hi3 (hq4.mono (fun k hk => hk.elim (fun h => by omega) (fun h => (hn4 k h).2))), (by rw [hrec] at hl4; simpa using hl4), hk4⟩⟩
      | ret =>
        obtain ⟨T', hr, hi3⟩ := hp
        obtain ⟨W4, he, hl4, hk4, hn4, hq4, hr4⟩ := fin (some .ret) T' W3 hr
        exact ⟨_, _, he, _, hr4, .inr ⟨rfl, T', .ret, fun k => Iff.rfl, hn4, hIx _ _ _ _ _ hi3 (hq4.mono (fun k hk => hk.elim (fun h => by omega) (fun h => (hn4 k h).2))), (by rw [hrec] at hl4; simpa using hl4), hk4⟩⟩
      | exit id =>
        obtain ⟨T', hr, hi3⟩ := hp
        obtain ⟨W4, he, hl4, hk4, hn4, hq4, hr4⟩ := fin (some (.exit id)) T' W3 hr
        exact ⟨_, _, he, _, hr4, .inr ⟨rfl, T', .exit id, fun k => Iff.rfl, hn4, hIx _ _ _ _ _ hi3 (hq4.mono (fun k hk => hk.elim (fun h => by omega) (fun h => (hn4 k h).2))), (by rw [hrec] at hl4; simpa using hl4), hk4⟩⟩
      | goto t =>
        obtain ⟨T', hr, hi3⟩ := hp
        obtain ⟨W4, he, hl4, hk4, hn4, hq4, hr4⟩ := fin (some (.goto t)) T' W3 hr
        exact ⟨_, _, he, _, hr4, .inr ⟨rfl, T', .goto t, fun k => Iff.rfl, hn4, hIx _ _ _ _ _ hi3 (hq4.mono (fun k hk => hk.elim (fun h => by omega) (fun h => (hn4 k h).2))), (by rw [hrec] at hl4; simpa using hl4), hk4⟩⟩
      | panic ch => exact hp.elim
      | outgrown => exact hp.elim
    · -- behind the iterator
      rintro e W2 ⟨⟨v, rfl⟩, (⟨S, T, hT, hn, hi, hl, hk⟩ | ⟨i, S, hlt, T, c, hT, hn, hi, hl, hk⟩)⟩
      · have he := run_endLoop (P := P) hl (by rw [hrec]; simp)
        refine ⟨none, _, by rw [hrec] at he; exact he, hdone _ T _ (Nat.le_refl _) (hI _ _ _ _ hi ((Keep.putObj (fun k => k ≠ w.heap.size + 1) _ _ _ (fun h => h rfl)).mono (fun k hk => hk.elim (fun h => by omega) (fun h => (hn k h).2)))) ((World.putObj_heap_other (by omega)).trans hk)⟩
      · have he := run_endLoop (P := P) hl (by rw [hrec]; simp)
        refine ⟨some c, _, by rw [hrec] at he; exact he, hstop _ i c T _ (Nat.le_refl _) hlt (hIx _ _ _ _ _ hi ((Keep.putObj (fun k => k ≠ w.heap.size + 1) _ _ _ (fun h => h rfl)).mono (fun k hk => hk.elim (fun h => by omega) (fun h => (hn k h).2)))) ((World.putObj_heap_other (by omega)).trans hk)⟩
end Go.Proofs.Ytcgokimagimamaa
/- Rows of the call's own that grow by append: where the new row lies; a row as a list that is read. -/
namespace Go.Proofs.Ytcgokimagimamaa
open Go.RowKit
set_option linter.unusedVariables false
theorem wpListIn_append_at {F : Fence} {n : Nat} {P : Program} (w : World) {ops : Array Oper} {rest : List Oper} {o : Oper} {a : Act} {Q : Exit → Act → World → Prop}
    (hg : o.guard = none) (s x : Operand) (t : TypeId) (hop : o.op = Op.call { callee := Callee.builtin Builtin.append, args := #[s, x], argTypes := #[t, t] })
    (base : Nat) (e : TypeId) (i : TypeInfo) (z : Value) (size bytes : Nat) (h1 : P.underlying t = some (.slice e)) (h2 : P.info? e = some i) (h3 : i.zero = some z) (h4 : i.size = size) (h5 : i.bytes = bytes) (h6 : z.cells.size = size) (h7 : 0 < size)
    (v : Value) (k : Nat) (xs : List Value) (hs : a.eval s = v) (hown : w.ownsRow base e size v k xs) (ad : Addr) (m c : Nat) (news : List Value) (hx : a.eval x = .slice (some ad) m c) (hn : news.length = m * size)
    (hc : ∀ j u, news[j]? = some u → w.cell? (ad.add j) = some u) (h1c : ∀ u ∈ news, u.oneCell' = true) (b1 : k + m ≤ maxLen) (b2 : (k + m) * bytes ≤ 140737488355328) (b3 : base ≤ w.heap.size)
    (hK : ∀ v' w', w'.ownsRow base e size v' (k + m) (xs ++ news) → w.grownBy w' v.ownBlock → (v'.ownBlock = v.ownBlock ∨ v'.ownBlock = some w.heap.size) → wpListIn F n P ops Q rest (a.put o.dst v') w') :
    wpListIn F n P ops Q (o :: rest) a w := by
  refine wpListIn_plain hg fun K hK' => ?_
  obtain ⟨v', w', hrun, r1, r2, _, r3⟩ := run_append_own_at (P := P) (w := w) base t o.type e i z size bytes h1 h2 h3 h4 h5 h6 h7 v k xs hown ad m c news hn hc h1c b1 b2 b3
  unfold Oper.wpIn
  refine ⟨?_, ?_⟩
  · simp [Oper.about, hop, resolve, Target.leads, Sem.run_pure]
  · rw [Oper.semAt_plain F _ _ (by rw [hop]; intro c hc'; cases hc')]
    simp [execOp, hop, resolve, invoke, builtin, hs, hx, hrun, Result.andThen]
    exact hK' _ _ (hK v' w' r1 r2 r3)

theorem ownsRow_same {w w' : World} {base : Nat} {e : TypeId} {size : Nat} {v : Value} {n : Nat} {xs : List Value} (h : w.ownsRow base e size v n xs) (hk : ∀ g, v.ownBlock = some g → w'.heap[g]? = w.heap[g]?) : w'.ownsRow base e size v n xs := by
  obtain ⟨h1, h2⟩ := h
  refine ⟨h1, ?_⟩
  rcases h2 with h2 | ⟨g, cap, cur, rfl, hg, hh, r⟩
  · exact .inl h2
  · exact .inr ⟨g, cap, cur, rfl, hg, by rw [hk g (by simp [Value.ownBlock])]; exact hh, r⟩
theorem ownsRow_lt {w : World} {base : Nat} {e : TypeId} {size : Nat} {v : Value} {n : Nat} {xs : List Value} (h : w.ownsRow base e size v n xs) {g : Nat} (hg : v.ownBlock = some g) : g < w.heap.size ∧ base ≤ g := by
  rcases h.2 with ⟨rfl, _⟩ | ⟨g', cap, cur, rfl, hb, hh, _⟩
  · simp [Value.ownBlock] at hg
  · obtain rfl : g' = g := by simpa [Value.ownBlock] using hg
    exact ⟨(Array.getElem?_eq_some_iff.1 hh).1, hb⟩
theorem flatMap_get {α : Type} {enc : α → List Value} {sz : Nat} (hsz : ∀ x, (enc x).length = sz) : ∀ (xs : List α) (i : Nat) (x : α), xs[i]? = some x → ∀ j u, (enc x)[j]? = some u → (xs.flatMap enc)[i * sz + j]? = some u
  | [], i, x, h, _, _, _ => by simp at h
  | y :: t, 0, x, h, j, u, hu => by
    simp at h; subst h
    have hj : j < (enc y).length := (List.getElem?_eq_some_iff.1 hu).1
    rw [List.flatMap_cons, Nat.zero_mul, Nat.zero_add, List.getElem?_append_left hj]; exact hu
  | y :: t, i + 1, x, h, j, u, hu => by
    have ih := flatMap_get hsz t i x (by simpa using h) j u hu
    have hl := hsz y
    rw [List.flatMap_cons, List.getElem?_append_right (by rw [hl, Nat.add_mul]; omega)]
    rw [hl, show (i + 1) * sz + j - sz = i * sz + j by rw [Nat.add_mul]; omega]
    exact ih
theorem flatMap_len {α : Type} {enc : α → List Value} {sz : Nat} (hsz : ∀ x, (enc x).length = sz) : ∀ (xs : List α), (xs.flatMap enc).length = xs.length * sz
  | [] => by simp
  | y :: t => by rw [List.flatMap_cons, List.length_append, flatMap_len hsz t, hsz, List.length_cons, Nat.add_mul]; omega
/-- A row of the call's own that holds a list's elements. -/
def OwnL {α : Type} (sz : Nat) (enc : α → List Value) (w : World) (base : Nat) (e : TypeId) (v : Value) (xs : List α) : Prop := w.ownsRow base e sz v xs.length (xs.flatMap enc)
theorem OwnL.rd {α : Type} {sz : Nat} {enc : α → List Value} {w : World} {base : Nat} {e : TypeId} {v : Value} {xs : List α} (h : OwnL sz enc w base e v xs) (hsz : ∀ x, (enc x).length = sz) : Rd sz enc w v xs := by
  obtain ⟨h1, h2⟩ := h
  rcases h2 with ⟨rfl, h0⟩ | ⟨g, cap, cur, rfl, hg, hh, hc, hm, hcs, ht⟩
  · obtain rfl : xs = [] := List.eq_nil_of_length_eq_zero h0
    exact Rd.nil _ _ _
  · refine ⟨_, cap, rfl, hc, fun hne => ⟨g, 0, rfl, (Array.getElem?_eq_some_iff.1 hh).1, fun i x hi j u hu => ?_⟩⟩
    have hin := flatMap_get hsz xs i x hi j u hu
    rw [← ht] at hin
    have hlt := (List.getElem?_eq_some_iff.1 hin).1
    rw [List.getElem?_take_of_lt (by simp at hlt; omega)] at hin
    simp only [World.cell?, hh]
    simpa [Nat.zero_add] using hin
theorem OwnL.nil {α : Type} (sz : Nat) (enc : α → List Value) (w : World) (base : Nat) (e : TypeId) : OwnL sz enc w base e (.slice none 0 0) ([] : List α) := ⟨by simp, .inl ⟨rfl, rfl⟩⟩
theorem OwnL.same {α : Type} {sz : Nat} {enc : α → List Value} {w w' : World} {base : Nat} {e : TypeId} {v : Value} {xs : List α} (h : OwnL sz enc w base e v xs) (hk : ∀ g, v.ownBlock = some g → w'.heap[g]? = w.heap[g]?) : OwnL sz enc w' base e v xs := ownsRow_same h hk
theorem OwnL.below {α : Type} {sz : Nat} {enc : α → List Value} {w w' : World} {base : Nat} {e : TypeId} {v : Value} {xs : List α} (h : OwnL sz enc w base e v xs) (hb : Below w.heap.size w w') : OwnL sz enc w' base e v xs :=
  h.same (fun g hg => hb.block g (ownsRow_lt h hg).1)
theorem OwnL.form {α : Type} {sz : Nat} {enc : α → List Value} {w : World} {base : Nat} {e : TypeId} {v : Value} {xs : List α} (h : OwnL sz enc w base e v xs) : ∃ A c, v = .slice A xs.length c ∧ xs.length ≤ c := by
  rcases h.2 with ⟨rfl, h0⟩ | ⟨g, cap, cur, rfl, _, _, hc, _⟩
  · exact ⟨none, 0, by rw [h0], by omega⟩
  · exact ⟨_, cap, rfl, hc⟩
theorem OwnL.snoc {α : Type} {sz : Nat} {enc : α → List Value} {w : World} {base : Nat} {e : TypeId} {v : Value} {xs : List α} {x : α} (h : w.ownsRow base e sz v (xs.length + 1) (xs.flatMap enc ++ enc x)) : OwnL sz enc w base e v (xs ++ [x]) := by
  unfold OwnL; rw [List.flatMap_append]; simpa using h
def encI (x : Int) : List Value := [.int .i64 x]
theorem Keep.grown {T : Nat → Prop} {A B : World} {row : Option Nat} (hg : A.grownBy B row) (hT : ∀ k, T k → k < A.heap.size ∧ some k ≠ row) : Keep T A B :=
  ⟨hg.os, hg.tape, hg.output, hg.size, fun k hk => hg.block k (hT k hk).1 (hT k hk).2⟩
theorem ownsRow_other {w : World} {base : Nat} {e : TypeId} {size : Nat} {v : Value} {n : Nat} {xs : List Value} (h : w.ownsRow base e size v n xs) {b : Nat} {cs : Array Value} {t : TypeId} {fr : Nat × Nat} (hb : w.heap[b]? = some (.cells cs t fr)) (ht : t ≠ e) : v.ownBlock ≠ some b := by
  intro he
  rcases h.2 with ⟨rfl, _⟩ | ⟨g, cap, cur, rfl, _, hh, _⟩
  · simp [Value.ownBlock] at he
  · obtain rfl : g = b := by simpa [Value.ownBlock] using he
    rw [hb] at hh; injection hh with hh; injection hh with _ hh; exact ht hh
end Go.Proofs.Ytcgokimagimamaa
/- slices.AppendSeq and slices.Collect of whole numbers, over whatever iterator keeps its word. -/
namespace Go.Proofs.Ytcgokimagimamaa
open Go.RowKit
attribute [local go_sem] Oper.semAt_some
set_option maxHeartbeats 1000000
set_option maxRecDepth 100000
set_option linter.unusedSimpArgs false
set_option linter.unusedVariables false
theorem infoInt : (Try.prog.info? 3).map (fun i => (i.zero, i.size, i.bytes)) = some (some (.int .i64 0), 1, 8) := by kernel_rfl
/-- What the loop of AppendSeq holds between two rounds. -/
def SeqAt (n0 : Nat) (w : World) (xs : List Int) (i : Nat) (S : Nat → Prop) (A : World) : Prop :=
  ∃ vs, A.heap[n0]? = some (.cells #[vs] 37 (0, 0)) ∧ OwnL 1 encI A n0 3 vs (xs.take i) ∧ S n0 ∧ (∀ g, vs.ownBlock = some g → S g) ∧ Below n0 w A
theorem SeqAt.keep {n0 : Nat} {w : World} {xs : List Int} {i : Nat} {S : Nat → Prop} {A B : World} {N : Nat} (hN : n0 ≤ N) (h : SeqAt n0 w xs i S A) (hk : Keep (fun k => k < N ∨ S k) A B) : SeqAt n0 w xs i S B := by
  obtain ⟨vs, h1, h2, h3, h4, h5⟩ := h
  exact ⟨vs, (hk.block _ (.inr h3)).trans h1, h2.same (fun g hg => hk.block g (.inr (h4 g hg))), h3, h4, h5.trans (hk.below (fun k hlt => .inl (by omega)))⟩
theorem AppendSeqI (gf : Nat) (lb : Array Value) (Foot : Nat → Prop) (xs : List Int) (w0 w : World) (n : Nat) (hit : IterC Try.prog gf lb (fun x : Int => #[.int .i64 x]) Foot xs w0) (hF : Keep Foot w0 w) (hFl : ∀ k, Foot k → k < w.heap.size)
    (hlen : xs.length ≤ 1000000000) (eg : ∀ args w, (callFunc gf args).run Try.prog w = .ok (.enter gf args) w) :
    CallsIn Fence.wide n Try.prog 113 #[.slice none 0 0, .func (.func gf) #[] lb] w fun e w' => ∃ v, e = .returned v ∧ OwnL 1 encI w' w.heap.size 3 v xs ∧ Below w.heap.size w w' := by
  refine callsIn_of_wp_marks Try.func113 rfl trivial ?_ rfl
  simp only [Try.ntmps113, List.size_toArray, List.length_cons, List.length_nil, Nat.reduceAdd, Nat.reduceSub, Array.replicate_succ, Array.replicate_zero, List.push_toArray, List.append_toArray, List.nil_append, List.cons_append]
  gi_wp2
  have hb1 : Below w.heap.size w (w.alloc (.cells #[.slice none 0 0] 37)) := (Below.refl _ w).alloc (Nat.le_refl _) _
  refine wpIn_iter (w0 := w0) (encs := fun x : Int => #[.int .i64 x]) (Foot := Foot) (xs := xs) rfl eg hit (hF.trans (Keep.of_below hb1 (fun k hk => hFl k hk))) (fun x => rfl) (fun k => k = w.heap.size)
    (fun k hk => ⟨by subst hk; simp, fun h => by have := hFl k h; omega⟩) (fun k hk => by have := hFl k hk; simp; omega) (SeqAt w.heap.size w xs) (fun _ _ _ _ => False)
    (fun i S A B h hk => h.keep (N := (w.alloc (.cells #[.slice none 0 0] 37)).heap.size) (by simp) hk) (fun _ _ _ _ _ h _ => h.elim) ?h0
    (fun x => { tmps := #[.slice none 0 0, .func (.func gf) #[] lb, .pointer (some ⟨w.heap.size, 0, none⟩), undef, .slice none 0 0, .int .i64 x, .func (.func gf) #[] lb, .int .i64 x, undef, undef, undef, undef, undef], defers := [] }) ?hassign ?hbody ?hdone ?hstop
  case h0 => exact ⟨.slice none 0 0, World.alloc_heap_new w _, by simpa using OwnL.nil _ _ _ _ _, rfl, fun g hg => by simp [Value.ownBlock] at hg, hb1⟩
  case hassign =>
    intro l m x W K hK
    have HK := hidI hK
    clear hK
    gi_wp2_with ((with_reducible refine And.intro ?_ ?_); (focus (intro _ _; exact True.intro)))
    exact HK.out
  case hbody =>
    intro l m i x S W hI hx hWs hSl
    obtain ⟨vs, h1, h2, h3, h4, h5⟩ := hI
    have hBlt : w.heap.size < W.heap.size := (Array.getElem?_eq_some_iff.1 h1).1
    obtain ⟨i0, hi, hz0, hz1, hz2⟩ := info_parts infoInt
    have hown : (W.alloc (.cells #[.int .i64 x] 3)).ownsRow w.heap.size 3 1 vs (xs.take i).length ((xs.take i).flatMap encI) := h2.below ((Below.refl _ W).alloc (Nat.le_refl _) _)
    have hli : (xs.take i).length ≤ 1000000000 := by rw [List.length_take]; omega
    have cb : W.cell? ⟨w.heap.size, 0, none⟩ = some vs := by simp [World.cell?, h1]
    have fb : W.frozen? ⟨w.heap.size, 0, none⟩ = false := by simp [World.frozen?, h1]
    have htk : xs.take (i + 1) = xs.take i ++ [x] := by rw [List.take_add_one, hx]; rfl
    have HTK := hidI htk
    have H1 := hidI h1
    have H2 := hidI h2
    have H3 := hidI h3
    have H4 := hidI h4
    have H5 := hidI h5
    have HO := hidI hown
    have hnb : vs.ownBlock ≠ some w.heap.size := by
      intro he
      rcases h2.2 with ⟨rfl, _⟩ | ⟨g, cap, cur, rfl, _, hh, _⟩
      · simp [Value.ownBlock] at he
      · obtain rfl : g = w.heap.size := by simpa [Value.ownBlock] using he
        rw [h1] at hh; injection hh with hh; injection hh with _ hh; exact absurd hh (by decide)
    have HNB := hidI hnb
    clear htk h1 h2 h3 h4 h5 hown hnb hx
    gi_wp2_with (first | (gi_at_builtin; go_loud (refine wpListIn_append_at _ rfl _ _ 37 rfl w.heap.size 3 i0 (.int .i64 0) 1 8 Try.underlying37 hi hz0 hz1 hz2 rfl (by decide) _ _ _ rfl HO.out ⟨W.heap.size, 0, none⟩ 1 1 [.int .i64 x] rfl rfl (cell_one_new _ _ _) (by simp [Value.oneCell']) (by unfold maxLen; omega) (by omega) (by simp; omega) ?_; intro v' w1 hown1 hg1 hat1; have hol := hidI (OwnL.snoc (x := x) (xs := xs.take i) (enc := encI) hown1); have hb3 : w1.heap[w.heap.size]? = some (.cells #[vs] 37 (0, 0)) := (hg1.block w.heap.size (by simp; omega) (fun h => HNB.out h.symm)).trans ((Below.heap_alloc _ _ _ hBlt).trans H1.out); have cb1 : w1.cell? ⟨w.heap.size, 0, none⟩ = some vs := (by simp [World.cell?, hb3]); have fb1 : w1.frozen? ⟨w.heap.size, 0, none⟩ = false := (by simp [World.frozen?, hb3]); have HB3 := hidI hb3; have HG := hidI hg1; have HAT := hidI hat1; clear hown1 hb3 hg1 hat1; obtain ⟨A1, c1, rfl, hc1⟩ := OwnL.form hol.out)) | ((with_reducible refine And.intro ?_ ?_); (focus (intro _ _; exact True.intro))))
    have hlen2 : (xs.take i ++ [x]).length = min i xs.length + 1 := by simp
    have ho := hol.out
    rw [hlen2] at ho
    have hnb1 := ownsRow_other ho HB3.out (by decide)
    refine ⟨fun k => k = w.heap.size ∨ (Value.slice A1 (min i xs.length + 1) c1).ownBlock = some k, ⟨?keep, ?grow⟩, _, Boxed.set _ HB3.out, ?own, .inl rfl, fun g hg => .inr hg, ?below⟩
    case keep =>
      refine (Keep.alloc _ W _ (fun k hk => hk.1)).trans ((Keep.grown HG.out (fun k hk => ⟨by have := hk.1; simp; omega, fun e => hk.2 (H4.out k e.symm)⟩)).trans (Keep.setCell _ _ _ _ (fun h => h.2 H3.out)))
    case grow =>
      intro k hk
      rcases hk with rfl | hk
      · exact .inl H3.out
      · rcases HAT.out with h | h
        · exact .inl (H4.out k (h.symm.trans (by rw [hlen2]; exact hk)))
        · rw [hlen2, hk] at h
          injection h with h
          have := (ownsRow_lt ho hk).1
          subst h
          exact .inr ⟨by simp, by simpa using this⟩
    case own =>
      rw [HTK.out]
      exact ho.same (fun g hg => Below.heap_setCell _ _ _ _ (fun e => hnb1 (by rw [hg, e])))
    case below =>
      refine H5.out.trans ?_
      refine (((Below.refl _ W).alloc (by omega) _).grown HG.out (by simp; omega) (fun k e => (ownsRow_lt H2.out e).2)).setCell (Nat.le_refl _) _
  case hdone =>
    intro D S W hD hI hK
    obtain ⟨vs, h1, h2, h3, h4, h5⟩ := hI
    rw [List.take_length] at h2
    obtain ⟨A1, c1, rfl, hc1⟩ := h2.form
    have cb : W.cell? ⟨w.heap.size, 0, none⟩ = some (.slice A1 xs.length c1) := by simp [World.cell?, h1]
    have H2 := hidI h2
    have H5 := hidI h5
    have HK := hidI hK
    clear h1 h2 h3 h4 h5 hK
    gi_wp2_with ((with_reducible refine And.intro ?_ ?_); (focus (intro _ _; exact True.intro)))
    refine ⟨by simp, .inl ⟨_, _, rfl, run_takeDeferred HK.out, ?_⟩⟩
    refine ⟨_, results_tmp rfl _ _ _, _, rfl, ?_, ?_⟩
    · refine H2.out.same (fun g hg => World.putObj_heap_other ?_)
      intro e
      have hh := HK.out
      rw [← e] at hh
      rcases H2.out.2 with ⟨h0, _⟩ | ⟨g', cap, cur, h0, _, hg', _⟩
      · rw [h0] at hg; simp [Value.ownBlock] at hg
      · rw [h0] at hg
        obtain rfl : g' = g := by simpa [Value.ownBlock] using hg
        rw [hh] at hg'; cases hg'
    · exact H5.out.trans ⟨rfl, rfl, rfl, by simp, fun k hk => World.putObj_heap_other (by have : (w.alloc (.cells #[.slice none 0 0] 37)).heap.size ≤ D := hD; simp at this; omega)⟩
  case hstop => exact fun _ _ _ _ _ _ _ h _ => h.elim
theorem CollectI (gf : Nat) (lb : Array Value) (Foot : Nat → Prop) (xs : List Int) (w0 w : World) (hit : IterC Try.prog gf lb (fun x : Int => #[.int .i64 x]) Foot xs w0) (hF : Keep Foot w0 w) (hFl : ∀ k, Foot k → k < w.heap.size)
    (hlen : xs.length ≤ 1000000000) (eg : ∀ args w, (callFunc gf args).run Try.prog w = .ok (.enter gf args) w) :
    Calls Try.prog 92 #[.func (.func gf) #[] lb] w fun e w' => ∃ v, e = .returned v ∧ OwnL 1 encI w' w.heap.size 3 v xs ∧ Below w.heap.size w w' := by
  have HC := hidI (callsIn_wide.1 (AppendSeqI gf lb Foot xs w0 w 0 hit hF hFl hlen eg))
  go_enter Try.func92, Try.ntmps92
  go_wp2_with fail
  refine Calls.mono HC.out ?_
  rintro e w' ⟨v, rfl, ho, hb⟩
  have HO := hidI ho
  have HB := hidI hb
  clear ho hb
  go_wp2
  go_ret
  exact ⟨v, rfl, HO.out, HB.out⟩
end Go.Proofs.Ytcgokimagimamaa
