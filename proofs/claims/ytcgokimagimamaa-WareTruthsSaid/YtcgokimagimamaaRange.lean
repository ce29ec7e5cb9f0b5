/- Laws of my own: a loop over a function's yields. An iterator's word: it yields the elements of a list, one after the other; it turns none of the blocks that lay when it was called, and none of the loop's own. -/
import Derived.RangeFuncFrom
import Derived.Test.YtcgokimagimamaaWords
namespace Go.Proofs.Ytcgokimagimamaa
open Go.RowKit

/-- From A to B: the streams are the same, no block has gone, and the blocks of T are as they were. -/
structure Keep (T : Nat → Prop) (A B : World) : Prop where
  os : B.os = A.os
  tape : B.tape = A.tape
  output : B.output = A.output
  size : A.heap.size ≤ B.heap.size
  block : ∀ k, T k → B.heap[k]? = A.heap[k]?

theorem Keep.refl (T : Nat → Prop) (A : World) : Keep T A A := ⟨rfl, rfl, rfl, Nat.le_refl _, fun _ _ => rfl⟩
theorem Keep.trans {T : Nat → Prop} {A B C : World} (h : Keep T A B) (k : Keep T B C) : Keep T A C :=
  ⟨k.os.trans h.os, k.tape.trans h.tape, k.output.trans h.output, Nat.le_trans h.size k.size, fun i hi => (k.block i hi).trans (h.block i hi)⟩
theorem Keep.mono {T U : Nat → Prop} {A B : World} (h : Keep T A B) (hu : ∀ k, U k → T k) : Keep U A B := ⟨h.os, h.tape, h.output, h.size, fun k hk => h.block k (hu k hk)⟩
theorem Keep.below {T : Nat → Prop} {n : Nat} {A B : World} (h : Keep T A B) (hn : ∀ k, k < n → T k) : Below n A B := ⟨h.os, h.tape, h.output, h.size, fun k hk => h.block k (hn k hk)⟩
theorem Keep.of_below {T : Nat → Prop} {n : Nat} {A B : World} (h : Below n A B) (hn : ∀ k, T k → k < n) : Keep T A B := ⟨h.os, h.tape, h.output, h.size, fun k hk => h.block k (hn k hk)⟩
theorem Keep.alloc (T : Nat → Prop) (A : World) (o : Obj) (hT : ∀ k, T k → k < A.heap.size) : Keep T A (A.alloc o) :=
  ⟨rfl, rfl, rfl, by simp, fun k hk => Below.heap_alloc A o k (hT k hk)⟩
theorem Keep.putObj (T : Nat → Prop) (A : World) (l : Nat) (o : Obj) (hl : ¬ T l) : Keep T A (A.putObj l o) :=
  ⟨rfl, rfl, rfl, by simp, fun k hk => World.putObj_heap_other (fun e => hl (e ▸ hk))⟩
theorem Keep.setCell (T : Nat → Prop) (A : World) (p : Addr) (v : Value) (hl : ¬ T p.block) : Keep T A (A.setCell p v) :=
  ⟨rfl, rfl, rfl, by simp [World.setCell], fun k hk => Below.heap_setCell A p v k (fun e => hl (e ▸ hk))⟩
theorem Keep.cell {T : Nat → Prop} {A B : World} (h : Keep T A B) {p : Addr} (hp : T p.block) : B.cell? p = A.cell? p := World.cell?_of_block (w := A) (h.block p.block hp)
theorem Keep.frozen {T : Nat → Prop} {A B : World} (h : Keep T A B) {p : Addr} (hp : T p.block) : B.frozen? p = A.frozen? p := World.frozen?_of_block (w := A) (h.block p.block hp)

/-- What a round may do: it turns blocks of its own (S) alone, and S grows by new blocks alone. -/
structure RoundKeeps (S S' : Nat → Prop) (A B : World) : Prop where
  keep : Keep (fun k => k < A.heap.size ∧ ¬ S k) A B
  grow : ∀ k, S' k → S k ∨ (A.heap.size ≤ k ∧ k < B.heap.size)

/-- THE CONTRACT OF AN ITERATOR: made in w0; it reads the blocks Foot. -/
def IterC {α : Type} (P : Program) (gf : Nat) (lb : Array Value) (encs : α → Array Value) (Foot : Nat → Prop) (xs : List α) (w0 : World) : Prop :=
  ∀ (l n : Nat) (J Jx : Nat → (Nat → Prop) → World → Prop) (S0 : Nat → Prop) (W : World), Keep Foot w0 W → (∀ k, Foot k → k < W.heap.size ∧ ¬ S0 k) → (∀ k, S0 k → k < W.heap.size) →
    (∀ i S A B, J i S A → Keep (fun k => k < W.heap.size ∨ S k) A B → J i S B) →
    (∀ i S A B, Jx i S A → Keep (fun k => k < W.heap.size ∨ S k) A B → Jx i S B) →
    (∀ i x S A, J i S A → xs[i]? = some x → W.heap.size ≤ A.heap.size → (∀ k, S k → k < A.heap.size) → ∀ m, YieldAt Fence.wide m P l (encs x) A fun e B =>
      ∃ S', RoundKeeps S S' A B ∧ ((e = .returned (.bool true) ∧ J (i + 1) S' B) ∨ (e = .returned (.bool false) ∧ Jx (i + 1) S' B))) →
    J 0 S0 W →
    CallsIn Fence.wide n P gf (#[.func (.yield l) #[] #[]] ++ lb) W fun e B => (∃ v, e = .returned v) ∧ ((∃ S, J xs.length S B) ∨ ∃ i S, i < xs.length ∧ Jx (i + 1) S B)

/-- How a round's body may be left. -/
def iterPost (S : Nat → Prop) (I : Nat → (Nat → Prop) → World → Prop) (Ix : Code → Nat → (Nat → Prop) → World → Prop) (i : Nat) (W : World) : Exit → Act → World → Prop
  | .normal, _, W' => ∃ S', RoundKeeps S S' W W' ∧ I i S' W'
  | .ret, _, W' => ∃ S', RoundKeeps S S' W W' ∧ Ix .ret i S' W'
  | .exit id, _, W' => ∃ S', RoundKeeps S S' W W' ∧ Ix (.exit id) i S' W'
  | .goto t, _, W' => ∃ S', RoundKeeps S S' W W' ∧ Ix (.goto t) i S' W'
  | .panic _, _, _ => False
  | .outgrown, _, _ => False

variable {n : Nat} {P : Program}

/-- **A LOOP OVER AN ITERATOR.** S0: the blocks that the body may turn. -/
theorem wpIn_iter {α : Type} {g : Operand} {ps : Array Tmp} {assign body : Code} {Q : Exit → Act → World → Prop} {a : Act} {w w0 : World}
    {gf : Nat} {lb : Array Value} (hg : a.eval g = .func (.func gf) #[] lb) (eg : ∀ args w, (callFunc gf args).run P w = .ok (.enter gf args) w)
    {encs : α → Array Value} {Foot : Nat → Prop} {xs : List α} (hseq : IterC P gf lb encs Foot xs w0) (hF : Keep Foot w0 w) (hps : ∀ x, (encs x).size = ps.size)
    (S0 : Nat → Prop) (hS0 : ∀ k, S0 k → k < w.heap.size ∧ ¬ Foot k) (hFl : ∀ k, Foot k → k < w.heap.size)
    (I : Nat → (Nat → Prop) → World → Prop) (Ix : Code → Nat → (Nat → Prop) → World → Prop)
    (hI : ∀ i S A B, I i S A → Keep (fun k => k < w.heap.size ∨ S k) A B → I i S B) (hIx : ∀ c i S A B, Ix c i S A → Keep (fun k => k < w.heap.size ∨ S k) A B → Ix c i S B)
    (h0 : I 0 S0 w) (a₁ : α → Act)
    (hassign : ∀ (l m : Nat) (x : α) (W : World) (K : Act → World → Prop), K (a₁ x) W →
      assign.wpIn (Fence.wide.inRound l) m P (Exit.then K (fun _ _ _ => False)) { tmps := (ps.zip (encs x)).foldl (fun t (p, v) => t.setIfInBounds p v) a.tmps, defers := [] } W)
    (hbody : ∀ (l m i : Nat) (x : α) (S : Nat → Prop) (W : World), I i S W → xs[i]? = some x → w.heap.size ≤ W.heap.size → (∀ k, S k → k < W.heap.size) → body.wpIn (Fence.wide.inRound l) m P (iterPost S I Ix (i + 1) W) (a₁ x) W)
    (hdone : ∀ (D : Nat) (S : Nat → Prop) (W : World), w.heap.size ≤ D → I xs.length S W → W.heap[D]? = some (.deferred (some [])) → Q .normal { a with defers := { target := .collected D, args := #[] } :: a.defers } W)
    (hstop : ∀ (D i : Nat) (c : Code) (S : Nat → Prop) (W : World), w.heap.size ≤ D → i < xs.length → Ix c (i + 1) S W → W.heap[D]? = some (.deferred (some [])) → c.wpIn Fence.wide n P Q { a with defers := { target := .collected D, args := #[] } :: a.defers } W) :
    (Code.rangeFunc g ps assign body).wpIn Fence.wide n P Q a w := by
  refine wpIn_rangeFunc ?_
  intro fn hfn
  simp only [Fence.wide_round]
  obtain ⟨rec, hrec⟩ : ∃ rec : LoopState → Option Code → Loop, rec = fun st pe => { state := st, pending := pe, fn, tmps := a.tmps, params := ps, assign, body, defers := w.heap.size } := ⟨_, rfl⟩
  obtain ⟨W1, hW1⟩ : ∃ W1, (w.alloc (.deferred (some []))).alloc (.loop (rec .ready none)) = W1 := ⟨_, rfl⟩
  have hL1 : W1.heap[w.heap.size + 1]? = some (.loop (rec .ready none)) := by
    rw [← hW1]; have := World.alloc_heap_new (w.alloc (.deferred (some []))) (.loop (rec .ready none)); rwa [World.size_alloc] at this
  have hK1 : W1.heap[w.heap.size]? = some (.deferred (some [])) := by
    rw [← hW1]; exact (Below.heap_alloc _ _ _ (by simp)).trans (World.alloc_heap_new w _)
  have hs1 : W1.heap.size = w.heap.size + 1 + 1 := by rw [← hW1]; simp
  have hb1 : Below w.heap.size w W1 := by rw [← hW1]; exact ((Below.refl _ w).alloc (Nat.le_refl _) _).alloc (by simp) _
  have hI1 : I 0 S0 W1 := hI _ _ _ _ h0 (Keep.of_below hb1 (fun k hk => hk.elim id (fun h => (hS0 k h).1)))
  refine ⟨w.heap.size + 1, [{ target := .collected w.heap.size, args := #[] }], W1, { target := .fn (.func gf) lb, args := #[.func (.yield (w.heap.size + 1)) #[] #[]] }, W1, gf,
    #[.func (.yield (w.heap.size + 1)) #[] #[]] ++ lb, W1, ?_, ?_, ?_, ?_, (fun h => by simp [Fence.wide] at h), ?_⟩
  · rw [← hW1, hrec]; exact run_enterLoop_outer _ _ _ _ _
  · simp only [resolve, hg]
    simp [go_sem]
  · intro f' _; trivial
  · simp [invoke, go_sem, eg]
  · -- the records: blocks l = size + 1 and D = size
    have nS : ∀ (T : Nat → Prop), (∀ k, T k → k ≠ w.heap.size ∧ k ≠ w.heap.size + 1) → ¬ T (w.heap.size + 1) ∧ ¬ T w.heap.size := fun T h => ⟨fun q => (h _ q).2 rfl, fun q => (h _ q).1 rfl⟩
    refine (hseq (w.heap.size + 1) _
      (fun i S W => ∃ T, (∀ k, S k ↔ T k ∨ k = w.heap.size ∨ k = w.heap.size + 1) ∧ (∀ k, T k → k ≠ w.heap.size ∧ k ≠ w.heap.size + 1) ∧ I i T W ∧ W.heap[w.heap.size + 1]? = some (.loop (rec .ready none)) ∧ W.heap[w.heap.size]? = some (.deferred (some [])))
      (fun i S W => ∃ T c, (∀ k, S k ↔ T k ∨ k = w.heap.size ∨ k = w.heap.size + 1) ∧ (∀ k, T k → k ≠ w.heap.size ∧ k ≠ w.heap.size + 1) ∧ Ix c i T W ∧ W.heap[w.heap.size + 1]? = some (.loop (rec .done (some c))) ∧ W.heap[w.heap.size]? = some (.deferred (some [])))
      (fun k => S0 k ∨ k = w.heap.size ∨ k = w.heap.size + 1) W1
      (hF.trans (Keep.of_below hb1 (fun k hk => hFl k hk)))
      (fun k hk => ⟨by have := hFl k hk; omega, fun h => by
        have := hFl k hk
        rcases h with h | h | h
        · exact (hS0 k h).2 hk
        · omega
        · omega⟩)
      (fun k hk => by
        rcases hk with h | h | h
        · have := (hS0 k h).1; omega
        · omega
        · omega)
      ?_ ?_ ?_ ⟨S0, fun k => Iff.rfl, fun k hk => by have := (hS0 k hk).1; omega, hI1, hL1, hK1⟩).mono ?_
    · rintro i S A B ⟨T, hT, hn, hi, hl, hk⟩ hkp
      have hw : ∀ k, k < w.heap.size ∨ T k → (k < W1.heap.size ∨ S k) := fun k h => h.elim (fun h => .inl (by omega)) (fun h => .inr ((hT k).2 (.inl h)))
      exact ⟨T, hT, hn, hI _ _ _ _ hi (hkp.mono hw), (hkp.block _ (.inl (by omega))).trans hl, (hkp.block _ (.inl (by omega))).trans hk⟩
    · rintro i S A B ⟨T, c, hT, hn, hi, hl, hk⟩ hkp
      have hw : ∀ k, k < w.heap.size ∨ T k → (k < W1.heap.size ∨ S k) := fun k h => h.elim (fun h => .inl (by omega)) (fun h => .inr ((hT k).2 (.inl h)))
      exact ⟨T, c, hT, hn, hIx _ _ _ _ _ hi (hkp.mono hw), (hkp.block _ (.inl (by omega))).trans hl, (hkp.block _ (.inl (by omega))).trans hk⟩
    · -- one round
      rintro i x S W ⟨T, hT, hn, hi, hl, hk⟩ hx hWs hSl m
      have hlt : w.heap.size + 1 < W.heap.size := (Array.getElem?_eq_some_iff.1 hl).1
      have hy := run_yield (P := P) (args := encs x) hl (by rw [hrec]; exact hps x)
      rw [hrec] at hy
      refine ⟨fn, _, assign, body, hy, roundIn_of_wpIn hfn (hassign _ _ x W _ ⟨_, run_beginRound hl (by rw [hrec]), ?_⟩)⟩
      obtain ⟨W2, hW2⟩ : ∃ W2, W.putObj (w.heap.size + 1) (.loop { rec .ready none with state := .busy }) = W2 := ⟨_, rfl⟩
      rw [hrec] at hW2
      have hl2 : W2.heap[w.heap.size + 1]? = some (.loop { rec .ready none with state := .busy }) := by rw [← hW2, hrec]; exact World.putObj_heap_same hlt
      have hk2 : W2.heap[w.heap.size]? = some (.deferred (some [])) := by rw [← hW2]; exact (World.putObj_heap_other (by omega)).trans hk
      have hq2 : Keep (fun k => k ≠ w.heap.size + 1) W W2 := by rw [← hW2]; exact Keep.putObj _ _ _ _ (fun h => h rfl)
      have hs2 : W2.heap.size = W.heap.size := by rw [← hW2]; simp
      rw [hrec]
      simp only [hW2]
      have hi2 : I i T W2 := hI _ _ _ _ hi (hq2.mono (fun k hk => hk.elim (fun h => by omega) (fun h => (hn k h).2)))
      refine wpIn_mono (hbody _ _ i x T W2 hi2 hx (by omega) (fun k hk => by have := hSl k ((hT k).2 (.inl hk)); omega)) ?_
      have fin : ∀ (jump : Option Code) (T' : Nat → Prop) (W3 : World), RoundKeeps T T' W2 W3 →
          ∃ W4, (Instr.endRound (w.heap.size + 1) jump).run P W3 = .ok (.bool jump.isNone) W4 ∧ W4.heap[w.heap.size + 1]? = some (.loop (rec (if jump.isNone then .ready else .done) jump)) ∧
            W4.heap[w.heap.size]? = some (.deferred (some [])) ∧ (∀ k, T' k → k ≠ w.heap.size ∧ k ≠ w.heap.size + 1) ∧ Keep (fun k => k ≠ w.heap.size + 1) W3 W4 ∧
            RoundKeeps S (fun k => T' k ∨ k = w.heap.size ∨ k = w.heap.size + 1) W W4 := fun jump T' W3 hr => by
        obtain ⟨u1, u2⟩ := nS T hn
        have hl3 : W3.heap[w.heap.size + 1]? = some (.loop { rec .ready none with state := .busy }) := (hr.keep.block _ ⟨by omega, u1⟩).trans hl2
        have hk3 : W3.heap[w.heap.size]? = some (.deferred (some [])) := (hr.keep.block _ ⟨by omega, u2⟩).trans hk2
        have he := run_endRound (P := P) jump hl3
        refine ⟨_, he, ?_, ?_, ?_, ?_, ?_⟩
        · rw [hrec]; exact World.putObj_heap_same (Array.getElem?_eq_some_iff.1 hl3).1
        · exact (World.putObj_heap_other (by omega)).trans hk3
        · intro k hk
          rcases hr.grow k hk with h | h
          · exact hn k h
          · omega
        · exact Keep.putObj _ _ _ _ (fun h => h rfl)
        · have hq4 : Keep (fun k => k ≠ w.heap.size + 1) W3 (W3.putObj (w.heap.size + 1) (.loop { { rec .ready none with state := .busy } with state := if jump.isNone then .ready else .done, pending := jump })) := Keep.putObj _ _ _ _ (fun h => h rfl)
          refine ⟨(hq2.mono ?_).trans ((hr.keep.mono ?_).trans (hq4.mono ?_)), ?_⟩
          · rintro k ⟨_, h⟩ e; exact h ((hT k).2 (.inr (.inr e)))
          · rintro k ⟨h1, h⟩; exact ⟨by omega, fun e => h ((hT k).2 (.inl e))⟩
          · rintro k ⟨_, h⟩ e; exact h ((hT k).2 (.inr (.inr e)))
          · intro k hk
            rcases hk with hk | hk | hk
            · rcases hr.grow k hk with h | h
              · exact .inl ((hT k).2 (.inl h))
              · exact .inr ⟨by omega, by simpa using h.2⟩
            · exact .inl ((hT k).2 (.inr (.inl hk)))
            · exact .inl ((hT k).2 (.inr (.inr hk)))
      rintro e a3 W3 hp
      cases e with
      | normal =>
        obtain ⟨T', hr, hi3⟩ := hp
        obtain ⟨W4, he, hl4, hk4, hn4, hq4, hr4⟩ := fin none T' W3 hr
        exact ⟨_, _, he, _, hr4, .inl ⟨rfl, T', fun k => Iff.rfl, hn4, hI _ _ _ _ hi3 (hq4.mono (fun k hk => hk.elim (fun h => by omega) (fun h => (hn4 k h).2))), (by rw [hrec] at hl4; simpa using hl4), hk4⟩⟩
      | ret =>
        obtain ⟨T', hr, hi3⟩ := hp
        obtain ⟨W4, he, hl4, hk4, hn4, hq4, hr4⟩ := fin (some .ret) T' W3 hr
        exact ⟨_, _, he, _, hr4, .inr ⟨rfl, T', .ret, fun k => Iff.rfl, hn4, hIx _ _ _ _ _ hi3 (hq4.mono (fun k hk => hk.elim (fun h => by omega) (fun h => (hn4 k h).2))), (by rw [hrec] at hl4; simpa using hl4), hk4⟩⟩
      | exit id =>
        obtain ⟨T', hr, hi3⟩ := hp
        obtain ⟨W4, he, hl4, hk4, hn4, hq4, hr4⟩ := fin (some (.exit id)) T' W3 hr
        exact ⟨_, _, he, _, hr4, .inr ⟨rfl, T', .exit id, fun k => Iff.rfl, hn4, hIx _ _ _ _ _ hi3 (hq4.mono (fun k hk => hk.elim (fun h => by omega) (fun h => (hn4 k h).2))), (by rw [hrec] at hl4; simpa using hl4), hk4⟩⟩
      | goto t =>
        obtain ⟨T', hr, hi3⟩ := hp
        obtain ⟨W4, he, hl4, hk4, hn4, hq4, hr4⟩ := fin (some (.goto t)) T' W3 hr
        exact ⟨_, _, he, _, hr4, .inr ⟨rfl, T', .goto t, fun k => Iff.rfl, hn4, hIx _ _ _ _ _ hi3 (hq4.mono (fun k hk => hk.elim (fun h => by omega) (fun h => (hn4 k h).2))), (by rw [hrec] at hl4; simpa using hl4), hk4⟩⟩
      | panic ch => exact hp.elim
      | outgrown => exact hp.elim
    · -- behind the iterator
      rintro e W2 ⟨⟨v, rfl⟩, (⟨S, T, hT, hn, hi, hl, hk⟩ | ⟨i, S, hlt, T, c, hT, hn, hi, hl, hk⟩)⟩
      · have he := run_endLoop (P := P) hl (by rw [hrec]; simp)
        refine ⟨none, _, by rw [hrec] at he; exact he, hdone _ T _ (Nat.le_refl _) (hI _ _ _ _ hi ((Keep.putObj (fun k => k ≠ w.heap.size + 1) _ _ _ (fun h => h rfl)).mono (fun k hk => hk.elim (fun h => by omega) (fun h => (hn k h).2)))) ((World.putObj_heap_other (by omega)).trans hk)⟩
      · have he := run_endLoop (P := P) hl (by rw [hrec]; simp)
        refine ⟨some c, _, by rw [hrec] at he; exact he, hstop _ i c T _ (Nat.le_refl _) hlt (hIx _ _ _ _ _ hi ((Keep.putObj (fun k => k ≠ w.heap.size + 1) _ _ _ (fun h => h rfl)).mono (fun k hk => hk.elim (fun h => by omega) (fun h => (hn k h).2)))) ((World.putObj_heap_other (by omega)).trans hk)⟩
end Go.Proofs.Ytcgokimagimamaa
