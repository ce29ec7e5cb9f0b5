/- Words for memory: what a call that makes only new blocks leaves; lists that are read. -/
import Derived.Test.YtcgokimagimamaaLin
import Derived.WalkKit
import Derived.WalkSpells
import Derived.Deep.Draws
import Derived.LoopN
namespace Go.Proofs.Ytcgokimagimamaa
open Go.RowKit
set_option linter.unusedVariables false
set_option linter.unusedSimpArgs false
theorem Below.next {w W w' : World} (h : Below w.heap.size w W) (hb : Below W.heap.size W w') : Below w.heap.size w w' := h.trans (hb.mono h.size)
theorem Below.nalloc {w W : World} (h : Below w.heap.size w W) (o : Obj) : Below w.heap.size w (W.alloc o) := h.alloc h.size o
theorem Below.ndrew {w W : World} (h : Below w.heap.size w W) : Below w.heap.size w W.drew := h.drew
theorem Below.ndrewN {w W : World} (h : Below w.heap.size w W) (n : Nat) : Below w.heap.size w (W.drewN n) := h.trans ⟨rfl, rfl, rfl, Nat.le_refl _, fun _ _ => rfl⟩
theorem Below.nset {w W : World} (h : Below w.heap.size w W) {p : Addr} (hp : w.heap.size ≤ p.block) (u : Value) : Below w.heap.size w (W.setCell p u) := h.setCell hp u
theorem bcell {W w1 : World} (hb : Below W.heap.size W w1) : (∀ p : Addr, p.block < W.heap.size → w1.cell? p = W.cell? p) ∧ (∀ p : Addr, p.block < W.heap.size → w1.frozen? p = W.frozen? p) :=
  ⟨fun _ h => hb.cell h, fun _ h => hb.frozen h⟩
theorem bcell3 {W w1 : World} (hb : Below W.heap.size W w1) : (∀ p : Addr, p.block < W.heap.size → w1.cell? p = W.cell? p) ∧ (∀ p : Addr, p.block < W.heap.size → w1.frozen? p = W.frozen? p) ∧ (∀ b, b < W.heap.size → b < w1.heap.size) ∧
    (∀ b, b < W.heap.size → b < w1.heap.size + 1) ∧ (∀ b, b < W.heap.size → b < w1.heap.size + 1 + 1) ∧ (∀ b, b < W.heap.size → (b = w1.heap.size) = False) ∧ (∀ b, b < W.heap.size → (w1.heap.size = b) = False) :=
  ⟨fun _ h => hb.cell h, fun _ h => hb.frozen h, fun _ h => (by have := hb.size; omega), fun _ h => (by have := hb.size; omega), fun _ h => (by have := hb.size; omega), fun _ h => (by have := hb.size; simp; omega), fun _ h => (by have := hb.size; simp; omega)⟩
theorem calls_eq {P : Program} {f : FuncId} {args : Array Value} {w : World} {v : Value} (h : Calls P f args w fun e w' => e = .returned v ∧ w = w') :
    Calls P f args w fun e w' => e = .returned v ∧ Below w.heap.size w w' := h.mono fun _ _ ⟨h1, h2⟩ => ⟨h1, h2 ▸ Below.refl _ _⟩
theorem ent {P : Program} (k : Nat) {fn : Func} {c : Code} (hf : P.funcs[k]? = some fn) (hname : (fn.name == "runtime.NumGoroutine") = false) (hb : fn.body = some c) :
    ∀ (a : Array Value) w, (callFunc k a).run P w = .ok (.enter k a) w := by
  intro a w
  have h1 : fn.name ≠ "runtime.NumGoroutine" := by simpa using hname
  simp [callFunc, hf, h1, hb, mark]

/-! ### a slice that reads as a list -/
theorem add_none (b o k : Nat) : (⟨b, o, none⟩ : Addr).add k = ⟨b, o + k, none⟩ := by unfold Addr.add; split <;> simp_all
/-- The slice value v holds the elements xs, of sz cells each. -/
def Rd {α : Type} (sz : Nat) (enc : α → List Value) (w : World) (v : Value) (xs : List α) : Prop :=
  ∃ A c, v = .slice A xs.length c ∧ xs.length ≤ c ∧ (xs ≠ [] → ∃ b o, A = some ⟨b, o, none⟩ ∧ b < w.heap.size ∧ ∀ i x, xs[i]? = some x → ∀ j u, (enc x)[j]? = some u → w.cell? ⟨b, o + i * sz + j, none⟩ = some u)
section
variable {α : Type} {sz : Nat} {enc : α → List Value} {w w' : World} {v : Value} {xs : List α}
theorem Rd.keepN (h : Rd sz enc w v xs) (hn : ∀ b, b < w.heap.size → (∃ A c o, v = .slice A c o ∧ ∃ p, A = some p ∧ p.block = b) → w'.heap[b]? = w.heap[b]?) (hs : w.heap.size ≤ w'.heap.size) : Rd sz enc w' v xs := by
  obtain ⟨A, c, rfl, hc, h⟩ := h
  refine ⟨A, c, rfl, hc, fun hne => ?_⟩
  obtain ⟨b, o, rfl, hb, hx⟩ := h hne
  refine ⟨b, o, rfl, Nat.lt_of_lt_of_le hb hs, fun i x hi j u hu => ?_⟩
  rw [World.cell?_of_block (w := w) (hn b hb ⟨_, _, _, rfl, _, rfl, rfl⟩)]
  exact hx i x hi j u hu
theorem Rd.below (h : Rd sz enc w v xs) (hb : Below w.heap.size w w') : Rd sz enc w' v xs := h.keepN (fun b hlt _ => hb.block b hlt) hb.size
theorem Rd.alloc (h : Rd sz enc w v xs) (o : Obj) : Rd sz enc (w.alloc o) v xs := h.below ((Below.refl _ _).alloc (Nat.le_refl _) _)
theorem Rd.drew (h : Rd sz enc w v xs) : Rd sz enc w.drew v xs := h
theorem Rd.at_ (h : Rd sz enc w v xs) {k : Nat} (hk : k < xs.length) : ∃ b o c, v = .slice (some ⟨b, o, none⟩) xs.length c ∧ xs.length ≤ c ∧ b < w.heap.size ∧ ∀ j u, (enc xs[k])[j]? = some u → w.cell? ⟨b, o + k * sz + j, none⟩ = some u := by
  obtain ⟨A, c, rfl, hc, h⟩ := h
  obtain ⟨b, o, rfl, hb, hx⟩ := h (by intro e; rw [e] at hk; simp at hk)
  exact ⟨b, o, c, rfl, hc, hb, fun j u hu => hx k _ (List.getElem?_eq_getElem hk) j u hu⟩
theorem Rd.form (h : Rd sz enc w v xs) : ∃ A c, v = .slice A xs.length c ∧ xs.length ≤ c := by
  obtain ⟨A, c, rfl, hc, _⟩ := h
  exact ⟨A, c, rfl, hc⟩
theorem Rd.nil (sz : Nat) (enc : α → List Value) (w : World) : Rd sz enc w (.slice none 0 0) ([] : List α) := ⟨none, 0, rfl, Nat.le_refl _, fun h => absurd rfl h⟩
end
/-! ### the first index -/
def firstI {α : Type} (p : α → Bool) : List α → Int
  | [] => -1
  | x :: t => if p x then 0 else if firstI p t < 0 then -1 else firstI p t + 1
theorem firstI_found {α : Type} {p : α → Bool} : ∀ {xs : List α} {k : Nat}, (∀ j x, j < k → xs[j]? = some x → p x = false) → ∀ {y : α}, xs[k]? = some y → p y = true → firstI p xs = k
  | [], k, _, y, hy, _ => by simp at hy
  | x :: t, 0, _, y, hy, hp => by simp at hy; subst hy; simp [firstI, hp]
  | x :: t, k + 1, h, y, hy, hp => by
    have h0 := h 0 x (by omega) (by simp)
    have ih := firstI_found (xs := t) (k := k) (fun j z hj hz => h (j + 1) z (by omega) (by simpa using hz)) (y := y) (by simpa using hy) hp
    rw [firstI, h0, ih]
    simp; try omega
theorem firstI_none {α : Type} {p : α → Bool} : ∀ {xs : List α}, (∀ x ∈ xs, p x = false) → firstI p xs = -1
  | [], _ => rfl
  | x :: t, h => by rw [firstI, h x (by simp), firstI_none (fun y hy => h y (by simp [hy]))]; simp
theorem firstI_any {α : Type} {p : α → Bool} : ∀ {xs : List α}, decide (0 ≤ firstI p xs) = xs.any p
  | [] => by simp [firstI]
  | x :: t => by
    have ih := firstI_any (p := p) (xs := t)
    rw [firstI, List.any_cons, ← ih]
    cases p x
    · by_cases h : firstI p t < 0
      · simp [h]
      · simp [h]; try omega
    · simp
theorem firstI_bound {α : Type} {p : α → Bool} : ∀ {xs : List α}, -1 ≤ firstI p xs ∧ firstI p xs < xs.length
  | [] => by simp [firstI]
  | x :: t => by
    have ih := firstI_bound (p := p) (xs := t)
    rw [firstI]
    split
    · simp <;> omega
    · split <;> simp <;> omega
end Go.Proofs.Ytcgokimagimamaa
