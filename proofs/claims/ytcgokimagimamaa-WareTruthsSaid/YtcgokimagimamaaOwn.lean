/- Rows of the call's own that grow by append: where the new row lies; a row as a list that is read. -/
import Derived.OwnWalkIn
import Derived.Maps.AppendAt
import Derived.RangeFuncBox
import Derived.Test.YtcgokimagimamaaRange
namespace Go.Proofs.Ytcgokimagimamaa
open Go.RowKit
set_option linter.unusedVariables false
theorem wpListIn_append_at {F : Fence} {n : Nat} {P : Program} (w : World) {ops : Array Oper} {rest : List Oper} {o : Oper} {a : Act} {Q : Exit → Act → World → Prop}
    (hg : o.guard = none) (s x : Operand) (t : TypeId) (hop : o.op = Op.call { callee := Callee.builtin Builtin.append, args := #[s, x], argTypes := #[t, t] })
    (base : Nat) (e : TypeId) (i : TypeInfo) (z : Value) (size bytes : Nat) (h1 : P.underlying t = some (.slice e)) (h2 : P.info? e = some i) (h3 : i.zero = some z) (h4 : i.size = size) (h5 : i.bytes = bytes) (h6 : z.cells.size = size) (h7 : 0 < size)
    (v : Value) (k : Nat) (xs : List Value) (hs : a.eval s = v) (hown : w.ownsRow base e size v k xs) (ad : Addr) (m c : Nat) (news : List Value) (hx : a.eval x = .slice (some ad) m c) (hn : news.length = m * size)
    (hc : ∀ j u, news[j]? = some u → w.cell? (ad.add j) = some u) (h1c : ∀ u ∈ news, u.oneCell' = true) (b1 : k + m ≤ maxLen) (b2 : (k + m) * bytes ≤ 140737488355328) (b3 : base ≤ w.heap.size)
    (hK : ∀ v' w', w'.ownsRow base e size v' (k + m) (xs ++ news) → w.grownBy w' v.ownBlock → (v'.ownBlock = v.ownBlock ∨ v'.ownBlock = some w.heap.size) → wpListIn F n P ops Q rest (a.put o.dst v') w') :
    wpListIn F n P ops Q (o :: rest) a w := by
  refine wpListIn_plain hg fun K hK' => ?_
  obtain ⟨v', w', hrun, r1, r2, _, r3⟩ := run_append_own_at (P := P) (w := w) base t o.type e i z size bytes h1 h2 h3 h4 h5 h6 h7 v k xs hown ad m c news hn hc h1c b1 b2 b3
  unfold Oper.wpIn
  refine ⟨?_, ?_⟩
  · simp [Oper.about, hop, resolve, Target.leads, Sem.run_pure]
  · rw [Oper.semAt_plain F _ _ (by rw [hop]; intro c hc'; cases hc')]
    simp [execOp, hop, resolve, invoke, builtin, hs, hx, hrun, Result.andThen]
    exact hK' _ _ (hK v' w' r1 r2 r3)

theorem ownsRow_same {w w' : World} {base : Nat} {e : TypeId} {size : Nat} {v : Value} {n : Nat} {xs : List Value} (h : w.ownsRow base e size v n xs) (hk : ∀ g, v.ownBlock = some g → w'.heap[g]? = w.heap[g]?) : w'.ownsRow base e size v n xs := by
  obtain ⟨h1, h2⟩ := h
  refine ⟨h1, ?_⟩
  rcases h2 with h2 | ⟨g, cap, cur, rfl, hg, hh, r⟩
  · exact .inl h2
  · exact .inr ⟨g, cap, cur, rfl, hg, by rw [hk g (by simp [Value.ownBlock])]; exact hh, r⟩
theorem ownsRow_lt {w : World} {base : Nat} {e : TypeId} {size : Nat} {v : Value} {n : Nat} {xs : List Value} (h : w.ownsRow base e size v n xs) {g : Nat} (hg : v.ownBlock = some g) : g < w.heap.size ∧ base ≤ g := by
  rcases h.2 with ⟨rfl, _⟩ | ⟨g', cap, cur, rfl, hb, hh, _⟩
  · simp [Value.ownBlock] at hg
  · obtain rfl : g' = g := by simpa [Value.ownBlock] using hg
    exact ⟨(Array.getElem?_eq_some_iff.1 hh).1, hb⟩
theorem flatMap_get {α : Type} {enc : α → List Value} {sz : Nat} (hsz : ∀ x, (enc x).length = sz) : ∀ (xs : List α) (i : Nat) (x : α), xs[i]? = some x → ∀ j u, (enc x)[j]? = some u → (xs.flatMap enc)[i * sz + j]? = some u
  | [], i, x, h, _, _, _ => by simp at h
  | y :: t, 0, x, h, j, u, hu => by
    simp at h; subst h
    have hj : j < (enc y).length := (List.getElem?_eq_some_iff.1 hu).1
    rw [List.flatMap_cons, Nat.zero_mul, Nat.zero_add, List.getElem?_append_left hj]; exact hu
  | y :: t, i + 1, x, h, j, u, hu => by
    have ih := flatMap_get hsz t i x (by simpa using h) j u hu
    have hl := hsz y
    rw [List.flatMap_cons, List.getElem?_append_right (by rw [hl, Nat.add_mul]; omega)]
    rw [hl, show (i + 1) * sz + j - sz = i * sz + j by rw [Nat.add_mul]; omega]
    exact ih
theorem flatMap_len {α : Type} {enc : α → List Value} {sz : Nat} (hsz : ∀ x, (enc x).length = sz) : ∀ (xs : List α), (xs.flatMap enc).length = xs.length * sz
  | [] => by simp
  | y :: t => by rw [List.flatMap_cons, List.length_append, flatMap_len hsz t, hsz, List.length_cons, Nat.add_mul]; omega
/-- A row of the call's own that holds a list's elements. -/
def OwnL {α : Type} (sz : Nat) (enc : α → List Value) (w : World) (base : Nat) (e : TypeId) (v : Value) (xs : List α) : Prop := w.ownsRow base e sz v xs.length (xs.flatMap enc)
theorem OwnL.rd {α : Type} {sz : Nat} {enc : α → List Value} {w : World} {base : Nat} {e : TypeId} {v : Value} {xs : List α} (h : OwnL sz enc w base e v xs) (hsz : ∀ x, (enc x).length = sz) : Rd sz enc w v xs := by
  obtain ⟨h1, h2⟩ := h
  rcases h2 with ⟨rfl, h0⟩ | ⟨g, cap, cur, rfl, hg, hh, hc, hm, hcs, ht⟩
  · obtain rfl : xs = [] := List.eq_nil_of_length_eq_zero h0
    exact Rd.nil _ _ _
  · refine ⟨_, cap, rfl, hc, fun hne => ⟨g, 0, rfl, (Array.getElem?_eq_some_iff.1 hh).1, fun i x hi j u hu => ?_⟩⟩
    have hin := flatMap_get hsz xs i x hi j u hu
    rw [← ht] at hin
    have hlt := (List.getElem?_eq_some_iff.1 hin).1
    rw [List.getElem?_take_of_lt (by simp at hlt; omega)] at hin
    simp only [World.cell?, hh]
    simpa [Nat.zero_add] using hin
theorem OwnL.nil {α : Type} (sz : Nat) (enc : α → List Value) (w : World) (base : Nat) (e : TypeId) : OwnL sz enc w base e (.slice none 0 0) ([] : List α) := ⟨by simp, .inl ⟨rfl, rfl⟩⟩
theorem OwnL.same {α : Type} {sz : Nat} {enc : α → List Value} {w w' : World} {base : Nat} {e : TypeId} {v : Value} {xs : List α} (h : OwnL sz enc w base e v xs) (hk : ∀ g, v.ownBlock = some g → w'.heap[g]? = w.heap[g]?) : OwnL sz enc w' base e v xs := ownsRow_same h hk
theorem OwnL.below {α : Type} {sz : Nat} {enc : α → List Value} {w w' : World} {base : Nat} {e : TypeId} {v : Value} {xs : List α} (h : OwnL sz enc w base e v xs) (hb : Below w.heap.size w w') : OwnL sz enc w' base e v xs :=
  h.same (fun g hg => hb.block g (ownsRow_lt h hg).1)
theorem OwnL.form {α : Type} {sz : Nat} {enc : α → List Value} {w : World} {base : Nat} {e : TypeId} {v : Value} {xs : List α} (h : OwnL sz enc w base e v xs) : ∃ A c, v = .slice A xs.length c ∧ xs.length ≤ c := by
  rcases h.2 with ⟨rfl, h0⟩ | ⟨g, cap, cur, rfl, _, _, hc, _⟩
  · exact ⟨none, 0, by rw [h0], by omega⟩
  · exact ⟨_, cap, rfl, hc⟩
theorem OwnL.snoc {α : Type} {sz : Nat} {enc : α → List Value} {w : World} {base : Nat} {e : TypeId} {v : Value} {xs : List α} {x : α} (h : w.ownsRow base e sz v (xs.length + 1) (xs.flatMap enc ++ enc x)) : OwnL sz enc w base e v (xs ++ [x]) := by
  unfold OwnL; rw [List.flatMap_append]; simpa using h
def encI (x : Int) : List Value := [.int .i64 x]
theorem Keep.grown {T : Nat → Prop} {A B : World} {row : Option Nat} (hg : A.grownBy B row) (hT : ∀ k, T k → k < A.heap.size ∧ some k ≠ row) : Keep T A B :=
  ⟨hg.os, hg.tape, hg.output, hg.size, fun k hk => hg.block k (hT k hk).1 (hT k hk).2⟩
theorem ownsRow_other {w : World} {base : Nat} {e : TypeId} {size : Nat} {v : Value} {n : Nat} {xs : List Value} (h : w.ownsRow base e size v n xs) {b : Nat} {cs : Array Value} {t : TypeId} {fr : Nat × Nat} (hb : w.heap[b]? = some (.cells cs t fr)) (ht : t ≠ e) : v.ownBlock ≠ some b := by
  intro he
  rcases h.2 with ⟨rfl, _⟩ | ⟨g, cap, cur, rfl, _, hh, _⟩
  · simp [Value.ownBlock] at he
  · obtain rfl : g = b := by simpa [Value.ownBlock] using he
    rw [hb] at hh; injection hh with hh; injection hh with _ hh; exact ht hh
end Go.Proofs.Ytcgokimagimamaa
