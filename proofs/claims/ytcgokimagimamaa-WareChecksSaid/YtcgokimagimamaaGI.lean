/- Arguments of any of the print's kinds, opened: whatever reads as data is a value that the print's words read, and it is no larger than the form's reach. -/
import Derived.Test.YtcgokimagimamaaGG
import Derived.Test.YtcgokimagimamaaMRowCh1
namespace Go.Proofs.Ytcgokimagimamaa.F
open Go.RowKit Go.ChangeShapes Go.WideShapes Go.Proofs.YtcgokimagimamaaW.PrintWords
set_option linter.unusedVariables false
set_option linter.unusedSimpArgs false
/-- What is read at type t is a value of the kind d, and meets B. -/
def Opens {α : Type} (P : Program) (t : TypeId) (d : Kd α) (B : α → Prop) : Prop :=
  ∀ {H : Type} {enc : TypeId × Value → H} {w : World} {base : Nat} {spare : Nat → Bool} {held : Bool} {fuel : Nat} {cs : List Value} {x : DataW H × List MemPlace},
    DataW.trod enc P w base spare held fuel t cs = some x → (x.1.weights P t).all (· ≤ reachBytes) = true → ∃ a : α, d.K w a cs ∧ B a
section
variable {P : Program} {t : TypeId}
theorem opens_int (ht : P.underlying t = some (.int .i64)) : Opens P t (Kd.int .i64) (fun n => -9223372036854775808 ≤ n ∧ n ≤ 9223372036854775807) := by
  intro H enc w base spare held fuel cs x h _
  obtain ⟨n, rfl, _, hw⟩ := DataW.trod_int ht h
  refine ⟨n, rfl, ?_⟩
  simp only [Lit.wf, IntKind.min, IntKind.max, IntKind.signed, IntKind.bits, Bool.and_eq_true, decide_eq_true_eq, if_true] at hw
  omega
theorem opens_bool (ht : P.underlying t = some .bool) : Opens P t Kd.bool (fun _ => True) := by
  intro H enc w base spare held fuel cs x h _
  obtain ⟨b, rfl, _⟩ := DataW.trod_bool ht h
  exact ⟨b, rfl, trivial⟩
theorem opens_string (ht : P.underlying t = some .string) : Opens P t Kd.string (fun s => s.size ≤ 140737488351232) := by
  intro H enc w base spare held fuel cs x h hw
  obtain ⟨s, rfl, rfl, _⟩ := DataW.trod_string ht h
  refine ⟨s, rfl, ?_⟩
  simp only [DataW.weights, List.all_cons, List.all_nil, Bool.and_true, reachBytes, Array.length_toList] at hw
  exact of_decide_eq_true hw
theorem weightsAll_all {H : Type} {e : TypeId} : ∀ {l : List (DataW H)}, (DataW.weightsAll P e l).all (· ≤ reachBytes) = true → ∀ d ∈ l, (d.weights P e).all (· ≤ reachBytes) = true
  | [], _, d, hd => by cases hd
  | x :: r, h, d, hd => by
    unfold DataW.weightsAll at h
    rw [List.all_append, Bool.and_eq_true] at h
    rcases List.mem_cons.1 hd with rfl | hd
    · exact h.1
    · exact weightsAll_all h.2 d hd
theorem weightsEach_all {H : Type} : ∀ {ts : List TypeId} {l : List (DataW H)}, (DataW.weightsEach P ts l).all (· ≤ reachBytes) = true → ∀ (i : Nat) (t : TypeId) (d : DataW H), ts[i]? = some t → l[i]? = some d → (d.weights P t).all (· ≤ reachBytes) = true
  | [], _, _, i, _, _, ht, _ => by simp at ht
  | _ :: _, [], _, i, _, _, _, hd => by simp at hd
  | u :: ts, x :: r, h, i, t, d, ht, hd => by
    unfold DataW.weightsEach at h
    rw [List.all_append, Bool.and_eq_true] at h
    cases i with
    | zero => simp at ht hd; subst ht; subst hd; exact h.1
    | succ i => exact weightsEach_all h.2 i t d (by simpa using ht) (by simpa using hd)
theorem opens_slice {α : Type} [Inhabited α] {e : TypeId} {d : Kd α} {B : α → Prop} (n : Nat) (ht : P.underlying t = some (.slice e)) (hsz : P.cellsOf e = d.sz) (hb : P.bytesOf e = n) (he : Opens P e d B) :
    Opens P t (Kd.slice e d) (fun l => l.length * n ≤ 140737488351232 ∧ l.length ≤ 9223372036854775807 ∧ ∀ x ∈ l, B x) := by
  subst hb
  intro H enc w base spare held fuel cs x h hw
  rcases Go.Deep.open_slice ht h with ⟨rfl, rfl⟩ | ⟨a, len, cap, m, k, D, Pl, rfl, hbs, hl, hm, hmm, rfl, hx⟩
  · exact ⟨[], ⟨none, 0, rfl, Nat.le_refl _, rfl, Nat.zero_le _, fun h => absurd h (by simp)⟩, by simp, by simp, fun x hx => by cases hx⟩
  · have hlm : len ≤ m := by rw [hmm]; split <;> omega
    simp only [DataW.weights, ht, List.all_cons, List.all_append, Bool.and_eq_true, decide_eq_true_eq] at hw
    obtain ⟨hw0, hw1, _⟩ := hw
    obtain ⟨V, hV⟩ := Go.Deep.choose_lt (α := α) (n := len) (p := fun i v => ∃ c, w.cells? base (a.add (i * P.cellsOf e)) (P.cellsOf e) = some c ∧ d.K w v c ∧ B v) (fun i hi => by
      obtain ⟨c, h1, h2⟩ := hx i (by omega)
      obtain ⟨v, h3, h4⟩ := he h2 (weightsAll_all hw1 (D i) (List.mem_map.2 ⟨i, List.mem_range.2 hi, rfl⟩))
      exact ⟨v, c, h1, h3, h4⟩)
    have hmax : maxLen = 9223372036854775807 := rfl
    have hlen : ((List.range len).map V).length = len := by simp
    refine ⟨(List.range len).map V, ⟨some a, cap, by rw [hlen], by rw [hlen]; exact hl, by simp, by rw [hlen]; omega, fun _ => ⟨a, rfl, fun j p hj => ?_⟩⟩, ?_, by rw [hlen]; omega, fun y hy => ?_⟩
    · rw [List.getElem?_map] at hj
      cases hr : (List.range len)[j]? with
      | none => rw [hr] at hj; cases hj
      | some q =>
        rw [hr] at hj
        have hjl : j < len := by have := (List.getElem?_eq_some_iff.1 hr).1; simpa using this
        have hq : q = j := by have := List.getElem?_range hjl; rw [this] at hr; injection hr with hr; exact hr.symm
        subst hq
        obtain rfl : V q = p := by simpa using hj
        obtain ⟨c, h1, h2, _⟩ := hV q hjl
        obtain ⟨_, g1, g2⟩ := World.cells?_some h1
        refine ⟨c, by rw [g1, hsz], h2, fun i u hu => ?_⟩
        have hi : i < c.length := (List.getElem?_eq_some_iff.1 hu).1
        rw [← hsz, ← Go.Deep.add_add, g2 i (by omega), hu]
    · rw [hlen]
      have : len * P.bytesOf e ≤ (((List.range len).map D).length + ((List.range (m - len)).map fun j => D (len + j)).length) * P.bytesOf e := Nat.mul_le_mul (by simp) (Nat.le_refl _)
      simp only [reachBytes] at hw0
      omega
    · obtain ⟨j, hj, rfl⟩ := List.mem_map.1 hy
      obtain ⟨_, _, _, h3⟩ := hV j (List.mem_range.1 hj)
      exact h3
/-- Fields in a row, from offset o on. -/
def OpensFs {α : Type} (P : Program) (fs : List (TypeId × Nat)) (o : Nat) (d : Kd α) (B : α → Prop) : Prop :=
  ∀ {H : Type} {enc : TypeId × Value → H} {w : World} {base : Nat} {spare : Nat → Bool} {held : Bool} {n : Nat} {cs : List Value} {xs : List (DataW H × List MemPlace)},
    cs.length = o + d.sz → xs.length = fs.length → (∀ (i : Nat) (t : TypeId) (f : Nat), fs[i]? = some (t, f) → DataW.trod enc P w base spare held n t ((cs.drop f).take (P.cellsOf t)) = xs[i]?) →
    (∀ (i : Nat) (t : TypeId) (f : Nat) (x : DataW H × List MemPlace), fs[i]? = some (t, f) → xs[i]? = some x → (x.1.weights P t).all (· ≤ reachBytes) = true) → ∃ a : α, d.K w a (cs.drop o) ∧ B a
theorem opensFs_one {α : Type} {d : Kd α} {B : α → Prop} {o : Nat} (hsz : P.cellsOf t = d.sz) (h : Opens P t d B) : OpensFs P [(t, o)] o d B := by
  intro H enc w base spare held n cs xs hl hx ht hw
  have h0 := ht 0 t o rfl
  obtain ⟨x, hx0⟩ : ∃ x, xs[0]? = some x := ⟨_, List.getElem?_eq_getElem (by rw [hx]; simp)⟩
  rw [hx0] at h0
  obtain ⟨a, h1, h2⟩ := h h0 (hw 0 t o x rfl hx0)
  refine ⟨a, ?_, h2⟩
  rw [List.take_of_length_le (by rw [List.length_drop]; omega)] at h1
  exact h1
theorem opensFs_cons {α β : Type} {d : Kd α} {d2 : Kd β} {B : α → Prop} {B2 : β → Prop} {o : Nat} {r : List (TypeId × Nat)} (hsz : P.cellsOf t = d.sz) (h : Opens P t d B) (h2 : OpensFs P r (o + d.sz) d2 B2) :
    OpensFs P ((t, o) :: r) o (Kd.pair d d2) (fun x => B x.1 ∧ B2 x.2) := by
  intro H enc w base spare held n cs xs hl hx ht hw
  have hl' : cs.length = o + (d.sz + d2.sz) := hl
  cases xs with
  | nil => simp at hx
  | cons x xs =>
    have h0 := ht 0 t o rfl
    obtain ⟨a, k1, k2⟩ := h h0 (hw 0 t o x rfl rfl)
    obtain ⟨b, m1, m2⟩ := h2 (by omega) (by simpa using hx) (fun i t' f hi => ht (i + 1) t' f (by simpa using hi)) (fun i t' f y hi hy => hw (i + 1) t' f y (by simpa using hi) (by simpa using hy))
    refine ⟨(a, b), ⟨_, _, ?_, k1, m1⟩, k2, m2⟩
    rw [hsz, show cs.drop (o + d.sz) = (cs.drop o).drop d.sz by rw [List.drop_drop], List.take_append_drop]
theorem opens_struct {α β : Type} {fs : Array Field} {d : Kd α} {B : α → Prop} (f : β → α) (g : α → β) (fs' : List (TypeId × Nat)) (ht : P.underlying t = some (.struct fs)) (hc : P.cellsOf t = d.sz) (hf : fs.toList.map (fun q => (q.type, q.offset)) = fs')
    (h : OpensFs P fs' 0 d B) (hg : ∀ a, f (g a) = a) : Opens P t (Kd.iso d f) (fun x => B (f x)) := by
  subst hf
  intro H enc w base spare held fuel cs x hx hw
  obtain ⟨xs, n, rfl, rfl, hl, hxl, hi⟩ := DataW.trod_struct ht hx
  simp only [DataW.weights, ht] at hw
  have hwe := weightsEach_all hw
  obtain ⟨a, h1, h2⟩ := h (xs := xs) (cs := cs) (n := n) (by rw [hl, hc]; omega) (by simp [hxl])
    (fun i t' o hi' => by
      rw [List.getElem?_map] at hi'
      cases hq : fs.toList[i]? with
      | none => rw [hq] at hi'; cases hi'
      | some q =>
        rw [hq] at hi'
        simp only [Option.map_some, Option.some.injEq, Prod.mk.injEq] at hi'
        obtain ⟨rfl, rfl⟩ := hi'
        exact hi i q (by simpa using hq))
    (fun i t' o y hi' hy => by
      rw [List.getElem?_map] at hi'
      cases hq : fs.toList[i]? with
      | none => rw [hq] at hi'; cases hi'
      | some q =>
        rw [hq] at hi'
        simp only [Option.map_some, Option.some.injEq, Prod.mk.injEq] at hi'
        obtain ⟨rfl, rfl⟩ := hi'
        exact hwe i q.type y.1 (by rw [List.getElem?_map, hq]; rfl) (by rw [List.getElem?_map, hy]; rfl))
  refine ⟨g a, ?_, by show B (f (g a)); rw [hg]; exact h2⟩
  show d.K w (f (g a)) cs
  rw [hg]; exact h1
theorem opens_array {α β : Type} {m sz : Nat} {e : TypeId} {d : Kd α} {B : α → Prop} (f : β → α) (g : α → β) (fs' : List (TypeId × Nat)) (ht : P.underlying t = some (.array m e)) (hc : P.cellsOf t = d.sz) (hz : P.cellsOf e = sz) (hf : ((List.range m).map fun i => (e, i * sz)) = fs')
    (h : OpensFs P fs' 0 d B) (hg : ∀ a, f (g a) = a) : Opens P t (Kd.iso d f) (fun x => B (f x)) := by
  subst hf hz
  intro H enc w base spare held fuel cs x hx hw
  obtain ⟨xs, n, rfl, rfl, hl, hxl, hi⟩ := DataW.trod_array ht hx
  simp only [DataW.weights, ht] at hw
  have hwe := weightsAll_all hw
  obtain ⟨a, h1, h2⟩ := h (xs := xs) (cs := cs) (n := n) (by rw [hl, hc]; omega) (by simp [hxl])
    (fun i t' o hi' => by
      rw [List.getElem?_map] at hi'
      cases hq : (List.range m)[i]? with
      | none => rw [hq] at hi'; cases hi'
      | some q =>
        rw [hq] at hi'
        simp only [Option.map_some, Option.some.injEq, Prod.mk.injEq] at hi'
        obtain ⟨rfl, rfl⟩ := hi'
        have him : i < m := by have := (List.getElem?_eq_some_iff.1 hq).1; simpa using this
        have hqi : q = i := by have := List.getElem?_range him; rw [this] at hq; injection hq with hq; exact hq.symm
        subst hqi
        exact hi q him)
    (fun i t' o y hi' hy => by
      rw [List.getElem?_map] at hi'
      cases hq : (List.range m)[i]? with
      | none => rw [hq] at hi'; cases hi'
      | some q =>
        rw [hq] at hi'
        simp only [Option.map_some, Option.some.injEq, Prod.mk.injEq] at hi'
        obtain ⟨rfl, rfl⟩ := hi'
        exact hwe y.1 (List.mem_map.2 ⟨y, List.mem_of_getElem? hy, rfl⟩))
  refine ⟨g a, ?_, by show B (f (g a)); rw [hg]; exact h2⟩
  show d.K w (f (g a)) cs
  rw [hg]; exact h1
/-- An argument. -/
theorem open_arg {α : Type} {d : Kd α} {B : α → Prop} {H : Type} {enc : TypeId × Value → H} {w : World} {v : Value} {x : DataW H} {p : List MemPlace} {ts : List TypeId} {ds : List (DataW H)} (h : Opens P t d B) (j : Nat)
    (hT : DataW.Trod enc P w 0 (fun _ => true) true t v x p) (hw : (DataW.weightsEach P ts ds).all (· ≤ reachBytes) = true) (ht : ts[j]? = some t) (hd : ds[j]? = some x) : ∃ a : α, d.K w a v.cells.toList ∧ B a := by
  obtain ⟨fuel, hf⟩ := hT
  exact h hf (weightsEach_all hw j t x ht hd)
theorem agg_of {w : World} {r : Reach} {base : Nat} {v : Value} (ht : (∃ fs, P.underlying t = some (.struct fs)) ∨ ∃ n e, P.underlying t = some (.array n e)) (h : Value.okWide P w r base t v) : ∃ cs, v = .agg cs := by
  unfold Value.okWide at h
  rcases ht with ⟨fs, e⟩ | ⟨n, e, e'⟩
  · rw [e] at h; obtain ⟨cs, h, _⟩ := h; exact ⟨cs, h⟩
  · rw [e'] at h; obtain ⟨cs, h, _⟩ := h; exact ⟨cs, h⟩
theorem arg_agg {cs : Array Value} {l : List Value} (h : (Value.agg cs).cells.toList = l) : Value.agg cs = .agg l.toArray := by
  subst h; simp [Value.cells]
theorem arg_slice {w : World} {α : Type} {e : TypeId} {d : Kd α} {l : List α} {A : Option Addr} {n c : Nat} (h : (Kd.slice e d).K w l (Value.slice A n c).cells.toList) : n = l.length ∧ l.length ≤ c ∧ d.C w A l.length l := by
  obtain ⟨A', c', h1, h2, h3⟩ := h
  have e1 : (Value.slice A n c).cells.toList = [.slice A n c] := rfl
  rw [e1] at h1
  injection h1 with h1 _
  injection h1 with h1 h4 h5
  subst h1; subst h5
  exact ⟨h4, h2, h3⟩
end
end Go.Proofs.Ytcgokimagimamaa.F
