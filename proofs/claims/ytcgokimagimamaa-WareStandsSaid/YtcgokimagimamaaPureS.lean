
/- Layer 1, the law of piles that stand, in plain Lean. -/
import Derived.Test.YtcgokimagimamaaPureA
import Derived.Test.YtcgokimagimamaaF4
namespace Go.Proofs.Ytcgokimagimamaa.F
open Go.RowKit Go.Proofs.YtcgokimagimamaaW.PrintWords
set_option linter.unusedVariables false
set_option linter.unusedSimpArgs false
set_option maxRecDepth 100000
theorem pile_ok {s : Shape} {n : Int} (so : ShapeOk s) (h1 : 1 ≤ n) (h2 : n ≤ 40) : pileErr s n = 0 := by
  unfold pileErr; rw [if_pos (okShape_iff.2 so), if_pos (inB_iff.2 ⟨h1, h2⟩)]
theorem loadS_ok {s : Shape} {n i : Int} (so : ShapeOk s) (h1 : 1 ≤ n) (h2 : n ≤ 40) (h3 : 0 ≤ i) (h4 : i ≤ n - 1) : loadS s n i = (⟨(n - 1 - i) * s.weight.lo, (n - 1 - i) * s.weight.hi⟩, 0) := by
  unfold loadS; rw [if_pos (pile_ok so h1 h2), if_pos (inB_iff.2 ⟨h3, h4⟩)]
theorem standsS_ok {s : Shape} {n : Int} (so : ShapeOk s) (h1 : 1 ≤ n) (h2 : n ≤ 40) : standsS s n = (decide ((n - 1) * s.weight.hi ≤ s.bears), 0) := by
  unfold standsS; rw [if_pos (pile_ok so h1 h2)]; rfl
theorem heightS_ok {s : Shape} {n : Int} (so : ShapeOk s) (h1 : 1 ≤ n) (h2 : n ≤ 40) : heightS s n = (⟨pileHigh s.high.lo s.nest n, pileHigh s.high.hi s.nest n⟩, 0) := by
  unfold heightS; rw [if_pos (pile_ok so h1 h2)]
theorem mostFrom_spec (p : Int → Bool) : ∀ n : Nat, (mostFrom p n = 0 → ∀ k : Int, 1 ≤ k → k ≤ n → p k = false) ∧ (mostFrom p n ≠ 0 → 1 ≤ mostFrom p n ∧ mostFrom p n ≤ n ∧ p (mostFrom p n) = true ∧ ∀ k : Int, mostFrom p n < k → k ≤ n → p k = false)
  | 0 => ⟨fun _ k h1 h2 => by omega, fun h => absurd rfl h⟩
  | n + 1 => by
    obtain ⟨i1, i2⟩ := mostFrom_spec p n
    unfold mostFrom
    by_cases hp : p ((n + 1 : Nat) : Int) = true
    · rw [if_pos hp]
      exact ⟨fun h => by omega, fun _ => ⟨by omega, Int.le_refl _, hp, fun k h1 h2 => by omega⟩⟩
    · rw [if_neg hp]
      have hp2 : p ((n + 1 : Nat) : Int) = false := by simpa using hp
      refine ⟨fun h k h1 h2 => ?_, fun h => ?_⟩
      · by_cases e : k = ((n + 1 : Nat) : Int)
        · rw [e]; exact hp2
        · exact i1 h k h1 (by omega)
      · obtain ⟨j1, j2, j3, j4⟩ := i2 h
        refine ⟨j1, by omega, j3, fun k h1 h2 => ?_⟩
        by_cases e : k = ((n + 1 : Nat) : Int)
        · rw [e]; exact hp2
        · exact j4 k h1 (by omega)
theorem pile_times {c g : Int} (h0 : 0 ≤ g) (h1 : g ≤ 100000) (h2 : 0 ≤ c) (h3 : c ≤ 40) : 0 ≤ c * g ∧ c * g ≤ 4000000 :=
  ⟨Int.mul_nonneg h2 h0, Int.le_trans (Int.mul_le_mul_of_nonneg_left h1 h2) (by omega)⟩
section
variable {s : Shape} (so : ShapeOk s)
include so
theorem stands_j4 (high m : Int) (h1 : 1 ≤ m) (h2 : m ≤ 40) (hn : ∀ k : Int, m < k → k ≤ 40 → fitsPile s high k = false) :
    potbanklaw01_WareStands.j4 1 high m false s.id s.wide.lo s.wide.hi s.deep.lo s.deep.hi s.high.lo s.high.hi s.nest s.weight.lo s.weight.hi s.bears = some true := by
  simp only [potbanklaw01_WareStands.j4]
  rw [if_neg (by simp)]
  by_cases e : m = 40
  · rw [if_pos e]; rfl
  · rw [if_neg e, wrap_id (by omega) (by omega), height_f, stands_f, heightS_ok so (by omega) (by omega), standsS_ok so (by omega) (by omega)]
    simp only [outR, Option.bind_some, if_true]
    have hf := hn (m + 1) (by omega) (by omega)
    simp only [fitsPile, standsB, Bool.and_eq_false_iff, decide_eq_false_iff_not] at hf
    by_cases hs : (m + 1 - 1) * s.weight.hi ≤ s.bears
    · rw [if_pos (by simpa using hs), if_pos (by omega)]; rfl
    · rw [if_neg (by simpa using hs)]; rfl
theorem stands_j3 (l : List Int) (hl : l.length ≤ 140737488355328) :
    potbanklaw01_WareStands.j3 2 l s.id s.wide.lo s.wide.hi s.deep.lo s.deep.hi s.high.lo s.high.hi s.nest s.weight.lo s.weight.hi s.bears = some true := by
  simp only [potbanklaw01_WareStands.j3]
  rw [at_f hl]; simp only [Option.bind_some]
  rw [mod_f (by omega) (by omega)]; simp only [Option.bind_some]
  generalize atS l 0 % 4000 = high
  rw [most_f]
  have hm := mostFrom_spec (fitsPile s high) 40
  have hM : mostS s high = if mostFrom (fitsPile s high) 40 = 0 then (0, 3) else (mostFrom (fitsPile s high) 40, 0) := by unfold mostS; rw [if_pos (okShape_iff.2 so)]
  generalize mostFrom (fitsPile s high) 40 = m at *
  by_cases h0 : m = 0
  · rw [hM, if_pos h0]; simp only [Option.bind_some, if_true]
    have := hm.1 h0 1 (by omega) (by omega)
    simp only [fitsPile, standsB, pileHigh, Bool.and_eq_false_iff, decide_eq_false_iff_not] at this
    have hb := so.b1
    simp only [Int.sub_self, Int.zero_mul, Int.add_zero] at this
    have h9 : s.high.hi > high := by simp at this; omega
    rw [if_pos h9]; rfl
  · obtain ⟨g1, g2, g3, g4⟩ := hm.2 h0
    rw [hM, if_neg h0]; simp only [Option.bind_some]
    have g2' : m ≤ 40 := g2
    rw [if_neg (by omega), height_f, stands_f, heightS_ok so (by omega) (by omega), standsS_ok so (by omega) (by omega)]
    simp only [outR, Option.bind_some, if_true]
    simp only [fitsPile, standsB, Bool.and_eq_true, decide_eq_true_eq] at g3
    rw [if_pos (by simpa using g3.1), decide_eq_false (by omega)]
    exact stands_j4 so high m g1 g2' (fun k h1 h2 => g4 k h1 h2)
theorem stands_j2 (l : List Int) (hl : l.length ≤ 140737488355328) (n : Int) (h1 : 1 ≤ n) (h2 : n ≤ 40) :
    potbanklaw01_WareStands.j2 3 n l (decide ((n - 1) * s.weight.hi ≤ s.bears)) false s.id s.wide.lo s.wide.hi s.deep.lo s.deep.hi s.high.lo s.high.hi s.nest s.weight.lo s.weight.hi s.bears = some true := by
  simp only [potbanklaw01_WareStands.j2]
  rw [if_neg (by simp)]
  by_cases hn : n > 1
  · rw [if_pos hn, wrap_id (by omega) (by omega), stands_f, standsS_ok so (by omega) (by omega)]; simp only [Option.bind_some, if_true]
    have hw : 0 ≤ s.weight.hi := by have := so.g1; have := so.g2; omega
    have hle : (n - 1 - 1) * s.weight.hi ≤ (n - 1) * s.weight.hi := Int.mul_le_mul_of_nonneg_right (by omega) hw
    by_cases hs : (n - 1) * s.weight.hi ≤ s.bears
    · rw [if_pos (by simpa using hs), if_pos (by simp; omega)]; exact stands_j3 so l hl
    · rw [if_neg (by simpa using hs)]; exact stands_j3 so l hl
  · rw [if_neg hn]; exact stands_j3 so l hl
theorem stands_l0 (l : List Int) (hl : l.length ≤ 140737488355328) (n : Int) (h1 : 1 ≤ n) (h2 : n ≤ 40) : ∀ (m : Nat) (above : Int), (m : Int) ≤ n → (n - m) * s.weight.lo ≤ above → above ≤ (n - m) * s.weight.hi →
    potbanklaw01_WareStands.l0 (2 * m + 4) n l (decide ((n - 1) * s.weight.hi ≤ s.bears)) above ((m : Int) - 1) s.id s.wide.lo s.wide.hi s.deep.lo s.deep.hi s.high.lo s.high.hi s.nest s.weight.lo s.weight.hi s.bears = some true
  | 0, above, hm, ha, hb => by
    simp only [potbanklaw01_WareStands.l0]
    rw [if_neg (by omega), load_f, loadS_ok so h1 h2 (by omega) (by omega)]; simp only [outR, Option.bind_some, if_true]
    by_cases hs : (n - 1) * s.weight.hi ≤ s.bears
    · rw [if_pos (by simpa using hs)]; exact stands_j2 so l hl n h1 h2
    · rw [if_neg (by simpa using hs)]
      have e : decide ((n - 1 - 0) * s.weight.hi ≤ s.bears) = false := by simpa using hs
      rw [e]; exact stands_j2 so l hl n h1 h2
  | m + 1, above, hm, ha, hb => by
    have e0 : 2 * (m + 1) + 4 = 2 * m + 4 + 1 + 1 := by omega
    rw [e0]
    simp only [potbanklaw01_WareStands.l0]
    have e1 : ((m + 1 : Nat) : Int) - 1 = m := by omega
    have e2 : n - ((m + 1 : Nat) : Int) = n - 1 - m := by omega
    rw [e2] at ha hb
    have g1 := so.g1
    have g2 := so.g2
    have g3 := so.g3
    obtain ⟨t1, t2⟩ := pile_times (c := n - 1 - m) (g := s.weight.lo) g1 (by omega) (by omega) (by omega)
    obtain ⟨t3, t4⟩ := pile_times (c := n - 1 - m) (g := s.weight.hi) (by omega) g3 (by omega) (by omega)
    have k1 : (n - m) * s.weight.lo = (n - 1 - m) * s.weight.lo + s.weight.lo := by rw [show n - (m : Int) = (n - 1 - m) + 1 by omega, Int.add_mul, Int.one_mul]
    have k2 : (n - m) * s.weight.hi = (n - 1 - m) * s.weight.hi + s.weight.hi := by rw [show n - (m : Int) = (n - 1 - m) + 1 by omega, Int.add_mul, Int.one_mul]
    have k3 : (n - 1 - m) * s.weight.hi ≤ (n - 1) * s.weight.hi := Int.mul_le_mul_of_nonneg_right (by omega) (by omega)
    rw [e1, if_pos (by omega), load_f, loadS_ok so h1 h2 (by omega) (by omega)]; simp only [outR, Option.bind_some, if_true]
    rw [if_neg (by omega), if_neg (by omega)]
    have ej : ∀ b : Bool, b = false → potbanklaw01_WareStands.j1 (2 * m + 4 + 1) n l (decide ((n - 1) * s.weight.hi ≤ s.bears)) above m b s.id s.wide.lo s.wide.hi s.deep.lo s.deep.hi s.high.lo s.high.hi s.nest s.weight.lo s.weight.hi s.bears = some true := by
      rintro b rfl
      simp only [potbanklaw01_WareStands.j1]
      rw [if_neg (by simp), at_f hl]; simp only [Option.bind_some]
      have e3 := Int.emod_nonneg (atS l m) (by omega : s.weight.hi - s.weight.lo + 1 ≠ 0)
      have e4 := Int.emod_lt_of_pos (atS l m) (by omega : 0 < s.weight.hi - s.weight.lo + 1)
      rw [wrap_id (x := s.weight.hi - s.weight.lo) (by omega) (by omega), wrap_id (x := s.weight.hi - s.weight.lo + 1) (by omega) (by omega), mod_f (by omega) (by omega)]; simp only [Option.bind_some]
      generalize atS l m % (s.weight.hi - s.weight.lo + 1) = q at *
      rw [wrap_id (x := s.weight.lo + q) (by omega) (by omega), wrap_id (x := above + (s.weight.lo + q)) (by omega) (by omega), wrap_id (x := (m : Int) - 1) (by omega) (by omega)]
      exact stands_l0 l hl n h1 h2 m _ (by omega) (by omega) (by omega)
    by_cases hs : (n - 1) * s.weight.hi ≤ s.bears
    · rw [if_pos (by simpa using hs)]; exact ej _ (decide_eq_false (by omega))
    · rw [if_neg (by simpa using hs)]; exact ej _ rfl
end
theorem stands_pure (l0 : List Int) (a1 : Int) (l2 : List Int) (hl0 : l0.length ≤ 140737488355328) (hl2 : l2.length ≤ 140737488355328) : ∃ k, potbanklaw01_WareStands.f k l0 a1 l2 = some true := by
  have so := madeShape_ok 1 (by omega) (by omega) l0
  have e1 := Int.emod_nonneg a1 (by omega : (40 : Int) ≠ 0)
  have e2 := Int.emod_lt_of_pos a1 (by omega : (0 : Int) < 40)
  refine ⟨2 * (1 + a1 % 40).toNat + 4, ?_⟩
  unfold potbanklaw01_WareStands.f
  rw [shape_f hl0]; simp only [Option.bind_some, tupS]
  rw [mod_f (by omega) (by omega)]; simp only [Option.bind_some]
  generalize a1 % 40 = u at *
  generalize madeShape 1 l0 = s at *
  rw [wrap_id (x := 1 + u) (by omega) (by omega), stands_f, standsS_ok so (by omega) (by omega)]; simp only [Option.bind_some, if_true]
  rw [wrap_id (x := 1 + u - 1) (by omega) (by omega)]
  have h := stands_l0 so l2 hl2 (1 + u) (by omega) (by omega) (1 + u).toNat 0 (by omega) (by rw [show (1 + u) - (((1 + u).toNat : Nat) : Int) = 0 by omega]; omega) (by rw [show (1 + u) - (((1 + u).toNat : Nat) : Int) = 0 by omega]; omega)
  rw [show (((1 + u).toNat : Nat) : Int) = 1 + u by omega] at h
  exact h
end Go.Proofs.Ytcgokimagimamaa.F
