
/- Layer 1, the program: piles that stand, moulds, fired shapes. What each call answers. -/
import Derived.Test.YtcgokimagimamaaWareC
namespace Go.Proofs.Ytcgokimagimamaa
open Go.RowKit
attribute [local go_sem] errIf_true errIf_false
set_option maxHeartbeats 400000
set_option linter.unusedSimpArgs false
set_option linter.unusedVariables false
theorem load0 (s : Shape) (many : Int) (h : pileErr s many = 0) : loadS s many 0 = (⟨(many - 1) * s.weight.lo, (many - 1) * s.weight.hi⟩, 0) := by
  obtain ⟨o1, o2⟩ : okShape s = true ∧ inB many 1 40 = true := by unfold pileErr at h; split at h <;> (try split at h) <;> simp_all
  have o4 := (inB_iff.1 o2).1
  have : inB 0 0 (many - 1) = true := inB_iff.2 ⟨by omega, by omega⟩
  simp [loadS, h, this]
theorem loadE (s : Shape) (many : Int) (h : ¬ pileErr s many = 0) : loadS s many 0 = (zR, pileErr s many) := by simp [loadS, h]
theorem Stands_any (s : Shape) (many : Int) (w : World) :
    Calls Try.prog 15 #[.agg #[.int .i64 s.id, .int .i64 s.wide.lo, .int .i64 s.wide.hi, .int .i64 s.deep.lo, .int .i64 s.deep.hi, .int .i64 s.high.lo, .int .i64 s.high.hi, .int .i64 s.nest, .int .i64 s.weight.lo, .int .i64 s.weight.hi, .int .i64 s.bears], .int .i64 many] w fun e w' =>
      e = .returned (.tuple #[.bool (standsS s many).1, .int .i64 ((standsS s many).2)]) ∧ Below w.heap.size w w' := by
  by_cases hs : pileErr s many = 0
  · have HV : Hid (standsS s many = (standsB s many, 0)) := by unfold Hid; simp [standsS, hs]
    have hl := load0 s many hs
    have HE : Hid (standsB s many = decide ((many - 1) * s.weight.hi ≤ s.bears)) := rfl
    generalize (many - 1) * s.weight.hi = m at *
    generalize (many - 1) * s.weight.lo = m2 at *
    generalize standsB s many = sb at *
    have h1 : (loadS s many 0).1.lo = m2 := by rw [hl]
    have h2 : (loadS s many 0).1.hi = m := by rw [hl]
    have h3 : (loadS s many 0).2 = 0 := by rw [hl]
    clear hl hs
    by_cases hle : m ≤ s.bears
    · go_enter Try.func15, Try.ntmps15
      go_wp2_with (first | (go_at_call 13; refine Calls.mono (Load_any s many 0 _) ?_; rintro e w' ⟨rfl, hb⟩; ((first | (with_reducible have HB2 := Below.next HB hb) | (with_reducible have HB2 := Below.next (Below.nalloc HB _) hb) | have HB2 := hb); (try clear hc hf hz hz1 hz2 hn1 hn2); obtain ⟨hc, hf, hz, hz1, hz2, hn1, hn2⟩ := bcell3 HB2; (try clear HB); have HB := HB2; clear HB2; have hbk := hb; clear hb)))
      go_ret2
      exact ⟨by rw [HV.out, HE.out]; simp [hle], by (repeat (first | (with_reducible exact Below.refl _ _) | (with_reducible refine Below.nset ?_ ?_ _) | (with_reducible refine Below.nalloc ?_ _) | (with_reducible refine Below.ndrew ?_) | (with_reducible refine Below.ndrewN ?_ _) | (with_reducible refine Below.next ?_ (by assumption)) | (with_reducible refine Below.next ?_ (OldAs.below (by assumption))) | (focus (first | (simp; done) | (simp; omega)))))⟩
    · go_enter Try.func15, Try.ntmps15
      go_wp2_with (first | (go_at_call 13; refine Calls.mono (Load_any s many 0 _) ?_; rintro e w' ⟨rfl, hb⟩; ((first | (with_reducible have HB2 := Below.next HB hb) | (with_reducible have HB2 := Below.next (Below.nalloc HB _) hb) | have HB2 := hb); (try clear hc hf hz hz1 hz2 hn1 hn2); obtain ⟨hc, hf, hz, hz1, hz2, hn1, hn2⟩ := bcell3 HB2; (try clear HB); have HB := HB2; clear HB2; have hbk := hb; clear hb)))
      go_ret2
      exact ⟨by rw [HV.out, HE.out]; simp [hle], by (repeat (first | (with_reducible exact Below.refl _ _) | (with_reducible refine Below.nset ?_ ?_ _) | (with_reducible refine Below.nalloc ?_ _) | (with_reducible refine Below.ndrew ?_) | (with_reducible refine Below.ndrewN ?_ _) | (with_reducible refine Below.next ?_ (by assumption)) | (with_reducible refine Below.next ?_ (OldAs.below (by assumption))) | (focus (first | (simp; done) | (simp; omega)))))⟩
  · have HV : Hid (standsS s many = (false, pileErr s many)) := by unfold Hid; simp [standsS, hs]
    have hl := loadE s many hs
    have h1 : (loadS s many 0).1.lo = 0 := by rw [hl]; rfl
    have h2 : (loadS s many 0).1.hi = 0 := by rw [hl]; rfl
    have h3 : (loadS s many 0).2 = pileErr s many := by rw [hl]
    clear hl
    go_enter Try.func15, Try.ntmps15
    go_wp2_with (first | (go_at_call 13; refine Calls.mono (Load_any s many 0 _) ?_; rintro e w' ⟨rfl, hb⟩; ((first | (with_reducible have HB2 := Below.next HB hb) | (with_reducible have HB2 := Below.next (Below.nalloc HB _) hb) | have HB2 := hb); (try clear hc hf hz hz1 hz2 hn1 hn2); obtain ⟨hc, hf, hz, hz1, hz2, hn1, hn2⟩ := bcell3 HB2; (try clear HB); have HB := HB2; clear HB2; have hbk := hb; clear hb)))
    go_ret2
    exact ⟨by rw [HV.out]; rfl, by (repeat (first | (with_reducible exact Below.refl _ _) | (with_reducible refine Below.nset ?_ ?_ _) | (with_reducible refine Below.nalloc ?_ _) | (with_reducible refine Below.ndrew ?_) | (with_reducible refine Below.ndrewN ?_ _) | (with_reducible refine Below.next ?_ (by assumption)) | (with_reducible refine Below.next ?_ (OldAs.below (by assumption))) | (focus (first | (simp; done) | (simp; omega)))))⟩

def MostInv (p : Int → Bool) (k : Nat) : Prop := mostFrom p 40 = mostFrom p k
theorem MostInv.start (p : Int → Bool) : MostInv p 40 := rfl
theorem MostInv.next {p : Int → Bool} {k : Nat} (h : MostInv p (k + 1)) (hp : p ((k : Int) + 1) = false) : MostInv p k := by
  unfold MostInv at *; rw [h]; simp [mostFrom, hp]
theorem MostInv.found {p : Int → Bool} {k : Nat} (h : MostInv p (k + 1)) (hp : p ((k : Int) + 1) = true) : mostFrom p 40 = (k : Int) + 1 := by
  unfold MostInv at h; rw [h]; simp [mostFrom, hp]
theorem MostInv.none {p : Int → Bool} (h : MostInv p 0) : mostFrom p 40 = 0 := h
theorem Most_any (s : Shape) (high : Int) (w : World) :
    Calls Try.prog 17 #[.agg #[.int .i64 s.id, .int .i64 s.wide.lo, .int .i64 s.wide.hi, .int .i64 s.deep.lo, .int .i64 s.deep.hi, .int .i64 s.high.lo, .int .i64 s.high.hi, .int .i64 s.nest, .int .i64 s.weight.lo, .int .i64 s.weight.hi, .int .i64 s.bears], .int .i64 high] w fun e w' =>
      e = .returned (.tuple #[.int .i64 ((mostS s high).1), .int .i64 ((mostS s high).2)]) ∧ Below w.heap.size w w' := by
  by_cases hs : okShape s = true
  · have HV : Hid (mostS s high = if mostFrom (fitsPile s high) 40 = 0 then (0, 3) else (mostFrom (fitsPile s high) 40, 0)) := by unfold Hid; simp [mostS, hs]
    have HS := hidI hs
    go_enter Try.func17, Try.ntmps17
    go_wp2_with (first | (go_at_call 27; refine Calls.mono (CheckShape_any s _) ?_; rintro e w' ⟨rfl, hb⟩; ((first | (with_reducible have HB2 := Below.next HB hb) | (with_reducible have HB2 := Below.next (Below.nalloc HB _) hb) | have HB2 := hb); (try clear hc hf hz hz1 hz2 hn1 hn2); obtain ⟨hc, hf, hz, hz1, hz2, hn1, hn2⟩ := bcell3 HB2; (try clear HB); have HB := HB2; clear HB2; have hbk := hb; clear hb)))
    have HW : Below w.heap.size w w' := by (repeat (first | (with_reducible exact Below.refl _ _) | (with_reducible refine Below.nset ?_ ?_ _) | (with_reducible refine Below.nalloc ?_ _) | (with_reducible refine Below.ndrew ?_) | (with_reducible refine Below.ndrewN ?_ _) | (with_reducible refine Below.next ?_ (by assumption)) | (with_reducible refine Below.next ?_ (OldAs.below (by assumption))) | (focus (first | (simp; done) | (simp; omega)))))
    clear hs hc hf hz hz1 hz2 hn1 hn2
    go_loopw [7] (fun many wr => ∃ k : Nat, k ≤ 40 ∧ many = .int .i64 k ∧ MostInv (fitsPile s high) k ∧ Below w'.heap.size w' wr) (fun many _ => (intOf many).toNat)
    case atStart => exact ⟨40, by omega, rfl, MostInv.start _, Below.refl _ _⟩
    case round =>
      obtain ⟨k, hk, rfl, hI, hR⟩ := hrel
      (have HB2 := Below.next HB hR; clear HB; have HB := HB2; clear HB2; have hR2 := hR; clear hR; obtain ⟨hc, hf, hz, hz1, hz2, hn1, hn2⟩ := bcell3 HB)
      cases k with
      | zero =>
        have hn := hI.none
        have HV2 : Hid (mostS s high = (0, 3)) := by unfold Hid; rw [HV.out, if_pos hn]
        clear hn
        go_wp2
        go_ret2
        exact ⟨by rw [HV2.out]; rfl, by (repeat (first | (with_reducible exact Below.refl _ _) | (with_reducible refine Below.nset ?_ ?_ _) | (with_reducible refine Below.nalloc ?_ _) | (with_reducible refine Below.ndrew ?_) | (with_reducible refine Below.ndrewN ?_ _) | (with_reducible refine Below.next ?_ (by assumption)) | (with_reducible refine Below.next ?_ (OldAs.below (by assumption))) | (focus (first | (simp; done) | (simp; omega)))))⟩
      | succ k =>
        have hp : pileErr s ((k : Int) + 1) = 0 := by
          have : inB ((k : Int) + 1) 1 40 = true := inB_iff.2 ⟨by omega, by omega⟩
          simp [pileErr, HS.out, this]
        have h1 : (standsS s ((k : Int) + 1)).1 = standsB s ((k : Int) + 1) := by simp [standsS, hp]
        have h2 : (standsS s ((k : Int) + 1)).2 = 0 := by simp [standsS, hp]
        have h3 : (heightS s ((k : Int) + 1)).1.hi = pileHigh s.high.hi s.nest ((k : Int) + 1) := by simp [heightS, hp]
        have h4 : (heightS s ((k : Int) + 1)).2 = 0 := by simp [heightS, hp]
        have HF : Hid (fitsPile s high ((k : Int) + 1) = (standsB s ((k : Int) + 1) && decide (pileHigh s.high.hi s.nest ((k : Int) + 1) ≤ high))) := rfl
        clear hp
        generalize standsB s ((k : Int) + 1) = sb at *
        generalize pileHigh s.high.hi s.nest ((k : Int) + 1) = ph at *
        cases sb with
        | false =>
          have hI2 := hI.next (by rw [HF.out]; rfl)
          go_wp2_with (first | (go_at_call 15; refine Calls.mono (Stands_any s ((k : Int) + 1) _) ?_; rintro e w' ⟨rfl, hb⟩; ((first | (with_reducible have HB2 := Below.next HB hb) | (with_reducible have HB2 := Below.next (Below.nalloc HB _) hb) | have HB2 := hb); (try clear hc hf hz hz1 hz2 hn1 hn2); obtain ⟨hc, hf, hz, hz1, hz2, hn1, hn2⟩ := bcell3 HB2; (try clear HB); have HB := HB2; clear HB2; have hbk := hb; clear hb)) | (go_at_call 11; refine Calls.mono (Height_any s ((k : Int) + 1) _) ?_; rintro e w' ⟨rfl, hb⟩; ((first | (with_reducible have HB2 := Below.next HB hb) | (with_reducible have HB2 := Below.next (Below.nalloc HB _) hb) | have HB2 := hb); (try clear hc hf hz hz1 hz2 hn1 hn2); obtain ⟨hc, hf, hz, hz1, hz2, hn1, hn2⟩ := bcell3 HB2; (try clear HB); have HB := HB2; clear HB2; have hbk := hb; clear hb)))
          go_roundw
          case rel => exact ⟨k, by omega, by go_num, hI2, by (repeat (first | (with_reducible exact Below.refl _ _) | (with_reducible refine Below.nset ?_ ?_ _) | (with_reducible refine Below.nalloc ?_ _) | (with_reducible refine Below.ndrew ?_) | (with_reducible refine Below.ndrewN ?_ _) | (with_reducible refine Below.next ?_ (by assumption)) | (with_reducible refine Below.next ?_ (OldAs.below (by assumption))) | (focus (first | (simp; done) | (simp; omega)))))⟩
          case measure => first | (simp [intOf]; done) | (simp [intOf]; omega)
        | true =>
          by_cases hle : ph ≤ high
          · have hI2 := hI.found (by rw [HF.out]; simp [hle])
            have HV2 : Hid (mostS s high = ((k : Int) + 1, 0)) := by unfold Hid; rw [HV.out, hI2, if_neg (by omega)]
            clear hI2
            go_wp2_with (first | (go_at_call 15; refine Calls.mono (Stands_any s ((k : Int) + 1) _) ?_; rintro e w' ⟨rfl, hb⟩; ((first | (with_reducible have HB2 := Below.next HB hb) | (with_reducible have HB2 := Below.next (Below.nalloc HB _) hb) | have HB2 := hb); (try clear hc hf hz hz1 hz2 hn1 hn2); obtain ⟨hc, hf, hz, hz1, hz2, hn1, hn2⟩ := bcell3 HB2; (try clear HB); have HB := HB2; clear HB2; have hbk := hb; clear hb)) | (go_at_call 11; refine Calls.mono (Height_any s ((k : Int) + 1) _) ?_; rintro e w' ⟨rfl, hb⟩; ((first | (with_reducible have HB2 := Below.next HB hb) | (with_reducible have HB2 := Below.next (Below.nalloc HB _) hb) | have HB2 := hb); (try clear hc hf hz hz1 hz2 hn1 hn2); obtain ⟨hc, hf, hz, hz1, hz2, hn1, hn2⟩ := bcell3 HB2; (try clear HB); have HB := HB2; clear HB2; have hbk := hb; clear hb)))
            go_ret2
            exact ⟨by rw [HV2.out]; rfl, by (repeat (first | (with_reducible exact Below.refl _ _) | (with_reducible refine Below.nset ?_ ?_ _) | (with_reducible refine Below.nalloc ?_ _) | (with_reducible refine Below.ndrew ?_) | (with_reducible refine Below.ndrewN ?_ _) | (with_reducible refine Below.next ?_ (by assumption)) | (with_reducible refine Below.next ?_ (OldAs.below (by assumption))) | (focus (first | (simp; done) | (simp; omega)))))⟩
          · have hI2 := hI.next (by rw [HF.out]; simp [hle])
            go_wp2_with (first | (go_at_call 15; refine Calls.mono (Stands_any s ((k : Int) + 1) _) ?_; rintro e w' ⟨rfl, hb⟩; ((first | (with_reducible have HB2 := Below.next HB hb) | (with_reducible have HB2 := Below.next (Below.nalloc HB _) hb) | have HB2 := hb); (try clear hc hf hz hz1 hz2 hn1 hn2); obtain ⟨hc, hf, hz, hz1, hz2, hn1, hn2⟩ := bcell3 HB2; (try clear HB); have HB := HB2; clear HB2; have hbk := hb; clear hb)) | (go_at_call 11; refine Calls.mono (Height_any s ((k : Int) + 1) _) ?_; rintro e w' ⟨rfl, hb⟩; ((first | (with_reducible have HB2 := Below.next HB hb) | (with_reducible have HB2 := Below.next (Below.nalloc HB _) hb) | have HB2 := hb); (try clear hc hf hz hz1 hz2 hn1 hn2); obtain ⟨hc, hf, hz, hz1, hz2, hn1, hn2⟩ := bcell3 HB2; (try clear HB); have HB := HB2; clear HB2; have hbk := hb; clear hb)))
            go_roundw
            case rel => exact ⟨k, by omega, by go_num, hI2, by (repeat (first | (with_reducible exact Below.refl _ _) | (with_reducible refine Below.nset ?_ ?_ _) | (with_reducible refine Below.nalloc ?_ _) | (with_reducible refine Below.ndrew ?_) | (with_reducible refine Below.ndrewN ?_ _) | (with_reducible refine Below.next ?_ (by assumption)) | (with_reducible refine Below.next ?_ (OldAs.below (by assumption))) | (focus (first | (simp; done) | (simp; omega)))))⟩
            case measure => first | (simp [intOf]; done) | (simp [intOf]; omega)
  · have hs' : okShape s = false := by simpa using hs
    have HV : Hid (mostS s high = (0, 10)) := by unfold Hid; simp [mostS, hs']
    clear hs
    go_enter Try.func17, Try.ntmps17
    go_wp2_with (first | (go_at_call 27; refine Calls.mono (CheckShape_any s _) ?_; rintro e w' ⟨rfl, hb⟩; ((first | (with_reducible have HB2 := Below.next HB hb) | (with_reducible have HB2 := Below.next (Below.nalloc HB _) hb) | have HB2 := hb); (try clear hc hf hz hz1 hz2 hn1 hn2); obtain ⟨hc, hf, hz, hz1, hz2, hn1, hn2⟩ := bcell3 HB2; (try clear HB); have HB := HB2; clear HB2; have hbk := hb; clear hb)))
    go_ret2
    exact ⟨by rw [HV.out]; rfl, by (repeat (first | (with_reducible exact Below.refl _ _) | (with_reducible refine Below.nset ?_ ?_ _) | (with_reducible refine Below.nalloc ?_ _) | (with_reducible refine Below.ndrew ?_) | (with_reducible refine Below.ndrewN ?_ _) | (with_reducible refine Below.next ?_ (by assumption)) | (with_reducible refine Below.next ?_ (OldAs.below (by assumption))) | (focus (first | (simp; done) | (simp; omega)))))⟩
end Go.Proofs.Ytcgokimagimamaa
