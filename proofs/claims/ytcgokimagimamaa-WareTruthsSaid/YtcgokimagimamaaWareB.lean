
/- Layer 1, the program: lengths and weights fired, piles. What each call answers. -/
import Derived.Test.YtcgokimagimamaaWareA
namespace Go.Proofs.Ytcgokimagimamaa
open Go.RowKit
attribute [local go_sem] errIf_true errIf_false
set_option maxHeartbeats 400000
set_option linter.unusedSimpArgs false
set_option linter.unusedVariables false
theorem fired_any (b : Body) (wet : Rng) (most : Int) (by_ : Rng) (w : World) (hm : most ≤ 100000) (h3 : okBody b = true → 0 ≤ by_.lo ∧ by_.lo ≤ by_.hi ∧ by_.hi ≤ 1000) :
    Calls Try.prog 61 #[.agg #[.int .i64 b.id, .int .i64 b.shrink.lo, .int .i64 b.shrink.hi, .int .i64 b.loss.lo, .int .i64 b.loss.hi, .int .i64 b.heat.lo, .int .i64 b.heat.hi], .agg #[.int .i64 wet.lo, .int .i64 wet.hi], .int .i64 most, .agg #[.int .i64 by_.lo, .int .i64 by_.hi]] w fun e w' =>
      e = .returned (.tuple #[.agg #[.int .i64 ((firedS b wet most by_).1.lo), .int .i64 ((firedS b wet most by_).1.hi)], .int .i64 ((firedS b wet most by_).2)]) ∧ Below w.heap.size w w' := by
  by_cases hb : okBody b = true
  · obtain ⟨g1, g2, g3⟩ := h3 hb
    by_cases hp : partB wet.lo wet.hi 0 most = true
    · obtain ⟨p1, p2, p3⟩ := partB_iff.1 hp
      have HV : Hid (firedS b wet most by_ = (becomesR wet by_, 0)) := by unfold Hid; simp [firedS, hb, partR, hp]
      go_enter Try.func61, Try.ntmps61
      go_wp2_with (first | (go_at_call 45; refine Calls.mono (CheckBody_any b _) ?_; rintro e w' ⟨rfl, hb⟩; ((first | (with_reducible have HB2 := Below.next HB hb) | (with_reducible have HB2 := Below.next (Below.nalloc HB _) hb) | have HB2 := hb); (try clear hc hf hz hz1 hz2 hn1 hn2); obtain ⟨hc, hf, hz, hz1, hz2, hn1, hn2⟩ := bcell3 HB2; (try clear HB); have HB := HB2; clear HB2; have hbk := hb; clear hb)) | (go_at_call 64; refine Calls.mono (isPart_any _ _ _ _ _) ?_; rintro e w' ⟨rfl, hb⟩; ((first | (with_reducible have HB2 := Below.next HB hb) | (with_reducible have HB2 := Below.next (Below.nalloc HB _) hb) | have HB2 := hb); (try clear hc hf hz hz1 hz2 hn1 hn2); obtain ⟨hc, hf, hz, hz1, hz2, hn1, hn2⟩ := bcell3 HB2; (try clear HB); have HB := HB2; clear HB2; have hbk := hb; clear hb)) | (go_at_call 62; refine Calls.mono (becomes_any wet by_ _ p1 p2 (by omega) g1 g2 g3) ?_; rintro e w' ⟨rfl, hb⟩; ((first | (with_reducible have HB2 := Below.next HB hb) | (with_reducible have HB2 := Below.next (Below.nalloc HB _) hb) | have HB2 := hb); (try clear hc hf hz hz1 hz2 hn1 hn2); obtain ⟨hc, hf, hz, hz1, hz2, hn1, hn2⟩ := bcell3 HB2; (try clear HB); have HB := HB2; clear HB2; have hbk := hb; clear hb)))
      exact (bodyPost_ret (v := .tuple #[.agg #[.int .i64 (turnLo wet.lo by_.hi), .int .i64 (turnHi wet.hi by_.lo)], .int .i64 0]) (by simp [results, Try.results61, go_sem, hc, hf]) rfl) ⟨by rw [HV.out]; rfl, by (repeat (first | (with_reducible exact Below.refl _ _) | (with_reducible refine Below.nset ?_ ?_ _) | (with_reducible refine Below.nalloc ?_ _) | (with_reducible refine Below.ndrew ?_) | (with_reducible refine Below.ndrewN ?_ _) | (with_reducible refine Below.next ?_ (by assumption)) | (with_reducible refine Below.next ?_ (OldAs.below (by assumption))) | (focus (first | (simp; done) | (simp; omega)))))⟩
    · have hp' : partB wet.lo wet.hi 0 most = false := by simpa using hp
      have HV : Hid (firedS b wet most by_ = (zR, 1)) := by unfold Hid; simp [firedS, hb, partR, hp']
      clear hp
      go_enter Try.func61, Try.ntmps61
      go_wp2_with (first | (go_at_call 45; refine Calls.mono (CheckBody_any b _) ?_; rintro e w' ⟨rfl, hb⟩; ((first | (with_reducible have HB2 := Below.next HB hb) | (with_reducible have HB2 := Below.next (Below.nalloc HB _) hb) | have HB2 := hb); (try clear hc hf hz hz1 hz2 hn1 hn2); obtain ⟨hc, hf, hz, hz1, hz2, hn1, hn2⟩ := bcell3 HB2; (try clear HB); have HB := HB2; clear HB2; have hbk := hb; clear hb)) | (go_at_call 64; refine Calls.mono (isPart_any _ _ _ _ _) ?_; rintro e w' ⟨rfl, hb⟩; ((first | (with_reducible have HB2 := Below.next HB hb) | (with_reducible have HB2 := Below.next (Below.nalloc HB _) hb) | have HB2 := hb); (try clear hc hf hz hz1 hz2 hn1 hn2); obtain ⟨hc, hf, hz, hz1, hz2, hn1, hn2⟩ := bcell3 HB2; (try clear HB); have HB := HB2; clear HB2; have hbk := hb; clear hb)))
      exact (bodyPost_ret (v := .tuple #[.agg #[.int .i64 0, .int .i64 0], .int .i64 1]) (by simp [results, Try.results61, go_sem, hc, hf]) rfl) ⟨by rw [HV.out]; rfl, by (repeat (first | (with_reducible exact Below.refl _ _) | (with_reducible refine Below.nset ?_ ?_ _) | (with_reducible refine Below.nalloc ?_ _) | (with_reducible refine Below.ndrew ?_) | (with_reducible refine Below.ndrewN ?_ _) | (with_reducible refine Below.next ?_ (by assumption)) | (with_reducible refine Below.next ?_ (OldAs.below (by assumption))) | (focus (first | (simp; done) | (simp; omega)))))⟩
  · have hb' : okBody b = false := by simpa using hb
    have HV : Hid (firedS b wet most by_ = (zR, 11)) := by unfold Hid; simp [firedS, hb']
    clear hb h3
    go_enter Try.func61, Try.ntmps61
    go_wp2_with (first | (go_at_call 45; refine Calls.mono (CheckBody_any b _) ?_; rintro e w' ⟨rfl, hb⟩; ((first | (with_reducible have HB2 := Below.next HB hb) | (with_reducible have HB2 := Below.next (Below.nalloc HB _) hb) | have HB2 := hb); (try clear hc hf hz hz1 hz2 hn1 hn2); obtain ⟨hc, hf, hz, hz1, hz2, hn1, hn2⟩ := bcell3 HB2; (try clear HB); have HB := HB2; clear HB2; have hbk := hb; clear hb)))
    exact (bodyPost_ret (v := .tuple #[.agg #[.int .i64 0, .int .i64 0], .int .i64 11]) (by simp [results, Try.results61, go_sem, hc, hf]) rfl) ⟨by rw [HV.out]; rfl, by (repeat (first | (with_reducible exact Below.refl _ _) | (with_reducible refine Below.nset ?_ ?_ _) | (with_reducible refine Below.nalloc ?_ _) | (with_reducible refine Below.ndrew ?_) | (with_reducible refine Below.ndrewN ?_ _) | (with_reducible refine Below.next ?_ (by assumption)) | (with_reducible refine Below.next ?_ (OldAs.below (by assumption))) | (focus (first | (simp; done) | (simp; omega)))))⟩
theorem Shrunk_any (b : Body) (wet : Rng) (w : World) :
    Calls Try.prog 25 #[.agg #[.int .i64 b.id, .int .i64 b.shrink.lo, .int .i64 b.shrink.hi, .int .i64 b.loss.lo, .int .i64 b.loss.hi, .int .i64 b.heat.lo, .int .i64 b.heat.hi], .agg #[.int .i64 wet.lo, .int .i64 wet.hi]] w fun e w' =>
      e = .returned (.tuple #[.agg #[.int .i64 ((firedS b wet 2000 b.shrink).1.lo), .int .i64 ((firedS b wet 2000 b.shrink).1.hi)], .int .i64 ((firedS b wet 2000 b.shrink).2)]) ∧ Below w.heap.size w w' := by
  have h3 : okBody b = true → 0 ≤ b.shrink.lo ∧ b.shrink.lo ≤ b.shrink.hi ∧ b.shrink.hi ≤ 1000 := fun h => by have := okBody_iff.1 h; exact ⟨this.s1, this.s2, by have := this.s3; omega⟩
  have H3 := hidI h3
  clear h3
  go_enter Try.func25, Try.ntmps25
  go_wp2_with (first | (go_at_call 61; refine Calls.mono (fired_any b wet 2000 b.shrink _ (by omega) H3.out) ?_; rintro e w' ⟨rfl, hb⟩; ((first | (with_reducible have HB2 := Below.next HB hb) | (with_reducible have HB2 := Below.next (Below.nalloc HB _) hb) | have HB2 := hb); (try clear hc hf hz hz1 hz2 hn1 hn2); obtain ⟨hc, hf, hz, hz1, hz2, hn1, hn2⟩ := bcell3 HB2; (try clear HB); have HB := HB2; clear HB2; have hbk := hb; clear hb)))
  exact (bodyPost_ret (v := .tuple #[.agg #[.int .i64 ((firedS b wet 2000 b.shrink).1.lo), .int .i64 ((firedS b wet 2000 b.shrink).1.hi)], .int .i64 ((firedS b wet 2000 b.shrink).2)]) (by simp [results, Try.results25, go_sem, hc, hf]) rfl) ⟨rfl, by (repeat (first | (with_reducible exact Below.refl _ _) | (with_reducible refine Below.nset ?_ ?_ _) | (with_reducible refine Below.nalloc ?_ _) | (with_reducible refine Below.ndrew ?_) | (with_reducible refine Below.ndrewN ?_ _) | (with_reducible refine Below.next ?_ (by assumption)) | (with_reducible refine Below.next ?_ (OldAs.below (by assumption))) | (focus (first | (simp; done) | (simp; omega)))))⟩
theorem Burnt_any (b : Body) (wet : Rng) (w : World) :
    Calls Try.prog 30 #[.agg #[.int .i64 b.id, .int .i64 b.shrink.lo, .int .i64 b.shrink.hi, .int .i64 b.loss.lo, .int .i64 b.loss.hi, .int .i64 b.heat.lo, .int .i64 b.heat.hi], .agg #[.int .i64 wet.lo, .int .i64 wet.hi]] w fun e w' =>
      e = .returned (.tuple #[.agg #[.int .i64 ((firedS b wet 100000 b.loss).1.lo), .int .i64 ((firedS b wet 100000 b.loss).1.hi)], .int .i64 ((firedS b wet 100000 b.loss).2)]) ∧ Below w.heap.size w w' := by
  have h3 : okBody b = true → 0 ≤ b.loss.lo ∧ b.loss.lo ≤ b.loss.hi ∧ b.loss.hi ≤ 1000 := fun h => by have := okBody_iff.1 h; exact ⟨this.l1, this.l2, by have := this.l3; omega⟩
  have H3 := hidI h3
  clear h3
  go_enter Try.func30, Try.ntmps30
  go_wp2_with (first | (go_at_call 61; refine Calls.mono (fired_any b wet 100000 b.loss _ (by omega) H3.out) ?_; rintro e w' ⟨rfl, hb⟩; ((first | (with_reducible have HB2 := Below.next HB hb) | (with_reducible have HB2 := Below.next (Below.nalloc HB _) hb) | have HB2 := hb); (try clear hc hf hz hz1 hz2 hn1 hn2); obtain ⟨hc, hf, hz, hz1, hz2, hn1, hn2⟩ := bcell3 HB2; (try clear HB); have HB := HB2; clear HB2; have hbk := hb; clear hb)))
  exact (bodyPost_ret (v := .tuple #[.agg #[.int .i64 ((firedS b wet 100000 b.loss).1.lo), .int .i64 ((firedS b wet 100000 b.loss).1.hi)], .int .i64 ((firedS b wet 100000 b.loss).2)]) (by simp [results, Try.results30, go_sem, hc, hf]) rfl) ⟨rfl, by (repeat (first | (with_reducible exact Below.refl _ _) | (with_reducible refine Below.nset ?_ ?_ _) | (with_reducible refine Below.nalloc ?_ _) | (with_reducible refine Below.ndrew ?_) | (with_reducible refine Below.ndrewN ?_ _) | (with_reducible refine Below.next ?_ (by assumption)) | (with_reducible refine Below.next ?_ (OldAs.below (by assumption))) | (focus (first | (simp; done) | (simp; omega)))))⟩
theorem checkPile_any (s : Shape) (many : Int) (w : World) :
    Calls Try.prog 50 #[.agg #[.int .i64 s.id, .int .i64 s.wide.lo, .int .i64 s.wide.hi, .int .i64 s.deep.lo, .int .i64 s.deep.hi, .int .i64 s.high.lo, .int .i64 s.high.hi, .int .i64 s.nest, .int .i64 s.weight.lo, .int .i64 s.weight.hi, .int .i64 s.bears], .int .i64 many] w fun e w' => e = .returned (.int .i64 (pileErr s many)) ∧ Below w.heap.size w w' := by
  by_cases hs : okShape s = true
  · have HV : Hid (pileErr s many = if inB many 1 40 then 0 else 14) := by unfold Hid; simp [pileErr, hs]
    go_enter Try.func50, Try.ntmps50
    go_wp2_with (first | (go_at_call 27; refine Calls.mono (CheckShape_any s _) ?_; rintro e w' ⟨rfl, hb⟩; ((first | (with_reducible have HB2 := Below.next HB hb) | (with_reducible have HB2 := Below.next (Below.nalloc HB _) hb) | have HB2 := hb); (try clear hc hf hz hz1 hz2 hn1 hn2); obtain ⟨hc, hf, hz, hz1, hz2, hn1, hn2⟩ := bcell3 HB2; (try clear HB); have HB := HB2; clear HB2; have hbk := hb; clear hb)) | (go_at_call 55; refine Calls.mono (isWithin_any _ _ _ _) ?_; rintro e w' ⟨rfl, rfl⟩))
    all_goals (go_ret; exact ⟨by rw [HV.out]; simp_all, by (repeat (first | (with_reducible exact Below.refl _ _) | (with_reducible refine Below.nset ?_ ?_ _) | (with_reducible refine Below.nalloc ?_ _) | (with_reducible refine Below.ndrew ?_) | (with_reducible refine Below.ndrewN ?_ _) | (with_reducible refine Below.next ?_ (by assumption)) | (with_reducible refine Below.next ?_ (OldAs.below (by assumption))) | (focus (first | (simp; done) | (simp; omega)))))⟩)
  · have hs' : okShape s = false := by simpa using hs
    have HV : Hid (pileErr s many = 10) := by unfold Hid; simp [pileErr, hs']
    clear hs
    go_enter Try.func50, Try.ntmps50
    go_wp2_with (first | (go_at_call 27; refine Calls.mono (CheckShape_any s _) ?_; rintro e w' ⟨rfl, hb⟩; ((first | (with_reducible have HB2 := Below.next HB hb) | (with_reducible have HB2 := Below.next (Below.nalloc HB _) hb) | have HB2 := hb); (try clear hc hf hz hz1 hz2 hn1 hn2); obtain ⟨hc, hf, hz, hz1, hz2, hn1, hn2⟩ := bcell3 HB2; (try clear HB); have HB := HB2; clear HB2; have hbk := hb; clear hb)))
    all_goals (go_ret; exact ⟨by rw [HV.out]; rfl, by (repeat (first | (with_reducible exact Below.refl _ _) | (with_reducible refine Below.nset ?_ ?_ _) | (with_reducible refine Below.nalloc ?_ _) | (with_reducible refine Below.ndrew ?_) | (with_reducible refine Below.ndrewN ?_ _) | (with_reducible refine Below.next ?_ (by assumption)) | (with_reducible refine Below.next ?_ (OldAs.below (by assumption))) | (focus (first | (simp; done) | (simp; omega)))))⟩)
end Go.Proofs.Ytcgokimagimamaa
