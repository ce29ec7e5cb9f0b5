
/- Layer 1, the reference: moulds, fired shapes, piles. What each call answers. -/
import Derived.Test.YtcgokimagimamaaRefA
namespace Go.Proofs.Ytcgokimagimamaa
open Go.RowKit
attribute [local go_sem] errIf_true errIf_false
set_option maxHeartbeats 400000
set_option linter.unusedSimpArgs false
set_option linter.unusedVariables false
theorem rbecomes_ints (a b c d : Int) (w : World) (h0 : 0 ≤ a) (h1 : a ≤ b) (h2 : b ≤ 100000) (h3 : 0 ≤ c) (h4 : c ≤ d) (h5 : d ≤ 1000) :
    Calls Try.prog 66 #[.agg #[.int .i64 a, .int .i64 b], .agg #[.int .i64 c, .int .i64 d]] w fun e w' => e = .returned (.agg #[.int .i64 (turnLo a d), .int .i64 (turnHi b c)]) ∧ Below w.heap.size w w' :=
  rbecomes_any ⟨a, b⟩ ⟨c, d⟩ w h0 h1 h2 h3 h4 h5
theorem rcheckPile_any (s : Shape) (many : Int) (w : World) :
    Calls Try.prog 53 #[.agg #[.int .i64 s.id, .int .i64 s.wide.lo, .int .i64 s.wide.hi, .int .i64 s.deep.lo, .int .i64 s.deep.hi, .int .i64 s.high.lo, .int .i64 s.high.hi, .int .i64 s.nest, .int .i64 s.weight.lo, .int .i64 s.weight.hi, .int .i64 s.bears], .int .i64 many] w fun e w' => e = .returned (.int .i64 (pileErr s many)) ∧ Below w.heap.size w w' := by
  by_cases hs : okShape s = true
  · have HV : Hid (pileErr s many = if inB many 1 40 then 0 else 14) := by unfold Hid; simp [pileErr, hs]
    go_enter Try.func53, Try.ntmps53
    go_wp2_with (first | (go_at_call 42; refine Calls.mono (rCheckShape_any s _) ?_; rintro e w' ⟨rfl, hb⟩; ((first | (with_reducible have HB2 := Below.next HB hb) | (with_reducible have HB2 := Below.next (Below.nalloc HB _) hb) | have HB2 := hb); (try clear hc hf hz hz1 hz2 hn1 hn2); obtain ⟨hc, hf, hz, hz1, hz2, hn1, hn2⟩ := bcell3 HB2; (try clear HB); have HB := HB2; clear HB2; have hbk := hb; clear hb)) | (go_at_call 57; refine Calls.mono (rIn_any _ _ _ _) ?_; rintro e w' ⟨rfl, rfl⟩))
    all_goals (go_ret; exact ⟨by rw [HV.out]; simp_all, by (repeat (first | (with_reducible exact Below.refl _ _) | (with_reducible refine Below.nset ?_ ?_ _) | (with_reducible refine Below.nalloc ?_ _) | (with_reducible refine Below.ndrew ?_) | (with_reducible refine Below.ndrewN ?_ _) | (with_reducible refine Below.next ?_ (by assumption)) | (with_reducible refine Below.next ?_ (OldAs.below (by assumption))) | (focus (first | (simp; done) | (simp; omega)))))⟩)
  · have hs' : okShape s = false := by simpa using hs
    have HV : Hid (pileErr s many = 10) := by unfold Hid; simp [pileErr, hs']
    clear hs
    go_enter Try.func53, Try.ntmps53
    go_wp2_with (first | (go_at_call 42; refine Calls.mono (rCheckShape_any s _) ?_; rintro e w' ⟨rfl, hb⟩; ((first | (with_reducible have HB2 := Below.next HB hb) | (with_reducible have HB2 := Below.next (Below.nalloc HB _) hb) | have HB2 := hb); (try clear hc hf hz hz1 hz2 hn1 hn2); obtain ⟨hc, hf, hz, hz1, hz2, hn1, hn2⟩ := bcell3 HB2; (try clear HB); have HB := HB2; clear HB2; have hbk := hb; clear hb)))
    all_goals (go_ret; exact ⟨by rw [HV.out]; rfl, by (repeat (first | (with_reducible exact Below.refl _ _) | (with_reducible refine Below.nset ?_ ?_ _) | (with_reducible refine Below.nalloc ?_ _) | (with_reducible refine Below.ndrew ?_) | (with_reducible refine Below.ndrewN ?_ _) | (with_reducible refine Below.next ?_ (by assumption)) | (with_reducible refine Below.next ?_ (OldAs.below (by assumption))) | (focus (first | (simp; done) | (simp; omega)))))⟩)
theorem pileErr_zero {s : Shape} {many : Int} (hs : pileErr s many = 0) : ShapeOk s ∧ 1 ≤ many ∧ many ≤ 40 := by
  obtain ⟨o1, o2⟩ : okShape s = true ∧ inB many 1 40 = true := by unfold pileErr at hs; split at hs <;> (try split at hs) <;> simp_all
  exact ⟨okShape_iff.1 o1, inB_iff.1 o2⟩
theorem rheight_any (s : Shape) (many : Int) (w : World) (o : ShapeOk s) (o4 : 1 ≤ many) (o5 : many ≤ 40) :
    Calls Try.prog 54 #[.agg #[.int .i64 s.id, .int .i64 s.wide.lo, .int .i64 s.wide.hi, .int .i64 s.deep.lo, .int .i64 s.deep.hi, .int .i64 s.high.lo, .int .i64 s.high.hi, .int .i64 s.nest, .int .i64 s.weight.lo, .int .i64 s.weight.hi, .int .i64 s.bears], .int .i64 many] w fun e w' =>
      e = .returned (.agg #[.int .i64 (pileHigh s.high.lo s.nest many), .int .i64 (pileHigh s.high.hi s.nest many)]) ∧ Below w.heap.size w w' := by
  have n1 := o.n1
  have n2 := o.n2
  have n3 := o.h2
  have n4 := o.h3
  obtain ⟨m1, m2⟩ := pile_bound n1 n2 (by omega) o4 o5
  obtain ⟨m3, m4⟩ := pile_bound n1 (by omega : s.nest ≤ s.high.hi) n4 o4 o5
  clear o
  go_enter Try.func54, Try.ntmps54
  go_wp2
  exact (bodyPost_ret (v := .agg #[.int .i64 (pileHigh s.high.lo s.nest many), .int .i64 (pileHigh s.high.hi s.nest many)]) (by simp [results, Try.results54, go_sem, pileHigh]) rfl) ⟨rfl, by (repeat (first | (with_reducible exact Below.refl _ _) | (with_reducible refine Below.nset ?_ ?_ _) | (with_reducible refine Below.nalloc ?_ _) | (with_reducible refine Below.ndrew ?_) | (with_reducible refine Below.ndrewN ?_ _) | (with_reducible refine Below.next ?_ (by assumption)) | (with_reducible refine Below.next ?_ (OldAs.below (by assumption))) | (focus (first | (simp; done) | (simp; omega)))))⟩
theorem rHeight_any (s : Shape) (many : Int) (w : World) :
    Calls Try.prog 12 #[.agg #[.int .i64 s.id, .int .i64 s.wide.lo, .int .i64 s.wide.hi, .int .i64 s.deep.lo, .int .i64 s.deep.hi, .int .i64 s.high.lo, .int .i64 s.high.hi, .int .i64 s.nest, .int .i64 s.weight.lo, .int .i64 s.weight.hi, .int .i64 s.bears], .int .i64 many] w fun e w' =>
      e = .returned (.tuple #[.agg #[.int .i64 ((heightS s many).1.lo), .int .i64 ((heightS s many).1.hi)], .int .i64 ((heightS s many).2)]) ∧ Below w.heap.size w w' := by
  by_cases hs : pileErr s many = 0
  · have HV : Hid (heightS s many = (⟨pileHigh s.high.lo s.nest many, pileHigh s.high.hi s.nest many⟩, 0)) := by unfold Hid; simp [heightS, hs]
    have o := pileErr_zero hs
    go_enter Try.func12, Try.ntmps12
    go_wp2_with (first | (go_at_call 53; refine Calls.mono (rcheckPile_any s many _) ?_; rintro e w' ⟨rfl, hb⟩; ((first | (with_reducible have HB2 := Below.next HB hb) | (with_reducible have HB2 := Below.next (Below.nalloc HB _) hb) | have HB2 := hb); (try clear hc hf hz hz1 hz2 hn1 hn2); obtain ⟨hc, hf, hz, hz1, hz2, hn1, hn2⟩ := bcell3 HB2; (try clear HB); have HB := HB2; clear HB2; have hbk := hb; clear hb)) | (go_at_call 54; refine Calls.mono (rheight_any s many _ o.1 o.2.1 o.2.2) ?_; rintro e w' ⟨rfl, hb⟩; ((first | (with_reducible have HB2 := Below.next HB hb) | (with_reducible have HB2 := Below.next (Below.nalloc HB _) hb) | have HB2 := hb); (try clear hc hf hz hz1 hz2 hn1 hn2); obtain ⟨hc, hf, hz, hz1, hz2, hn1, hn2⟩ := bcell3 HB2; (try clear HB); have HB := HB2; clear HB2; have hbk := hb; clear hb)))
    exact (bodyPost_ret (v := .tuple #[.agg #[.int .i64 (pileHigh s.high.lo s.nest many), .int .i64 (pileHigh s.high.hi s.nest many)], .int .i64 0]) (by simp [results, Try.results12, go_sem, hc, hf]) rfl) ⟨by rw [HV.out], by (repeat (first | (with_reducible exact Below.refl _ _) | (with_reducible refine Below.nset ?_ ?_ _) | (with_reducible refine Below.nalloc ?_ _) | (with_reducible refine Below.ndrew ?_) | (with_reducible refine Below.ndrewN ?_ _) | (with_reducible refine Below.next ?_ (by assumption)) | (with_reducible refine Below.next ?_ (OldAs.below (by assumption))) | (focus (first | (simp; done) | (simp; omega)))))⟩
  · have HV : Hid (heightS s many = (zR, pileErr s many)) := by unfold Hid; simp [heightS, hs]
    go_enter Try.func12, Try.ntmps12
    go_wp2_with (first | (go_at_call 53; refine Calls.mono (rcheckPile_any s many _) ?_; rintro e w' ⟨rfl, hb⟩; ((first | (with_reducible have HB2 := Below.next HB hb) | (with_reducible have HB2 := Below.next (Below.nalloc HB _) hb) | have HB2 := hb); (try clear hc hf hz hz1 hz2 hn1 hn2); obtain ⟨hc, hf, hz, hz1, hz2, hn1, hn2⟩ := bcell3 HB2; (try clear HB); have HB := HB2; clear HB2; have hbk := hb; clear hb)))
    exact (bodyPost_ret (v := .tuple #[.agg #[.int .i64 0, .int .i64 0], .int .i64 (pileErr s many)]) (by simp [results, Try.results12, go_sem, hc, hf]) rfl) ⟨by rw [HV.out]; rfl, by (repeat (first | (with_reducible exact Below.refl _ _) | (with_reducible refine Below.nset ?_ ?_ _) | (with_reducible refine Below.nalloc ?_ _) | (with_reducible refine Below.ndrew ?_) | (with_reducible refine Below.ndrewN ?_ _) | (with_reducible refine Below.next ?_ (by assumption)) | (with_reducible refine Below.next ?_ (OldAs.below (by assumption))) | (focus (first | (simp; done) | (simp; omega)))))⟩
theorem rLoad_any (s : Shape) (many at_ : Int) (w : World) :
    Calls Try.prog 14 #[.agg #[.int .i64 s.id, .int .i64 s.wide.lo, .int .i64 s.wide.hi, .int .i64 s.deep.lo, .int .i64 s.deep.hi, .int .i64 s.high.lo, .int .i64 s.high.hi, .int .i64 s.nest, .int .i64 s.weight.lo, .int .i64 s.weight.hi, .int .i64 s.bears], .int .i64 many, .int .i64 at_] w fun e w' =>
      e = .returned (.tuple #[.agg #[.int .i64 ((loadS s many at_).1.lo), .int .i64 ((loadS s many at_).1.hi)], .int .i64 ((loadS s many at_).2)]) ∧ Below w.heap.size w w' := by
  by_cases hs : pileErr s many = 0
  · obtain ⟨o3, o4, o5⟩ := pileErr_zero hs
    have n1 := o3.g1
    have n2 := o3.g2
    have n3 := o3.g3
    clear o3
    by_cases hi : inB at_ 0 (many - 1) = true
    · have HV : Hid (loadS s many at_ = (⟨(many - 1 - at_) * s.weight.lo, (many - 1 - at_) * s.weight.hi⟩, 0)) := by unfold Hid; simp [loadS, hs, hi]
      obtain ⟨a1, a2⟩ := inB_iff.1 hi
      obtain ⟨m1, m2⟩ := load_bound n1 (by omega : s.weight.lo ≤ 100000) a1 a2 o5
      obtain ⟨m3, m4⟩ := load_bound (by omega : 0 ≤ s.weight.hi) n3 a1 a2 o5
      go_enter Try.func14, Try.ntmps14
      go_wp2_with (first | (go_at_call 53; refine Calls.mono (rcheckPile_any s many _) ?_; rintro e w' ⟨rfl, hb⟩; ((first | (with_reducible have HB2 := Below.next HB hb) | (with_reducible have HB2 := Below.next (Below.nalloc HB _) hb) | have HB2 := hb); (try clear hc hf hz hz1 hz2 hn1 hn2); obtain ⟨hc, hf, hz, hz1, hz2, hn1, hn2⟩ := bcell3 HB2; (try clear HB); have HB := HB2; clear HB2; have hbk := hb; clear hb)) | (go_at_call 57; refine Calls.mono (rIn_any _ _ _ _) ?_; rintro e w' ⟨rfl, rfl⟩))
      exact (bodyPost_ret (v := .tuple #[.agg #[.int .i64 ((many - 1 - at_) * s.weight.lo), .int .i64 ((many - 1 - at_) * s.weight.hi)], .int .i64 0]) (by simp [results, Try.results14, go_sem, hc, hf]) rfl) ⟨by rw [HV.out], by (repeat (first | (with_reducible exact Below.refl _ _) | (with_reducible refine Below.nset ?_ ?_ _) | (with_reducible refine Below.nalloc ?_ _) | (with_reducible refine Below.ndrew ?_) | (with_reducible refine Below.ndrewN ?_ _) | (with_reducible refine Below.next ?_ (by assumption)) | (with_reducible refine Below.next ?_ (OldAs.below (by assumption))) | (focus (first | (simp; done) | (simp; omega)))))⟩
    · have hi' : inB at_ 0 (many - 1) = false := by simpa using hi
      have HV : Hid (loadS s many at_ = (zR, 1)) := by unfold Hid; simp [loadS, hs, hi']
      clear hi
      go_enter Try.func14, Try.ntmps14
      go_wp2_with (first | (go_at_call 53; refine Calls.mono (rcheckPile_any s many _) ?_; rintro e w' ⟨rfl, hb⟩; ((first | (with_reducible have HB2 := Below.next HB hb) | (with_reducible have HB2 := Below.next (Below.nalloc HB _) hb) | have HB2 := hb); (try clear hc hf hz hz1 hz2 hn1 hn2); obtain ⟨hc, hf, hz, hz1, hz2, hn1, hn2⟩ := bcell3 HB2; (try clear HB); have HB := HB2; clear HB2; have hbk := hb; clear hb)) | (go_at_call 57; refine Calls.mono (rIn_any _ _ _ _) ?_; rintro e w' ⟨rfl, rfl⟩))
      exact (bodyPost_ret (v := .tuple #[.agg #[.int .i64 0, .int .i64 0], .int .i64 1]) (by simp [results, Try.results14, go_sem, hc, hf]) rfl) ⟨by rw [HV.out]; rfl, by (repeat (first | (with_reducible exact Below.refl _ _) | (with_reducible refine Below.nset ?_ ?_ _) | (with_reducible refine Below.nalloc ?_ _) | (with_reducible refine Below.ndrew ?_) | (with_reducible refine Below.ndrewN ?_ _) | (with_reducible refine Below.next ?_ (by assumption)) | (with_reducible refine Below.next ?_ (OldAs.below (by assumption))) | (focus (first | (simp; done) | (simp; omega)))))⟩
  · have HV : Hid (loadS s many at_ = (zR, pileErr s many)) := by unfold Hid; simp [loadS, hs]
    go_enter Try.func14, Try.ntmps14
    go_wp2_with (first | (go_at_call 53; refine Calls.mono (rcheckPile_any s many _) ?_; rintro e w' ⟨rfl, hb⟩; ((first | (with_reducible have HB2 := Below.next HB hb) | (with_reducible have HB2 := Below.next (Below.nalloc HB _) hb) | have HB2 := hb); (try clear hc hf hz hz1 hz2 hn1 hn2); obtain ⟨hc, hf, hz, hz1, hz2, hn1, hn2⟩ := bcell3 HB2; (try clear HB); have HB := HB2; clear HB2; have hbk := hb; clear hb)))
    exact (bodyPost_ret (v := .tuple #[.agg #[.int .i64 0, .int .i64 0], .int .i64 (pileErr s many)]) (by simp [results, Try.results14, go_sem, hc, hf]) rfl) ⟨by rw [HV.out]; rfl, by (repeat (first | (with_reducible exact Below.refl _ _) | (with_reducible refine Below.nset ?_ ?_ _) | (with_reducible refine Below.nalloc ?_ _) | (with_reducible refine Below.ndrew ?_) | (with_reducible refine Below.ndrewN ?_ _) | (with_reducible refine Below.next ?_ (by assumption)) | (with_reducible refine Below.next ?_ (OldAs.below (by assumption))) | (focus (first | (simp; done) | (simp; omega)))))⟩
theorem rStands_any (s : Shape) (many : Int) (w : World) :
    Calls Try.prog 16 #[.agg #[.int .i64 s.id, .int .i64 s.wide.lo, .int .i64 s.wide.hi, .int .i64 s.deep.lo, .int .i64 s.deep.hi, .int .i64 s.high.lo, .int .i64 s.high.hi, .int .i64 s.nest, .int .i64 s.weight.lo, .int .i64 s.weight.hi, .int .i64 s.bears], .int .i64 many] w fun e w' =>
      e = .returned (.tuple #[.bool (standsS s many).1, .int .i64 ((standsS s many).2)]) ∧ Below w.heap.size w w' := by
  by_cases hs : pileErr s many = 0
  · have HV : Hid (standsS s many = (decide ((many - 1) * s.weight.hi ≤ s.bears), 0)) := by unfold Hid; simp [standsS, standsB, hs]
    obtain ⟨o3, o4, o5⟩ := pileErr_zero hs
    obtain ⟨m1, m2⟩ := load_bound (at_ := 0) (by have := o3.g1; have := o3.g2; omega : 0 ≤ s.weight.hi) o3.g3 (by omega) (by omega) o5
    simp only [Int.sub_zero] at m1 m2
    clear o3
    go_enter Try.func16, Try.ntmps16
    go_wp2_with (first | (go_at_call 53; refine Calls.mono (rcheckPile_any s many _) ?_; rintro e w' ⟨rfl, hb⟩; ((first | (with_reducible have HB2 := Below.next HB hb) | (with_reducible have HB2 := Below.next (Below.nalloc HB _) hb) | have HB2 := hb); (try clear hc hf hz hz1 hz2 hn1 hn2); obtain ⟨hc, hf, hz, hz1, hz2, hn1, hn2⟩ := bcell3 HB2; (try clear HB); have HB := HB2; clear HB2; have hbk := hb; clear hb)))
    all_goals (go_ret2; exact ⟨by rw [HV.out]; first | rfl | simp_all, by (repeat (first | (with_reducible exact Below.refl _ _) | (with_reducible refine Below.nset ?_ ?_ _) | (with_reducible refine Below.nalloc ?_ _) | (with_reducible refine Below.ndrew ?_) | (with_reducible refine Below.ndrewN ?_ _) | (with_reducible refine Below.next ?_ (by assumption)) | (with_reducible refine Below.next ?_ (OldAs.below (by assumption))) | (focus (first | (simp; done) | (simp; omega)))))⟩)
  · have HV : Hid (standsS s many = (false, pileErr s many)) := by unfold Hid; simp [standsS, hs]
    go_enter Try.func16, Try.ntmps16
    go_wp2_with (first | (go_at_call 53; refine Calls.mono (rcheckPile_any s many _) ?_; rintro e w' ⟨rfl, hb⟩; ((first | (with_reducible have HB2 := Below.next HB hb) | (with_reducible have HB2 := Below.next (Below.nalloc HB _) hb) | have HB2 := hb); (try clear hc hf hz hz1 hz2 hn1 hn2); obtain ⟨hc, hf, hz, hz1, hz2, hn1, hn2⟩ := bcell3 HB2; (try clear HB); have HB := HB2; clear HB2; have hbk := hb; clear hb)))
    go_ret2
    exact ⟨by rw [HV.out]; rfl, by (repeat (first | (with_reducible exact Below.refl _ _) | (with_reducible refine Below.nset ?_ ?_ _) | (with_reducible refine Below.nalloc ?_ _) | (with_reducible refine Below.ndrew ?_) | (with_reducible refine Below.ndrewN ?_ _) | (with_reducible refine Below.next ?_ (by assumption)) | (with_reducible refine Below.next ?_ (OldAs.below (by assumption))) | (focus (first | (simp; done) | (simp; omega)))))⟩
end Go.Proofs.Ytcgokimagimamaa
