
/- Layer 1, the program: piles. What each call answers. -/
import Derived.Test.YtcgokimagimamaaWareB
namespace Go.Proofs.Ytcgokimagimamaa
open Go.RowKit
attribute [local go_sem] errIf_true errIf_false
set_option maxHeartbeats 400000
set_option linter.unusedSimpArgs false
set_option linter.unusedVariables false
theorem Height1_any (high many nest : Int) (b1 b2 : Nat) (w : World) (hm : w.cell? ⟨b1, 0, none⟩ = some (.int .i64 many)) (hn : w.cell? ⟨b2, 7, none⟩ = some (.int .i64 nest))
    (h0 : 0 ≤ nest) (h1 : nest ≤ high) (h2 : high ≤ 2000) (h3 : 1 ≤ many) (h4 : many ≤ 40) :
    Calls Try.prog 51 #[.int .i64 high, .pointer (some ⟨b1, 0, none⟩), .pointer (some ⟨b2, 0, none⟩)] w fun e w' => e = .returned (.int .i64 (pileHigh high nest many)) ∧ w = w' := by
  obtain ⟨m1, m2⟩ := pile_bound h0 h1 h2 h3 h4
  go_enter Try.func51, Try.ntmps51
  go_wp2
  go_ret
  exact ⟨rfl, rfl⟩
theorem Height_any (s : Shape) (many : Int) (w : World) :
    Calls Try.prog 11 #[.agg #[.int .i64 s.id, .int .i64 s.wide.lo, .int .i64 s.wide.hi, .int .i64 s.deep.lo, .int .i64 s.deep.hi, .int .i64 s.high.lo, .int .i64 s.high.hi, .int .i64 s.nest, .int .i64 s.weight.lo, .int .i64 s.weight.hi, .int .i64 s.bears], .int .i64 many] w fun e w' =>
      e = .returned (.tuple #[.agg #[.int .i64 ((heightS s many).1.lo), .int .i64 ((heightS s many).1.hi)], .int .i64 ((heightS s many).2)]) ∧ Below w.heap.size w w' := by
  by_cases hs : pileErr s many = 0
  · have HV : Hid (heightS s many = (⟨pileHigh s.high.lo s.nest many, pileHigh s.high.hi s.nest many⟩, 0)) := by unfold Hid; simp [heightS, hs]
    obtain ⟨o1, o2⟩ : okShape s = true ∧ inB many 1 40 = true := by unfold pileErr at hs; split at hs <;> (try split at hs) <;> simp_all
    have o3 := okShape_iff.1 o1
    obtain ⟨o4, o5⟩ := inB_iff.1 o2
    have n1 := o3.n1
    have n2 := o3.n2
    have n3 := o3.h2
    have n4 := o3.h3
    clear o1 o2 o3
    go_enter Try.func11, Try.ntmps11
    go_wp2_with (first | (go_at_call 50; refine Calls.mono (checkPile_any s many _) ?_; rintro e w' ⟨rfl, hb⟩; ((first | (with_reducible have HB2 := Below.next HB hb) | (with_reducible have HB2 := Below.next (Below.nalloc HB _) hb) | have HB2 := hb); (try clear hc hf hz hz1 hz2 hn1 hn2); obtain ⟨hc, hf, hz, hz1, hz2, hn1, hn2⟩ := bcell3 HB2; (try clear HB); have HB := HB2; clear HB2; have hbk := hb; clear hb)))
    refine Calls.mono (turned_any _ _ (pileHigh s.high.lo s.nest many) (pileHigh s.high.hi s.nest many) _ _ _ _ _ (ent _ Try.func51 (by kernel_rfl) rfl) (ent _ Try.func51 (by kernel_rfl) rfl) ?_ ?_) ?_
    · clear hs
      intro w1 hB; simp only [List.append_toArray, List.cons_append, List.nil_append]; obtain ⟨hc2, hf2⟩ := bcell (Below.next HB hB)
      exact calls_eq (Height1_any _ many s.nest _ _ _ (by go_simp) (by go_simp) n1 n2 (by omega) o4 o5)
    · clear hs
      intro w1 hB; simp only [List.append_toArray, List.cons_append, List.nil_append]; obtain ⟨hc2, hf2⟩ := bcell (Below.next HB hB)
      exact calls_eq (Height1_any _ many s.nest _ _ _ (by go_simp) (by go_simp) n1 (by omega) (by omega) o4 o5)
    rintro e w' ⟨rfl, hb⟩
    ((first | (with_reducible have HB2 := Below.next HB hb) | (with_reducible have HB2 := Below.next (Below.nalloc HB _) hb) | have HB2 := hb); (try clear hc hf hz hz1 hz2 hn1 hn2); obtain ⟨hc, hf, hz, hz1, hz2, hn1, hn2⟩ := bcell3 HB2; (try clear HB); have HB := HB2; clear HB2; have hbk := hb; clear hb)
    go_wp2
    exact (bodyPost_ret (v := .tuple #[.agg #[.int .i64 (pileHigh s.high.lo s.nest many), .int .i64 (pileHigh s.high.hi s.nest many)], .int .i64 0]) (by simp [results, Try.results11, go_sem, hc, hf]) rfl) ⟨by rw [HV.out], by (repeat (first | (with_reducible exact Below.refl _ _) | (with_reducible refine Below.nset ?_ ?_ _) | (with_reducible refine Below.nalloc ?_ _) | (with_reducible refine Below.ndrew ?_) | (with_reducible refine Below.ndrewN ?_ _) | (with_reducible refine Below.next ?_ (by assumption)) | (with_reducible refine Below.next ?_ (OldAs.below (by assumption))) | (focus (first | (simp; done) | (simp; omega)))))⟩
  · have HV : Hid (heightS s many = (zR, pileErr s many)) := by unfold Hid; simp [heightS, hs]
    go_enter Try.func11, Try.ntmps11
    go_wp2_with (first | (go_at_call 50; refine Calls.mono (checkPile_any s many _) ?_; rintro e w' ⟨rfl, hb⟩; ((first | (with_reducible have HB2 := Below.next HB hb) | (with_reducible have HB2 := Below.next (Below.nalloc HB _) hb) | have HB2 := hb); (try clear hc hf hz hz1 hz2 hn1 hn2); obtain ⟨hc, hf, hz, hz1, hz2, hn1, hn2⟩ := bcell3 HB2; (try clear HB); have HB := HB2; clear HB2; have hbk := hb; clear hb)))
    exact (bodyPost_ret (v := .tuple #[.agg #[.int .i64 0, .int .i64 0], .int .i64 (pileErr s many)]) (by simp [results, Try.results11, go_sem, hc, hf]) rfl) ⟨by rw [HV.out]; rfl, by (repeat (first | (with_reducible exact Below.refl _ _) | (with_reducible refine Below.nset ?_ ?_ _) | (with_reducible refine Below.nalloc ?_ _) | (with_reducible refine Below.ndrew ?_) | (with_reducible refine Below.ndrewN ?_ _) | (with_reducible refine Below.next ?_ (by assumption)) | (with_reducible refine Below.next ?_ (OldAs.below (by assumption))) | (focus (first | (simp; done) | (simp; omega)))))⟩
theorem Load1_any (weight many at_ : Int) (b1 b2 : Nat) (w : World) (hm : w.cell? ⟨b1, 0, none⟩ = some (.int .i64 many)) (hn : w.cell? ⟨b2, 0, none⟩ = some (.int .i64 at_))
    (h0 : 0 ≤ weight) (h1 : weight ≤ 100000) (h2 : 0 ≤ at_) (h3 : at_ ≤ many - 1) (h4 : many ≤ 40) :
    Calls Try.prog 56 #[.int .i64 weight, .pointer (some ⟨b1, 0, none⟩), .pointer (some ⟨b2, 0, none⟩)] w fun e w' => e = .returned (.int .i64 ((many - 1 - at_) * weight)) ∧ w = w' := by
  obtain ⟨m1, m2⟩ := load_bound h0 h1 h2 h3 h4
  go_enter Try.func56, Try.ntmps56
  go_wp2
  go_ret
  exact ⟨rfl, rfl⟩
theorem Load_any (s : Shape) (many at_ : Int) (w : World) :
    Calls Try.prog 13 #[.agg #[.int .i64 s.id, .int .i64 s.wide.lo, .int .i64 s.wide.hi, .int .i64 s.deep.lo, .int .i64 s.deep.hi, .int .i64 s.high.lo, .int .i64 s.high.hi, .int .i64 s.nest, .int .i64 s.weight.lo, .int .i64 s.weight.hi, .int .i64 s.bears], .int .i64 many, .int .i64 at_] w fun e w' =>
      e = .returned (.tuple #[.agg #[.int .i64 ((loadS s many at_).1.lo), .int .i64 ((loadS s many at_).1.hi)], .int .i64 ((loadS s many at_).2)]) ∧ Below w.heap.size w w' := by
  by_cases hs : pileErr s many = 0
  · obtain ⟨o1, o2⟩ : okShape s = true ∧ inB many 1 40 = true := by unfold pileErr at hs; split at hs <;> (try split at hs) <;> simp_all
    have o3 := okShape_iff.1 o1
    obtain ⟨o4, o5⟩ := inB_iff.1 o2
    have n1 := o3.g1
    have n2 := o3.g2
    have n3 := o3.g3
    clear o1 o2 o3
    by_cases hi : inB at_ 0 (many - 1) = true
    · have HV : Hid (loadS s many at_ = (⟨(many - 1 - at_) * s.weight.lo, (many - 1 - at_) * s.weight.hi⟩, 0)) := by unfold Hid; simp [loadS, hs, hi]
      obtain ⟨a1, a2⟩ := inB_iff.1 hi
      go_enter Try.func13, Try.ntmps13
      go_wp2_with (first | (go_at_call 50; refine Calls.mono (checkPile_any s many _) ?_; rintro e w' ⟨rfl, hb⟩; ((first | (with_reducible have HB2 := Below.next HB hb) | (with_reducible have HB2 := Below.next (Below.nalloc HB _) hb) | have HB2 := hb); (try clear hc hf hz hz1 hz2 hn1 hn2); obtain ⟨hc, hf, hz, hz1, hz2, hn1, hn2⟩ := bcell3 HB2; (try clear HB); have HB := HB2; clear HB2; have hbk := hb; clear hb)) | (go_at_call 55; refine Calls.mono (isWithin_any _ _ _ _) ?_; rintro e w' ⟨rfl, rfl⟩))
      refine Calls.mono (turned_any _ _ ((many - 1 - at_) * s.weight.lo) ((many - 1 - at_) * s.weight.hi) _ _ _ _ _ (ent _ Try.func56 (by kernel_rfl) rfl) (ent _ Try.func56 (by kernel_rfl) rfl) ?_ ?_) ?_
      · clear hs
        intro w1 hB; simp only [List.append_toArray, List.cons_append, List.nil_append]; obtain ⟨hc2, hf2⟩ := bcell (Below.next HB hB)
        exact calls_eq (Load1_any _ many at_ _ _ _ (by go_simp) (by go_simp) n1 (by omega) a1 a2 o5)
      · clear hs
        intro w1 hB; simp only [List.append_toArray, List.cons_append, List.nil_append]; obtain ⟨hc2, hf2⟩ := bcell (Below.next HB hB)
        exact calls_eq (Load1_any _ many at_ _ _ _ (by go_simp) (by go_simp) (by omega) n3 a1 a2 o5)
      rintro e w' ⟨rfl, hb⟩
      ((first | (with_reducible have HB2 := Below.next HB hb) | (with_reducible have HB2 := Below.next (Below.nalloc HB _) hb) | have HB2 := hb); (try clear hc hf hz hz1 hz2 hn1 hn2); obtain ⟨hc, hf, hz, hz1, hz2, hn1, hn2⟩ := bcell3 HB2; (try clear HB); have HB := HB2; clear HB2; have hbk := hb; clear hb)
      go_wp2
      exact (bodyPost_ret (v := .tuple #[.agg #[.int .i64 ((many - 1 - at_) * s.weight.lo), .int .i64 ((many - 1 - at_) * s.weight.hi)], .int .i64 0]) (by simp [results, Try.results13, go_sem, hc, hf]) rfl) ⟨by rw [HV.out], by (repeat (first | (with_reducible exact Below.refl _ _) | (with_reducible refine Below.nset ?_ ?_ _) | (with_reducible refine Below.nalloc ?_ _) | (with_reducible refine Below.ndrew ?_) | (with_reducible refine Below.ndrewN ?_ _) | (with_reducible refine Below.next ?_ (by assumption)) | (with_reducible refine Below.next ?_ (OldAs.below (by assumption))) | (focus (first | (simp; done) | (simp; omega)))))⟩
    · have hi' : inB at_ 0 (many - 1) = false := by simpa using hi
      have HV : Hid (loadS s many at_ = (zR, 1)) := by unfold Hid; simp [loadS, hs, hi']
      clear hi
      go_enter Try.func13, Try.ntmps13
      go_wp2_with (first | (go_at_call 50; refine Calls.mono (checkPile_any s many _) ?_; rintro e w' ⟨rfl, hb⟩; ((first | (with_reducible have HB2 := Below.next HB hb) | (with_reducible have HB2 := Below.next (Below.nalloc HB _) hb) | have HB2 := hb); (try clear hc hf hz hz1 hz2 hn1 hn2); obtain ⟨hc, hf, hz, hz1, hz2, hn1, hn2⟩ := bcell3 HB2; (try clear HB); have HB := HB2; clear HB2; have hbk := hb; clear hb)) | (go_at_call 55; refine Calls.mono (isWithin_any _ _ _ _) ?_; rintro e w' ⟨rfl, rfl⟩))
      exact (bodyPost_ret (v := .tuple #[.agg #[.int .i64 0, .int .i64 0], .int .i64 1]) (by simp [results, Try.results13, go_sem, hc, hf]) rfl) ⟨by rw [HV.out]; rfl, by (repeat (first | (with_reducible exact Below.refl _ _) | (with_reducible refine Below.nset ?_ ?_ _) | (with_reducible refine Below.nalloc ?_ _) | (with_reducible refine Below.ndrew ?_) | (with_reducible refine Below.ndrewN ?_ _) | (with_reducible refine Below.next ?_ (by assumption)) | (with_reducible refine Below.next ?_ (OldAs.below (by assumption))) | (focus (first | (simp; done) | (simp; omega)))))⟩
  · have HV : Hid (loadS s many at_ = (zR, pileErr s many)) := by unfold Hid; simp [loadS, hs]
    go_enter Try.func13, Try.ntmps13
    go_wp2_with (first | (go_at_call 50; refine Calls.mono (checkPile_any s many _) ?_; rintro e w' ⟨rfl, hb⟩; ((first | (with_reducible have HB2 := Below.next HB hb) | (with_reducible have HB2 := Below.next (Below.nalloc HB _) hb) | have HB2 := hb); (try clear hc hf hz hz1 hz2 hn1 hn2); obtain ⟨hc, hf, hz, hz1, hz2, hn1, hn2⟩ := bcell3 HB2; (try clear HB); have HB := HB2; clear HB2; have hbk := hb; clear hb)))
    exact (bodyPost_ret (v := .tuple #[.agg #[.int .i64 0, .int .i64 0], .int .i64 (pileErr s many)]) (by simp [results, Try.results13, go_sem, hc, hf]) rfl) ⟨by rw [HV.out]; rfl, by (repeat (first | (with_reducible exact Below.refl _ _) | (with_reducible refine Below.nset ?_ ?_ _) | (with_reducible refine Below.nalloc ?_ _) | (with_reducible refine Below.ndrew ?_) | (with_reducible refine Below.ndrewN ?_ _) | (with_reducible refine Below.next ?_ (by assumption)) | (with_reducible refine Below.next ?_ (OldAs.below (by assumption))) | (focus (first | (simp; done) | (simp; omega)))))⟩
end Go.Proofs.Ytcgokimagimamaa
