
/- Layer 1, the reference: moulds, fired shapes, the greatest pile. What each call answers. -/
import Derived.Test.YtcgokimagimamaaRefB
namespace Go.Proofs.Ytcgokimagimamaa
open Go.RowKit
attribute [local go_sem] errIf_true errIf_false
set_option maxHeartbeats 400000
set_option linter.unusedSimpArgs false
set_option linter.unusedVariables false
theorem rMould_any (b : Body) (dry : Rng) (w : World) :
    Calls Try.prog 32 #[.agg #[.int .i64 b.id, .int .i64 b.shrink.lo, .int .i64 b.shrink.hi, .int .i64 b.loss.lo, .int .i64 b.loss.hi, .int .i64 b.heat.lo, .int .i64 b.heat.hi], .agg #[.int .i64 dry.lo, .int .i64 dry.hi]] w fun e w' =>
      e = .returned (.tuple #[.agg #[.int .i64 ((mouldS b dry).1.lo), .int .i64 ((mouldS b dry).1.hi)], .int .i64 ((mouldS b dry).2)]) ∧ Below w.heap.size w w' := by
  by_cases hb : okBody b = true
  · by_cases hp : partB dry.lo dry.hi 0 2000 = true
    · have HV : Hid (mouldS b dry = if mouldLo b dry > mouldHi b dry then (zR, 3) else (⟨mouldLo b dry, mouldHi b dry⟩, 0)) := by unfold Hid; exact mouldS_eq b dry hb hp
      have hbo := okBody_iff.1 hb
      obtain ⟨p1, p2, p3⟩ := partB_iff.1 hp
      have g1 := hbo.s1
      have g2 := hbo.s2
      have g3 := hbo.s3
      have HL : Hid (upDiv (1000 * dry.lo) (1000 - b.shrink.hi) = mouldLo b dry) := rfl
      have HH : Hid (min (1000 * dry.hi / (1000 - b.shrink.lo)) 2000 = mouldHi b dry) := rfl
      have HU := hidI (fun W : World => Up_any (1000 * dry.lo) (1000 - b.shrink.hi) W (by omega) (by omega) (by omega) (by omega))
      have HD := hidI (fun W : World => Down_any (1000 * dry.hi) (1000 - b.shrink.lo) W (by omega) (by omega) (by omega) (by omega))
      generalize upDiv (1000 * dry.lo) (1000 - b.shrink.hi) = lo at *
      generalize 1000 * dry.hi / (1000 - b.shrink.lo) = hi at *
      clear hbo
      by_cases hq : hi ≤ 2000
      · have HM : Hid (mouldHi b dry = hi) := by unfold Hid at *; rw [← HH]; omega
        clear HH
        go_enter Try.func32, Try.ntmps32
        go_wp2_with (first | (go_at_call 46; refine Calls.mono (rCheckBody_any b _) ?_; rintro e w' ⟨rfl, hb⟩; ((first | (with_reducible have HB2 := Below.next HB hb) | (with_reducible have HB2 := Below.next (Below.nalloc HB _) hb) | have HB2 := hb); (try clear hc hf hz hz1 hz2 hn1 hn2); obtain ⟨hc, hf, hz, hz1, hz2, hn1, hn2⟩ := bcell3 HB2; (try clear HB); have HB := HB2; clear HB2; have hbk := hb; clear hb)) | (go_at_call 65; refine Calls.mono (rPart_any _ _ _ _ _) ?_; rintro e w' ⟨rfl, hb⟩; ((first | (with_reducible have HB2 := Below.next HB hb) | (with_reducible have HB2 := Below.next (Below.nalloc HB _) hb) | have HB2 := hb); (try clear hc hf hz hz1 hz2 hn1 hn2); obtain ⟨hc, hf, hz, hz1, hz2, hn1, hn2⟩ := bcell3 HB2; (try clear HB); have HB := HB2; clear HB2; have hbk := hb; clear hb)) | (go_at_call 35; refine Calls.mono (HU.out _) ?_; rintro e w' ⟨rfl, rfl⟩) | (go_at_call 34; refine Calls.mono (HD.out _) ?_; rintro e w' ⟨rfl, rfl⟩))
        · exact (bodyPost_ret (v := .tuple #[.agg #[.int .i64 0, .int .i64 0], .int .i64 3]) (by simp [results, Try.results32, go_sem, hc, hf]) rfl) ⟨by rw [HV.out, ← HL.out, HM.out, if_pos (by omega)]; rfl, by (repeat (first | (with_reducible exact Below.refl _ _) | (with_reducible refine Below.nset ?_ ?_ _) | (with_reducible refine Below.nalloc ?_ _) | (with_reducible refine Below.ndrew ?_) | (with_reducible refine Below.ndrewN ?_ _) | (with_reducible refine Below.next ?_ (by assumption)) | (with_reducible refine Below.next ?_ (OldAs.below (by assumption))) | (focus (first | (simp; done) | (simp; omega)))))⟩
        · exact (bodyPost_ret (v := .tuple #[.agg #[.int .i64 lo, .int .i64 hi], .int .i64 0]) (by simp [results, Try.results32, go_sem, hc, hf]) rfl) ⟨by rw [HV.out, ← HL.out, HM.out, if_neg (by omega)], by (repeat (first | (with_reducible exact Below.refl _ _) | (with_reducible refine Below.nset ?_ ?_ _) | (with_reducible refine Below.nalloc ?_ _) | (with_reducible refine Below.ndrew ?_) | (with_reducible refine Below.ndrewN ?_ _) | (with_reducible refine Below.next ?_ (by assumption)) | (with_reducible refine Below.next ?_ (OldAs.below (by assumption))) | (focus (first | (simp; done) | (simp; omega)))))⟩
      · have HM : Hid (mouldHi b dry = 2000) := by unfold Hid at *; rw [← HH]; omega
        clear HH
        go_enter Try.func32, Try.ntmps32
        go_wp2_with (first | (go_at_call 46; refine Calls.mono (rCheckBody_any b _) ?_; rintro e w' ⟨rfl, hb⟩; ((first | (with_reducible have HB2 := Below.next HB hb) | (with_reducible have HB2 := Below.next (Below.nalloc HB _) hb) | have HB2 := hb); (try clear hc hf hz hz1 hz2 hn1 hn2); obtain ⟨hc, hf, hz, hz1, hz2, hn1, hn2⟩ := bcell3 HB2; (try clear HB); have HB := HB2; clear HB2; have hbk := hb; clear hb)) | (go_at_call 65; refine Calls.mono (rPart_any _ _ _ _ _) ?_; rintro e w' ⟨rfl, hb⟩; ((first | (with_reducible have HB2 := Below.next HB hb) | (with_reducible have HB2 := Below.next (Below.nalloc HB _) hb) | have HB2 := hb); (try clear hc hf hz hz1 hz2 hn1 hn2); obtain ⟨hc, hf, hz, hz1, hz2, hn1, hn2⟩ := bcell3 HB2; (try clear HB); have HB := HB2; clear HB2; have hbk := hb; clear hb)) | (go_at_call 35; refine Calls.mono (HU.out _) ?_; rintro e w' ⟨rfl, rfl⟩) | (go_at_call 34; refine Calls.mono (HD.out _) ?_; rintro e w' ⟨rfl, rfl⟩))
        · exact (bodyPost_ret (v := .tuple #[.agg #[.int .i64 0, .int .i64 0], .int .i64 3]) (by simp [results, Try.results32, go_sem, hc, hf]) rfl) ⟨by rw [HV.out, ← HL.out, HM.out, if_pos (by omega)]; rfl, by (repeat (first | (with_reducible exact Below.refl _ _) | (with_reducible refine Below.nset ?_ ?_ _) | (with_reducible refine Below.nalloc ?_ _) | (with_reducible refine Below.ndrew ?_) | (with_reducible refine Below.ndrewN ?_ _) | (with_reducible refine Below.next ?_ (by assumption)) | (with_reducible refine Below.next ?_ (OldAs.below (by assumption))) | (focus (first | (simp; done) | (simp; omega)))))⟩
        · exact (bodyPost_ret (v := .tuple #[.agg #[.int .i64 lo, .int .i64 2000], .int .i64 0]) (by simp [results, Try.results32, go_sem, hc, hf]) rfl) ⟨by rw [HV.out, ← HL.out, HM.out, if_neg (by omega)], by (repeat (first | (with_reducible exact Below.refl _ _) | (with_reducible refine Below.nset ?_ ?_ _) | (with_reducible refine Below.nalloc ?_ _) | (with_reducible refine Below.ndrew ?_) | (with_reducible refine Below.ndrewN ?_ _) | (with_reducible refine Below.next ?_ (by assumption)) | (with_reducible refine Below.next ?_ (OldAs.below (by assumption))) | (focus (first | (simp; done) | (simp; omega)))))⟩
    · have hp' : partB dry.lo dry.hi 0 2000 = false := by simpa using hp
      have HV : Hid (mouldS b dry = (zR, 1)) := by unfold Hid; simp [mouldS, hb, partR, hp']
      clear hp
      go_enter Try.func32, Try.ntmps32
      go_wp2_with (first | (go_at_call 46; refine Calls.mono (rCheckBody_any b _) ?_; rintro e w' ⟨rfl, hb⟩; ((first | (with_reducible have HB2 := Below.next HB hb) | (with_reducible have HB2 := Below.next (Below.nalloc HB _) hb) | have HB2 := hb); (try clear hc hf hz hz1 hz2 hn1 hn2); obtain ⟨hc, hf, hz, hz1, hz2, hn1, hn2⟩ := bcell3 HB2; (try clear HB); have HB := HB2; clear HB2; have hbk := hb; clear hb)) | (go_at_call 65; refine Calls.mono (rPart_any _ _ _ _ _) ?_; rintro e w' ⟨rfl, hb⟩; ((first | (with_reducible have HB2 := Below.next HB hb) | (with_reducible have HB2 := Below.next (Below.nalloc HB _) hb) | have HB2 := hb); (try clear hc hf hz hz1 hz2 hn1 hn2); obtain ⟨hc, hf, hz, hz1, hz2, hn1, hn2⟩ := bcell3 HB2; (try clear HB); have HB := HB2; clear HB2; have hbk := hb; clear hb)))
      exact (bodyPost_ret (v := .tuple #[.agg #[.int .i64 0, .int .i64 0], .int .i64 1]) (by simp [results, Try.results32, go_sem, hc, hf]) rfl) ⟨by rw [HV.out]; rfl, by (repeat (first | (with_reducible exact Below.refl _ _) | (with_reducible refine Below.nset ?_ ?_ _) | (with_reducible refine Below.nalloc ?_ _) | (with_reducible refine Below.ndrew ?_) | (with_reducible refine Below.ndrewN ?_ _) | (with_reducible refine Below.next ?_ (by assumption)) | (with_reducible refine Below.next ?_ (OldAs.below (by assumption))) | (focus (first | (simp; done) | (simp; omega)))))⟩
  · have hb' : okBody b = false := by simpa using hb
    have HV : Hid (mouldS b dry = (zR, 11)) := by unfold Hid; simp [mouldS, hb']
    clear hb
    go_enter Try.func32, Try.ntmps32
    go_wp2_with (first | (go_at_call 46; refine Calls.mono (rCheckBody_any b _) ?_; rintro e w' ⟨rfl, hb⟩; ((first | (with_reducible have HB2 := Below.next HB hb) | (with_reducible have HB2 := Below.next (Below.nalloc HB _) hb) | have HB2 := hb); (try clear hc hf hz hz1 hz2 hn1 hn2); obtain ⟨hc, hf, hz, hz1, hz2, hn1, hn2⟩ := bcell3 HB2; (try clear HB); have HB := HB2; clear HB2; have hbk := hb; clear hb)))
    exact (bodyPost_ret (v := .tuple #[.agg #[.int .i64 0, .int .i64 0], .int .i64 11]) (by simp [results, Try.results32, go_sem, hc, hf]) rfl) ⟨by rw [HV.out]; rfl, by (repeat (first | (with_reducible exact Below.refl _ _) | (with_reducible refine Below.nset ?_ ?_ _) | (with_reducible refine Below.nalloc ?_ _) | (with_reducible refine Below.ndrew ?_) | (with_reducible refine Below.ndrewN ?_ _) | (with_reducible refine Below.next ?_ (by assumption)) | (with_reducible refine Below.next ?_ (OldAs.below (by assumption))) | (focus (first | (simp; done) | (simp; omega)))))⟩
set_option maxRecDepth 100000 in
set_option maxHeartbeats 1000000 in
theorem rFired_any (s : Shape) (b : Body) (w : World) :
    Calls Try.prog 33 #[.agg #[.int .i64 s.id, .int .i64 s.wide.lo, .int .i64 s.wide.hi, .int .i64 s.deep.lo, .int .i64 s.deep.hi, .int .i64 s.high.lo, .int .i64 s.high.hi, .int .i64 s.nest, .int .i64 s.weight.lo, .int .i64 s.weight.hi, .int .i64 s.bears], .agg #[.int .i64 b.id, .int .i64 b.shrink.lo, .int .i64 b.shrink.hi, .int .i64 b.loss.lo, .int .i64 b.loss.hi, .int .i64 b.heat.lo, .int .i64 b.heat.hi]] w fun e w' =>
      e = .returned (.tuple #[.agg #[.int .i64 (firedSS s b).1.id, .int .i64 (firedSS s b).1.wide.lo, .int .i64 (firedSS s b).1.wide.hi, .int .i64 (firedSS s b).1.deep.lo, .int .i64 (firedSS s b).1.deep.hi, .int .i64 (firedSS s b).1.high.lo, .int .i64 (firedSS s b).1.high.hi, .int .i64 (firedSS s b).1.nest, .int .i64 (firedSS s b).1.weight.lo, .int .i64 (firedSS s b).1.weight.hi, .int .i64 (firedSS s b).1.bears], .int .i64 ((firedSS s b).2)]) ∧ Below w.heap.size w w' := by
  by_cases hs : okShape s = true
  · by_cases hb : okBody b = true
    · have HV : Hid (firedSS s b = (firedShape s b, 0)) := by unfold Hid; simp [firedSS, hs, hb]
      obtain ⟨a1, a2, a3, a4, a5, a6, a7, a8, a9, a10, a11, a12, a13, a14, a15, a16, a17, a18⟩ := okShape_iff.1 hs
      obtain ⟨b1, b2, b3, b4, b5, b6, b7, b8, b9, b10, b11⟩ := okBody_iff.1 hb
      obtain ⟨m1, m2⟩ := mul_bound (N := 2000) a12 (by omega) (by omega : 0 ≤ b.shrink.hi) (by omega)
      go_enter Try.func33, Try.ntmps33
      go_wp2_with (first | (go_at_call 42; refine Calls.mono (rCheckShape_any s _) ?_; rintro e w' ⟨rfl, hb⟩; ((first | (with_reducible have HB2 := Below.next HB hb) | (with_reducible have HB2 := Below.next (Below.nalloc HB _) hb) | have HB2 := hb); (try clear hc hf hz hz1 hz2 hn1 hn2); obtain ⟨hc, hf, hz, hz1, hz2, hn1, hn2⟩ := bcell3 HB2; (try clear HB); have HB := HB2; clear HB2; have hbk := hb; clear hb)) | (go_at_call 46; refine Calls.mono (rCheckBody_any b _) ?_; rintro e wB ⟨rfl, hb⟩; have hd := (bcell3 hb).1; have hg := (bcell3 hb).2.1; have g0 : w.heap.size + 1 + 1 < w'.heap.size ∧ w.heap.size + 1 + 1 < wB.heap.size := (by have q := HB.size; have q2 := hb.size; simp only [World.size_alloc] at q; omega); have g1 : w.heap.size + 1 < w'.heap.size ∧ w.heap.size + 1 < wB.heap.size := (by omega); have g2 : w.heap.size < w'.heap.size ∧ w.heap.size < wB.heap.size := (by omega); obtain ⟨g3, g4⟩ := g0; obtain ⟨g5, g6⟩ := g1; obtain ⟨g7, g8⟩ := g2) | ((go_at_call 66; refine Calls.mono (rbecomes_ints _ _ _ _ _ (by omega) (by omega) (by omega) (by omega) (by omega) (by omega)) ?_; rintro e w' ⟨rfl, hb⟩; have hd := (bcell3 hb).1; have hg := (bcell3 hb).2.1); (have : w.heap.size < w'.heap.size := by (have hq := hb.size; (try simp only [World.size_alloc, World.size_setCell] at hq); omega)); (have : w.heap.size + 1 < w'.heap.size := by (have hq := hb.size; (try simp only [World.size_alloc, World.size_setCell] at hq); omega)); (have : w.heap.size + 1 + 1 < w'.heap.size := by (have hq := hb.size; (try simp only [World.size_alloc, World.size_setCell] at hq); omega)); (have : wB.heap.size < w'.heap.size := by (have hq := hb.size; (try simp only [World.size_alloc, World.size_setCell] at hq); omega))) | (go_at_call 34; refine Calls.mono (Down_any _ 1000 _ (by omega) (by omega) (by omega) (by omega)) ?_; rintro e w' ⟨rfl, rfl⟩))
      exact (bodyPost_ret (v := .tuple #[.agg #[.int .i64 (firedShape s b).id, .int .i64 (firedShape s b).wide.lo, .int .i64 (firedShape s b).wide.hi, .int .i64 (firedShape s b).deep.lo, .int .i64 (firedShape s b).deep.hi, .int .i64 (firedShape s b).high.lo, .int .i64 (firedShape s b).high.hi, .int .i64 (firedShape s b).nest, .int .i64 (firedShape s b).weight.lo, .int .i64 (firedShape s b).weight.hi, .int .i64 (firedShape s b).bears], .int .i64 0]) (by simp only [results, Try.results33]; go_simp; (repeat' constructor)) rfl) ⟨by rw [HV.out], by (repeat (first | (with_reducible exact Below.refl _ _) | (with_reducible refine Below.nset ?_ ?_ _) | (with_reducible refine Below.nalloc ?_ _) | (with_reducible refine Below.ndrew ?_) | (with_reducible refine Below.ndrewN ?_ _) | (with_reducible refine Below.next ?_ (by assumption)) | (with_reducible refine Below.next ?_ (OldAs.below (by assumption))) | (focus (first | (simp; done) | (simp; omega)))))⟩
    · have hb' : okBody b = false := by simpa using hb
      have HV : Hid (firedSS s b = (zShape, 11)) := by unfold Hid; simp [firedSS, hs, hb']
      clear hb
      go_enter Try.func33, Try.ntmps33
      go_wp2_with (first | (go_at_call 42; refine Calls.mono (rCheckShape_any s _) ?_; rintro e w' ⟨rfl, hb⟩; ((first | (with_reducible have HB2 := Below.next HB hb) | (with_reducible have HB2 := Below.next (Below.nalloc HB _) hb) | have HB2 := hb); (try clear hc hf hz hz1 hz2 hn1 hn2); obtain ⟨hc, hf, hz, hz1, hz2, hn1, hn2⟩ := bcell3 HB2; (try clear HB); have HB := HB2; clear HB2; have hbk := hb; clear hb)) | (go_at_call 46; refine Calls.mono (rCheckBody_any b _) ?_; rintro e w' ⟨rfl, hb⟩; ((first | (with_reducible have HB2 := Below.next HB hb) | (with_reducible have HB2 := Below.next (Below.nalloc HB _) hb) | have HB2 := hb); (try clear hc hf hz hz1 hz2 hn1 hn2); obtain ⟨hc, hf, hz, hz1, hz2, hn1, hn2⟩ := bcell3 HB2; (try clear HB); have HB := HB2; clear HB2; have hbk := hb; clear hb)))
      exact (bodyPost_ret (v := .tuple #[.agg #[.int .i64 zShape.id, .int .i64 zShape.wide.lo, .int .i64 zShape.wide.hi, .int .i64 zShape.deep.lo, .int .i64 zShape.deep.hi, .int .i64 zShape.high.lo, .int .i64 zShape.high.hi, .int .i64 zShape.nest, .int .i64 zShape.weight.lo, .int .i64 zShape.weight.hi, .int .i64 zShape.bears], .int .i64 11]) (by simp [results, Try.results33, go_sem, hc, hf, zShape, zR]) rfl) ⟨by rw [HV.out], by (repeat (first | (with_reducible exact Below.refl _ _) | (with_reducible refine Below.nset ?_ ?_ _) | (with_reducible refine Below.nalloc ?_ _) | (with_reducible refine Below.ndrew ?_) | (with_reducible refine Below.ndrewN ?_ _) | (with_reducible refine Below.next ?_ (by assumption)) | (with_reducible refine Below.next ?_ (OldAs.below (by assumption))) | (focus (first | (simp; done) | (simp; omega)))))⟩
  · have hs' : okShape s = false := by simpa using hs
    have HV : Hid (firedSS s b = (zShape, 10)) := by unfold Hid; simp [firedSS, hs']
    clear hs
    go_enter Try.func33, Try.ntmps33
    go_wp2_with (first | (go_at_call 42; refine Calls.mono (rCheckShape_any s _) ?_; rintro e w' ⟨rfl, hb⟩; ((first | (with_reducible have HB2 := Below.next HB hb) | (with_reducible have HB2 := Below.next (Below.nalloc HB _) hb) | have HB2 := hb); (try clear hc hf hz hz1 hz2 hn1 hn2); obtain ⟨hc, hf, hz, hz1, hz2, hn1, hn2⟩ := bcell3 HB2; (try clear HB); have HB := HB2; clear HB2; have hbk := hb; clear hb)))
    exact (bodyPost_ret (v := .tuple #[.agg #[.int .i64 zShape.id, .int .i64 zShape.wide.lo, .int .i64 zShape.wide.hi, .int .i64 zShape.deep.lo, .int .i64 zShape.deep.hi, .int .i64 zShape.high.lo, .int .i64 zShape.high.hi, .int .i64 zShape.nest, .int .i64 zShape.weight.lo, .int .i64 zShape.weight.hi, .int .i64 zShape.bears], .int .i64 10]) (by simp [results, Try.results33, go_sem, hc, hf, zShape, zR]) rfl) ⟨by rw [HV.out], by (repeat (first | (with_reducible exact Below.refl _ _) | (with_reducible refine Below.nset ?_ ?_ _) | (with_reducible refine Below.nalloc ?_ _) | (with_reducible refine Below.ndrew ?_) | (with_reducible refine Below.ndrewN ?_ _) | (with_reducible refine Below.next ?_ (by assumption)) | (with_reducible refine Below.next ?_ (OldAs.below (by assumption))) | (focus (first | (simp; done) | (simp; omega)))))⟩
theorem mostFrom_succ (p : Int → Bool) (k : Nat) : mostFrom p (k + 1) = if p ((k : Int) + 1) then (k : Int) + 1 else mostFrom p k := by simp [mostFrom]
set_option maxRecDepth 100000 in
theorem rMost_any (s : Shape) (high : Int) (w : World) :
    Calls Try.prog 18 #[.agg #[.int .i64 s.id, .int .i64 s.wide.lo, .int .i64 s.wide.hi, .int .i64 s.deep.lo, .int .i64 s.deep.hi, .int .i64 s.high.lo, .int .i64 s.high.hi, .int .i64 s.nest, .int .i64 s.weight.lo, .int .i64 s.weight.hi, .int .i64 s.bears], .int .i64 high] w fun e w' =>
      e = .returned (.tuple #[.int .i64 ((mostS s high).1), .int .i64 ((mostS s high).2)]) ∧ Below w.heap.size w w' := by
  by_cases hs : okShape s = true
  · have HV : Hid (mostS s high = if mostFrom (fitsPile s high) 40 = 0 then (0, 3) else (mostFrom (fitsPile s high) 40, 0)) := by unfold Hid; simp [mostS, hs]
    have ho := okShape_iff.1 hs
    have g0 : 0 ≤ s.weight.hi := by have := ho.g1; have := ho.g2; omega
    have g1 := ho.g3
    have hfld : ∀ (a b : Value) (W : World), (Instr.field 23 (.agg #[a, b]) 1).run Try.prog W = .ok b W := fun _ _ _ => by kernel_rfl
    go_enter Try.func18, Try.ntmps18
    go_wp2_with (first | (go_at_call 42; refine Calls.mono (rCheckShape_any s _) ?_; rintro e w' ⟨rfl, hb⟩; ((first | (with_reducible have HB2 := Below.next HB hb) | (with_reducible have HB2 := Below.next (Below.nalloc HB _) hb) | have HB2 := hb); (try clear hc hf hz hz1 hz2 hn1 hn2); obtain ⟨hc, hf, hz, hz1, hz2, hn1, hn2⟩ := bcell3 HB2; (try clear HB); have HB := HB2; clear HB2; have hbk := hb; clear hb)))
    have HW : Below w.heap.size w w' := by (repeat (first | (with_reducible exact Below.refl _ _) | (with_reducible refine Below.nset ?_ ?_ _) | (with_reducible refine Below.nalloc ?_ _) | (with_reducible refine Below.ndrew ?_) | (with_reducible refine Below.ndrewN ?_ _) | (with_reducible refine Below.next ?_ (by assumption)) | (with_reducible refine Below.next ?_ (OldAs.below (by assumption))) | (focus (first | (simp; done) | (simp; omega)))))
    clear hs hc hf hz hz1 hz2 hn1 hn2
    go_loopw [6, 7] (fun most n wr => ∃ (k : Nat) (m : Int), k ≤ 40 ∧ n = .int .i64 ((k : Int) + 1) ∧ most = .int .i64 m ∧ 0 ≤ m ∧ Hid (m = mostFrom (fitsPile s high) k) ∧ Below w'.heap.size w' wr) (fun _ n _ => 41 - (intOf n).toNat)
    case atStart => exact ⟨0, 0, by omega, rfl, rfl, by omega, rfl, Below.refl _ _⟩
    case round =>
      obtain ⟨k, m, hk, rfl, rfl, hm0, hm, hR⟩ := hrel
      (have HB2 := Below.next HB hR; clear HB; have HB := HB2; clear HB2; have hR2 := hR; clear hR; obtain ⟨hc, hf, hz, hz1, hz2, hn1, hn2⟩ := bcell3 HB)
      by_cases hlt : k < 40
      · have hl := load_bound (many := (k : Int) + 1) (at_ := 0) g0 g1 (by omega) (by omega) (by omega)
        have e1 : ((k : Int) + 1 - 1 - 0) * s.weight.hi = (k : Int) * s.weight.hi := by congr 1; omega
        rw [e1] at hl
        obtain ⟨l1, l2⟩ := hl
        have HN := hidI (mostFrom_succ (fitsPile s high) k)
        have HF : Hid (fitsPile s high ((k : Int) + 1) = (decide ((k : Int) * s.weight.hi ≤ s.bears) && decide (pileHigh s.high.hi s.nest ((k : Int) + 1) ≤ high))) := by
          unfold Hid fitsPile standsB
          have : ((k : Int) + 1 - 1) * s.weight.hi = (k : Int) * s.weight.hi := by congr 1; omega
          rw [this]
        have HH := hidI (fun W : World => rheight_any s ((k : Int) + 1) W ho (by omega) (by omega))
        clear ho e1
        generalize pileHigh s.high.hi s.nest ((k : Int) + 1) = ph at *
        by_cases hb : (k : Int) * s.weight.hi ≤ s.bears
        · by_cases hp : ph ≤ high
          · have HM : Hid ((k : Int) + 1 = mostFrom (fitsPile s high) (k + 1)) := by unfold Hid at *; rw [HN, HF, if_pos (by simp [hb, hp])]
            go_wp2_with (first | (go_at_call 54; refine Calls.mono (HH.out _) ?_; rintro e w' ⟨rfl, hb⟩; ((first | (with_reducible have HB2 := Below.next HB hb) | (with_reducible have HB2 := Below.next (Below.nalloc HB _) hb) | have HB2 := hb); (try clear hc hf hz hz1 hz2 hn1 hn2); obtain ⟨hc, hf, hz, hz1, hz2, hn1, hn2⟩ := bcell3 HB2; (try clear HB); have HB := HB2; clear HB2; have hbk := hb; clear hb)))
            go_roundw
            case rel => exact ⟨k + 1, (k : Int) + 1, by omega, by go_num, rfl, by omega, HM, by (repeat (first | (with_reducible exact Below.refl _ _) | (with_reducible refine Below.nset ?_ ?_ _) | (with_reducible refine Below.nalloc ?_ _) | (with_reducible refine Below.ndrew ?_) | (with_reducible refine Below.ndrewN ?_ _) | (with_reducible refine Below.next ?_ (by assumption)) | (with_reducible refine Below.next ?_ (OldAs.below (by assumption))) | (focus (first | (simp; done) | (simp; omega)))))⟩
            case measure => first | (simp [intOf]; done) | (simp [intOf]; omega)
          · have HM : Hid (m = mostFrom (fitsPile s high) (k + 1)) := by unfold Hid at *; rw [HN, HF, if_neg (by simp; omega)]; exact hm
            go_wp2_with (first | (go_at_call 54; refine Calls.mono (HH.out _) ?_; rintro e w' ⟨rfl, hb⟩; ((first | (with_reducible have HB2 := Below.next HB hb) | (with_reducible have HB2 := Below.next (Below.nalloc HB _) hb) | have HB2 := hb); (try clear hc hf hz hz1 hz2 hn1 hn2); obtain ⟨hc, hf, hz, hz1, hz2, hn1, hn2⟩ := bcell3 HB2; (try clear HB); have HB := HB2; clear HB2; have hbk := hb; clear hb)))
            go_roundw
            case rel => exact ⟨k + 1, m, by omega, by go_num, rfl, by omega, HM, by (repeat (first | (with_reducible exact Below.refl _ _) | (with_reducible refine Below.nset ?_ ?_ _) | (with_reducible refine Below.nalloc ?_ _) | (with_reducible refine Below.ndrew ?_) | (with_reducible refine Below.ndrewN ?_ _) | (with_reducible refine Below.next ?_ (by assumption)) | (with_reducible refine Below.next ?_ (OldAs.below (by assumption))) | (focus (first | (simp; done) | (simp; omega)))))⟩
            case measure => first | (simp [intOf]; done) | (simp [intOf]; omega)
        · have HM : Hid (m = mostFrom (fitsPile s high) (k + 1)) := by unfold Hid at *; rw [HN, HF, if_neg (by simp; omega)]; exact hm
          go_wp2_with (first | (go_at_call 54; refine Calls.mono (HH.out _) ?_; rintro e w' ⟨rfl, hb⟩; ((first | (with_reducible have HB2 := Below.next HB hb) | (with_reducible have HB2 := Below.next (Below.nalloc HB _) hb) | have HB2 := hb); (try clear hc hf hz hz1 hz2 hn1 hn2); obtain ⟨hc, hf, hz, hz1, hz2, hn1, hn2⟩ := bcell3 HB2; (try clear HB); have HB := HB2; clear HB2; have hbk := hb; clear hb)))
          go_roundw
          case rel => exact ⟨k + 1, m, by omega, by go_num, rfl, by omega, HM, by (repeat (first | (with_reducible exact Below.refl _ _) | (with_reducible refine Below.nset ?_ ?_ _) | (with_reducible refine Below.nalloc ?_ _) | (with_reducible refine Below.ndrew ?_) | (with_reducible refine Below.ndrewN ?_ _) | (with_reducible refine Below.next ?_ (by assumption)) | (with_reducible refine Below.next ?_ (OldAs.below (by assumption))) | (focus (first | (simp; done) | (simp; omega)))))⟩
          case measure => first | (simp [intOf]; done) | (simp [intOf]; omega)
      · obtain rfl : k = 40 := by omega
        by_cases hz : m = 0
        · have HV2 : Hid (mostS s high = (0, 3)) := by unfold Hid at *; rw [HV, ← hm, if_pos hz]
          subst hz
          go_wp2
          go_ret2
          exact ⟨by rw [HV2.out]; rfl, by (repeat (first | (with_reducible exact Below.refl _ _) | (with_reducible refine Below.nset ?_ ?_ _) | (with_reducible refine Below.nalloc ?_ _) | (with_reducible refine Below.ndrew ?_) | (with_reducible refine Below.ndrewN ?_ _) | (with_reducible refine Below.next ?_ (by assumption)) | (with_reducible refine Below.next ?_ (OldAs.below (by assumption))) | (focus (first | (simp; done) | (simp; omega)))))⟩
        · have HV2 : Hid (mostS s high = (m, 0)) := by unfold Hid at *; rw [HV, ← hm, if_neg hz]
          go_wp2
          go_ret2
          exact ⟨by rw [HV2.out]; rfl, by (repeat (first | (with_reducible exact Below.refl _ _) | (with_reducible refine Below.nset ?_ ?_ _) | (with_reducible refine Below.nalloc ?_ _) | (with_reducible refine Below.ndrew ?_) | (with_reducible refine Below.ndrewN ?_ _) | (with_reducible refine Below.next ?_ (by assumption)) | (with_reducible refine Below.next ?_ (OldAs.below (by assumption))) | (focus (first | (simp; done) | (simp; omega)))))⟩
  · have hs' : okShape s = false := by simpa using hs
    have HV : Hid (mostS s high = (0, 10)) := by unfold Hid; simp [mostS, hs']
    clear hs
    go_enter Try.func18, Try.ntmps18
    go_wp2_with (first | (go_at_call 42; refine Calls.mono (rCheckShape_any s _) ?_; rintro e w' ⟨rfl, hb⟩; ((first | (with_reducible have HB2 := Below.next HB hb) | (with_reducible have HB2 := Below.next (Below.nalloc HB _) hb) | have HB2 := hb); (try clear hc hf hz hz1 hz2 hn1 hn2); obtain ⟨hc, hf, hz, hz1, hz2, hn1, hn2⟩ := bcell3 HB2; (try clear HB); have HB := HB2; clear HB2; have hbk := hb; clear hb)))
    go_ret2
    exact ⟨by rw [HV.out]; rfl, by (repeat (first | (with_reducible exact Below.refl _ _) | (with_reducible refine Below.nset ?_ ?_ _) | (with_reducible refine Below.nalloc ?_ _) | (with_reducible refine Below.ndrew ?_) | (with_reducible refine Below.ndrewN ?_ _) | (with_reducible refine Below.next ?_ (by assumption)) | (with_reducible refine Below.next ?_ (OldAs.below (by assumption))) | (focus (first | (simp; done) | (simp; omega)))))⟩
end Go.Proofs.Ytcgokimagimamaa
