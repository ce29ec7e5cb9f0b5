/- Layer 1, the program: moulds, fired shapes. What each call answers. -/
import Derived.Test.YtcgokimagimamaaGC
import Derived.Test.YtcgokimagimamaaGA
namespace Go.Proofs.Ytcgokimagimamaa
open Go.RowKit
attribute [local go_sem] errIf_true errIf_false
set_option maxHeartbeats 400000
set_option linter.unusedSimpArgs false
set_option linter.unusedVariables false
theorem mouldTo_next {dry by_ : Rng} {k : Nat} {l h : Int} (hl : Hid (mouldTo dry by_ k = ⟨l, h⟩)) (good : Bool) (hg : mouldOk dry by_ k = good) :
    Hid (mouldTo dry by_ (k + 1) = if good then ⟨if l < 0 then (k : Int) else l, k⟩ else ⟨l, h⟩) := by
  unfold Hid at *
  rw [mouldTo, hg, hl]
set_option maxRecDepth 100000 in
theorem Mould_any (b : Body) (dry : Rng) (w : World) :
    Calls Try.prog 28 #[.agg #[.int .i64 b.id, .int .i64 b.shrink.lo, .int .i64 b.shrink.hi, .int .i64 b.loss.lo, .int .i64 b.loss.hi, .int .i64 b.heat.lo, .int .i64 b.heat.hi], .agg #[.int .i64 dry.lo, .int .i64 dry.hi]] w fun e w' =>
      e = .returned (.tuple #[.agg #[.int .i64 ((mouldS b dry).1.lo), .int .i64 ((mouldS b dry).1.hi)], .int .i64 ((mouldS b dry).2)]) ∧ Below w.heap.size w w' := by
  by_cases hb : okBody b = true
  · by_cases hp : partB dry.lo dry.hi 0 2000 = true
    · have HV : Hid (mouldS b dry = if (mouldTo dry b.shrink 2001).lo < 0 then (zR, 3) else (mouldTo dry b.shrink 2001, 0)) := by unfold Hid; simp [mouldS, hb, partR, hp]
      have hbo := okBody_iff.1 hb
      have g1 := hbo.s1
      have g2 := hbo.s2
      have g3 : b.shrink.hi ≤ 1000 := by have := hbo.s3; omega
      clear hbo
      go_enter Try.func28, Try.ntmps28
      go_wp2_with (first | (go_at_call 45; refine Calls.mono (CheckBody_any b _) ?_; rintro e w' ⟨rfl, hb⟩; ((first | (with_reducible have HB2 := Below.next HB hb) | (with_reducible have HB2 := Below.next (Below.nalloc HB _) hb) | have HB2 := hb); (try clear hc hf hz hz1 hz2 hn1 hn2); obtain ⟨hc, hf, hz, hz1, hz2, hn1, hn2⟩ := bcell3 HB2; (try clear HB); have HB := HB2; clear HB2; have hbk := hb; clear hb)) | (go_at_call 64; refine Calls.mono (isPart_any _ _ _ _ _) ?_; rintro e w' ⟨rfl, hb⟩; ((first | (with_reducible have HB2 := Below.next HB hb) | (with_reducible have HB2 := Below.next (Below.nalloc HB _) hb) | have HB2 := hb); (try clear hc hf hz hz1 hz2 hn1 hn2); obtain ⟨hc, hf, hz, hz1, hz2, hn1, hn2⟩ := bcell3 HB2; (try clear HB); have HB := HB2; clear HB2; have hbk := hb; clear hb)))
      have HW : Below w.heap.size w w' := by (repeat (first | (with_reducible exact Below.refl _ _) | (with_reducible refine Below.nset ?_ ?_ _) | (with_reducible refine Below.nalloc ?_ _) | (with_reducible refine Below.ndrew ?_) | (with_reducible refine Below.ndrewN ?_ _) | (with_reducible refine Below.next ?_ (by assumption)) | (with_reducible refine Below.next ?_ (OldAs.below (by assumption))) | (focus (first | (simp; done) | (simp; omega)))))
      clear hb hp hc hf hz hz1 hz2 hn1 hn2
      go_loopw [21] (fun n wr => ∃ (k : Nat) (l h : Int), k ≤ 2001 ∧ n = .int .i64 k ∧ Hid (mouldTo dry b.shrink k = ⟨l, h⟩) ∧ Below w'.heap.size w' wr ∧ w'.heap.size < wr.heap.size ∧
        wr.cell? ⟨w'.heap.size, 0, none⟩ = some (.int .i64 l) ∧ wr.cell? ⟨w'.heap.size, 1, none⟩ = some (.int .i64 h) ∧ wr.frozen? ⟨w'.heap.size, 0, none⟩ = false ∧ wr.frozen? ⟨w'.heap.size, 1, none⟩ = false) (fun n _ => 2001 - (intOf n).toNat)
      case atStart => exact ⟨0, -1, 0, by omega, rfl, rfl, by (repeat (first | (with_reducible exact Below.refl _ _) | (with_reducible refine Below.nset ?_ ?_ _) | (with_reducible refine Below.nalloc ?_ _) | (with_reducible refine Below.ndrew ?_) | (with_reducible refine Below.ndrewN ?_ _) | (with_reducible refine Below.next ?_ (by assumption)) | (with_reducible refine Below.next ?_ (OldAs.below (by assumption))) | (focus (first | (simp; done) | (simp; omega))))), by simp, by go_simp, by go_simp, by go_simp, by go_simp⟩
      case round =>
        obtain ⟨k, l, h, hk, rfl, hm, hR, hG, c0, c1, f0, f1⟩ := hrel
        (have HB2 := Below.next HB hR; clear HB; have HB := HB2; clear HB2; have hR2 := hR; clear hR; obtain ⟨hc, hf, hz, hz1, hz2, hn1, hn2⟩ := bcell3 HB)
        by_cases hlt : k < 2001
        · have hn := fun good hg => mouldTo_next hm good hg
          have HN := hidI hn
          have HO : Hid (mouldOk dry b.shrink k = (decide (dry.lo ≤ turnLo k b.shrink.hi) && decide (turnHi k b.shrink.lo ≤ dry.hi))) := rfl
          clear hn
          have hbec := fun W : World => becomes_any ⟨(k : Int), (k : Int)⟩ b.shrink W (by simp) (by simp) (by simp; omega) g1 g2 g3
          dsimp only at hbec
          generalize turnLo k b.shrink.hi = tl at *
          generalize turnHi k b.shrink.lo = th at *
          have HC := hidI hbec
          clear hbec
          go_wp2_with fail
          refine Calls.mono (HC.out _) ?_; rintro e w' ⟨rfl, hb⟩; (((first | (with_reducible have HB2 := Below.next HB hb) | (with_reducible have HB2 := Below.next (Below.nalloc HB _) hb) | have HB2 := hb); (try clear hc hf hz hz1 hz2 hn1 hn2); obtain ⟨hc, hf, hz, hz1, hz2, hn1, hn2⟩ := bcell3 HB2; (try clear HB); have HB := HB2; clear HB2; have hbk := hb; clear hb); obtain ⟨hd, hg, hy, hy1, hy2, hm1, hm2⟩ := bcell3 hbk)
          go_wp2_with fail
          · have HM : Hid (mouldTo dry b.shrink (k + 1) = ⟨(k : Int), (k : Int)⟩) := by
              have q := HN.out true (by rw [HO.out]; first | (simp_all; done) | (simp; omega))
              unfold Hid at *; rw [q, if_pos rfl, if_pos (by omega)]
            go_roundw
            case rel => exact ⟨k + 1, (k : Int), (k : Int), by omega, by go_num, HM, by (repeat (first | (with_reducible exact Below.refl _ _) | (with_reducible refine Below.nset ?_ ?_ _) | (with_reducible refine Below.nalloc ?_ _) | (with_reducible refine Below.ndrew ?_) | (with_reducible refine Below.ndrewN ?_ _) | (with_reducible refine Below.next ?_ (by assumption)) | (with_reducible refine Below.next ?_ (OldAs.below (by assumption))) | (focus (first | (simp; done) | (simp; omega))))), by go_simp, by go_simp, by go_simp, by go_simp, by go_simp⟩
            case measure => first | (simp [intOf]; done) | (simp [intOf]; omega)
          · have HM : Hid (mouldTo dry b.shrink (k + 1) = ⟨l, (k : Int)⟩) := by
              have q := HN.out true (by rw [HO.out]; first | (simp_all; done) | (simp; omega))
              unfold Hid at *; rw [q, if_pos rfl, if_neg (by omega)]
            go_roundw
            case rel => exact ⟨k + 1, l, (k : Int), by omega, by go_num, HM, by (repeat (first | (with_reducible exact Below.refl _ _) | (with_reducible refine Below.nset ?_ ?_ _) | (with_reducible refine Below.nalloc ?_ _) | (with_reducible refine Below.ndrew ?_) | (with_reducible refine Below.ndrewN ?_ _) | (with_reducible refine Below.next ?_ (by assumption)) | (with_reducible refine Below.next ?_ (OldAs.below (by assumption))) | (focus (first | (simp; done) | (simp; omega))))), by go_simp, by go_simp, by go_simp, by go_simp, by go_simp⟩
            case measure => first | (simp [intOf]; done) | (simp [intOf]; omega)
          · have HM : Hid (mouldTo dry b.shrink (k + 1) = ⟨l, h⟩) := by
              have q := HN.out false (by rw [HO.out]; first | (simp_all; done) | (simp; omega))
              unfold Hid at *; rw [q, if_neg (by simp)]
            go_roundw
            case rel => exact ⟨k + 1, l, h, by omega, by go_num, HM, by (repeat (first | (with_reducible exact Below.refl _ _) | (with_reducible refine Below.nset ?_ ?_ _) | (with_reducible refine Below.nalloc ?_ _) | (with_reducible refine Below.ndrew ?_) | (with_reducible refine Below.ndrewN ?_ _) | (with_reducible refine Below.next ?_ (by assumption)) | (with_reducible refine Below.next ?_ (OldAs.below (by assumption))) | (focus (first | (simp; done) | (simp; omega))))), by go_simp, by go_simp, by go_simp, by go_simp, by go_simp⟩
            case measure => first | (simp [intOf]; done) | (simp [intOf]; omega)
          · have HM : Hid (mouldTo dry b.shrink (k + 1) = ⟨l, h⟩) := by
              have q := HN.out false (by rw [HO.out]; first | (simp_all; done) | (simp; omega))
              unfold Hid at *; rw [q, if_neg (by simp)]
            go_roundw
            case rel => exact ⟨k + 1, l, h, by omega, by go_num, HM, by (repeat (first | (with_reducible exact Below.refl _ _) | (with_reducible refine Below.nset ?_ ?_ _) | (with_reducible refine Below.nalloc ?_ _) | (with_reducible refine Below.ndrew ?_) | (with_reducible refine Below.ndrewN ?_ _) | (with_reducible refine Below.next ?_ (by assumption)) | (with_reducible refine Below.next ?_ (OldAs.below (by assumption))) | (focus (first | (simp; done) | (simp; omega))))), by go_simp, by go_simp, by go_simp, by go_simp, by go_simp⟩
            case measure => first | (simp [intOf]; done) | (simp [intOf]; omega)
        · obtain rfl : k = 2001 := by omega
          have HV2 : Hid (mouldS b dry = if l < 0 then (zR, 3) else (⟨l, h⟩, 0)) := by unfold Hid at *; rw [HV, hm]
          clear hm
          by_cases hl : l < 0
          · go_wp2
            exact (bodyPost_ret (v := .tuple #[.agg #[.int .i64 0, .int .i64 0], .int .i64 3]) (by simp [results, Try.results28, go_sem, hc, hf]) rfl) ⟨by rw [HV2.out, if_pos hl]; rfl, by (repeat (first | (with_reducible exact Below.refl _ _) | (with_reducible refine Below.nset ?_ ?_ _) | (with_reducible refine Below.nalloc ?_ _) | (with_reducible refine Below.ndrew ?_) | (with_reducible refine Below.ndrewN ?_ _) | (with_reducible refine Below.next ?_ (by assumption)) | (with_reducible refine Below.next ?_ (OldAs.below (by assumption))) | (focus (first | (simp; done) | (simp; omega)))))⟩
          · go_wp2
            exact (bodyPost_ret (v := .tuple #[.agg #[.int .i64 l, .int .i64 h], .int .i64 0]) (by simp [results, Try.results28, go_sem, hc, hf]) rfl) ⟨by rw [HV2.out, if_neg (by omega)], by (repeat (first | (with_reducible exact Below.refl _ _) | (with_reducible refine Below.nset ?_ ?_ _) | (with_reducible refine Below.nalloc ?_ _) | (with_reducible refine Below.ndrew ?_) | (with_reducible refine Below.ndrewN ?_ _) | (with_reducible refine Below.next ?_ (by assumption)) | (with_reducible refine Below.next ?_ (OldAs.below (by assumption))) | (focus (first | (simp; done) | (simp; omega)))))⟩
    · have hp' : partB dry.lo dry.hi 0 2000 = false := by simpa using hp
      have HV : Hid (mouldS b dry = (zR, 1)) := by unfold Hid; simp [mouldS, hb, partR, hp']
      clear hp
      go_enter Try.func28, Try.ntmps28
      go_wp2_with (first | (go_at_call 45; refine Calls.mono (CheckBody_any b _) ?_; rintro e w' ⟨rfl, hb⟩; ((first | (with_reducible have HB2 := Below.next HB hb) | (with_reducible have HB2 := Below.next (Below.nalloc HB _) hb) | have HB2 := hb); (try clear hc hf hz hz1 hz2 hn1 hn2); obtain ⟨hc, hf, hz, hz1, hz2, hn1, hn2⟩ := bcell3 HB2; (try clear HB); have HB := HB2; clear HB2; have hbk := hb; clear hb)) | (go_at_call 64; refine Calls.mono (isPart_any _ _ _ _ _) ?_; rintro e w' ⟨rfl, hb⟩; ((first | (with_reducible have HB2 := Below.next HB hb) | (with_reducible have HB2 := Below.next (Below.nalloc HB _) hb) | have HB2 := hb); (try clear hc hf hz hz1 hz2 hn1 hn2); obtain ⟨hc, hf, hz, hz1, hz2, hn1, hn2⟩ := bcell3 HB2; (try clear HB); have HB := HB2; clear HB2; have hbk := hb; clear hb)))
      exact (bodyPost_ret (v := .tuple #[.agg #[.int .i64 0, .int .i64 0], .int .i64 1]) (by simp [results, Try.results28, go_sem, hc, hf]) rfl) ⟨by rw [HV.out]; rfl, by (repeat (first | (with_reducible exact Below.refl _ _) | (with_reducible refine Below.nset ?_ ?_ _) | (with_reducible refine Below.nalloc ?_ _) | (with_reducible refine Below.ndrew ?_) | (with_reducible refine Below.ndrewN ?_ _) | (with_reducible refine Below.next ?_ (by assumption)) | (with_reducible refine Below.next ?_ (OldAs.below (by assumption))) | (focus (first | (simp; done) | (simp; omega)))))⟩
  · have hb' : okBody b = false := by simpa using hb
    have HV : Hid (mouldS b dry = (zR, 11)) := by unfold Hid; simp [mouldS, hb']
    clear hb
    go_enter Try.func28, Try.ntmps28
    go_wp2_with (first | (go_at_call 45; refine Calls.mono (CheckBody_any b _) ?_; rintro e w' ⟨rfl, hb⟩; ((first | (with_reducible have HB2 := Below.next HB hb) | (with_reducible have HB2 := Below.next (Below.nalloc HB _) hb) | have HB2 := hb); (try clear hc hf hz hz1 hz2 hn1 hn2); obtain ⟨hc, hf, hz, hz1, hz2, hn1, hn2⟩ := bcell3 HB2; (try clear HB); have HB := HB2; clear HB2; have hbk := hb; clear hb)))
    exact (bodyPost_ret (v := .tuple #[.agg #[.int .i64 0, .int .i64 0], .int .i64 11]) (by simp [results, Try.results28, go_sem, hc, hf]) rfl) ⟨by rw [HV.out]; rfl, by (repeat (first | (with_reducible exact Below.refl _ _) | (with_reducible refine Below.nset ?_ ?_ _) | (with_reducible refine Below.nalloc ?_ _) | (with_reducible refine Below.ndrew ?_) | (with_reducible refine Below.ndrewN ?_ _) | (with_reducible refine Below.next ?_ (by assumption)) | (with_reducible refine Below.next ?_ (OldAs.below (by assumption))) | (focus (first | (simp; done) | (simp; omega)))))⟩

set_option maxRecDepth 100000 in
set_option maxHeartbeats 4000000 in
theorem Fired_any (s : Shape) (b : Body) (w : World) :
    Calls Try.prog 26 #[.agg #[.int .i64 s.id, .int .i64 s.wide.lo, .int .i64 s.wide.hi, .int .i64 s.deep.lo, .int .i64 s.deep.hi, .int .i64 s.high.lo, .int .i64 s.high.hi, .int .i64 s.nest, .int .i64 s.weight.lo, .int .i64 s.weight.hi, .int .i64 s.bears], .agg #[.int .i64 b.id, .int .i64 b.shrink.lo, .int .i64 b.shrink.hi, .int .i64 b.loss.lo, .int .i64 b.loss.hi, .int .i64 b.heat.lo, .int .i64 b.heat.hi]] w fun e w' =>
      e = .returned (.tuple #[.agg #[.int .i64 (firedSS s b).1.id, .int .i64 (firedSS s b).1.wide.lo, .int .i64 (firedSS s b).1.wide.hi, .int .i64 (firedSS s b).1.deep.lo, .int .i64 (firedSS s b).1.deep.hi, .int .i64 (firedSS s b).1.high.lo, .int .i64 (firedSS s b).1.high.hi, .int .i64 (firedSS s b).1.nest, .int .i64 (firedSS s b).1.weight.lo, .int .i64 (firedSS s b).1.weight.hi, .int .i64 (firedSS s b).1.bears], .int .i64 ((firedSS s b).2)]) ∧ Below w.heap.size w w' := by
  by_cases hs : okShape s = true
  · by_cases hb : okBody b = true
    · have HV : Hid (firedSS s b = (firedShape s b, 0)) := by unfold Hid; simp [firedSS, hs, hb]
      have ho := okShape_iff.1 hs
      have hbo := okBody_iff.1 hb
      have HC1 := hidI (fun W : World => becomes_any s.wide b.shrink W ho.w1 ho.w2 (by have := ho.w3; omega) hbo.s1 hbo.s2 (by have := hbo.s3; omega))
      have HC2 := hidI (fun W : World => becomes_any s.deep b.shrink W ho.d1 ho.d2 (by have := ho.d3; omega) hbo.s1 hbo.s2 (by have := hbo.s3; omega))
      have HC3 := hidI (fun W : World => becomes_any s.high b.shrink W ho.h1 ho.h2 (by have := ho.h3; omega) hbo.s1 hbo.s2 (by have := hbo.s3; omega))
      have HC4 := hidI (fun W : World => becomes_any s.weight b.loss W ho.g1 ho.g2 ho.g3 hbo.l1 hbo.l2 (by have := hbo.l3; omega))
      obtain ⟨m1, m2⟩ := mul_bound (N := 2000) ho.n1 (by have := ho.n2; have := ho.h2; have := ho.h3; omega) (by have := hbo.s1; have := hbo.s2; omega : 0 ≤ b.shrink.hi) (by have := hbo.s3; omega)
      have m3 : b.shrink.hi ≤ 200 := hbo.s3
      have m4 : 0 ≤ b.shrink.hi := by have := hbo.s1; have := hbo.s2; omega
      clear ho hbo
      go_enter Try.func26, Try.ntmps26
      go_wp2_with (first | (go_at_call 27; refine Calls.mono (CheckShape_any s _) ?_; rintro e w' ⟨rfl, hb⟩; ((first | (with_reducible have HB2 := Below.next HB hb) | (with_reducible have HB2 := Below.next (Below.nalloc HB _) hb) | have HB2 := hb); (try clear hc hf hz hz1 hz2 hn1 hn2); obtain ⟨hc, hf, hz, hz1, hz2, hn1, hn2⟩ := bcell3 HB2; (try clear HB); have HB := HB2; clear HB2; have hbk := hb; clear hb)) | (go_at_call 45; refine Calls.mono (CheckBody_any b _) ?_; rintro e w' ⟨rfl, hb⟩; ((first | (with_reducible have HB2 := Below.next HB hb) | (with_reducible have HB2 := Below.next (Below.nalloc HB _) hb) | have HB2 := hb); (try clear hc hf hz hz1 hz2 hn1 hn2); obtain ⟨hc, hf, hz, hz1, hz2, hn1, hn2⟩ := bcell3 HB2; (try clear HB); have HB := HB2; clear HB2; have hbk := hb; clear hb)))
      clear hs hb
      have HW : Below w.heap.size w w' := by (repeat (first | (with_reducible exact Below.refl _ _) | (with_reducible refine Below.nset ?_ ?_ _) | (with_reducible refine Below.nalloc ?_ _) | (with_reducible refine Below.ndrew ?_) | (with_reducible refine Below.ndrewN ?_ _) | (with_reducible refine Below.next ?_ (by assumption)) | (with_reducible refine Below.next ?_ (OldAs.below (by assumption))) | (focus (first | (simp; done) | (simp; omega)))))
      have hne : w.heap.size ≠ w'.heap.size ∧ w'.heap.size ≠ w.heap.size := by have q := HB.size; simp only [World.size_alloc] at q; omega
      obtain ⟨hne1, hne2⟩ := hne
      go_loopw [27] (fun n wr => ∃ k : Nat, k ≤ 3 ∧ n = .int .i64 k ∧ Below w.heap.size w wr ∧ w.heap.size < wr.heap.size ∧ w.heap.size + 1 < wr.heap.size ∧ w.heap.size + 1 + 1 < wr.heap.size ∧ w'.heap.size < wr.heap.size ∧ (∀ i, wr.frozen? ⟨w.heap.size, i, none⟩ = false) ∧
        (∀ i, wr.frozen? ⟨w.heap.size + 1 + 1, i, none⟩ = false) ∧ (∀ i, i < 11 → wr.cell? ⟨w.heap.size + 1 + 1, i, none⟩ = some (.int .i64 0)) ∧ wr.cell? ⟨w.heap.size, 0, none⟩ = some (.int .i64 ((firedTo s b k).id)) ∧ wr.cell? ⟨w.heap.size, 1, none⟩ = some (.int .i64 ((firedTo s b k).wide.lo)) ∧ wr.cell? ⟨w.heap.size, 2, none⟩ = some (.int .i64 ((firedTo s b k).wide.hi)) ∧ wr.cell? ⟨w.heap.size, 3, none⟩ = some (.int .i64 ((firedTo s b k).deep.lo)) ∧ wr.cell? ⟨w.heap.size, 4, none⟩ = some (.int .i64 ((firedTo s b k).deep.hi)) ∧ wr.cell? ⟨w.heap.size, 5, none⟩ = some (.int .i64 ((firedTo s b k).high.lo)) ∧ wr.cell? ⟨w.heap.size, 6, none⟩ = some (.int .i64 ((firedTo s b k).high.hi)) ∧ wr.cell? ⟨w.heap.size, 7, none⟩ = some (.int .i64 ((firedTo s b k).nest)) ∧ wr.cell? ⟨w.heap.size, 8, none⟩ = some (.int .i64 ((firedTo s b k).weight.lo)) ∧ wr.cell? ⟨w.heap.size, 9, none⟩ = some (.int .i64 ((firedTo s b k).weight.hi)) ∧ wr.cell? ⟨w.heap.size, 10, none⟩ = some (.int .i64 ((firedTo s b k).bears)) ∧ wr.cell? ⟨w.heap.size + 1, 0, none⟩ = some (.int .i64 (b.id)) ∧ wr.cell? ⟨w.heap.size + 1, 1, none⟩ = some (.int .i64 (b.shrink.lo)) ∧ wr.cell? ⟨w.heap.size + 1, 2, none⟩ = some (.int .i64 (b.shrink.hi)) ∧ wr.cell? ⟨w.heap.size + 1, 3, none⟩ = some (.int .i64 (b.loss.lo)) ∧ wr.cell? ⟨w.heap.size + 1, 4, none⟩ = some (.int .i64 (b.loss.hi)) ∧ wr.cell? ⟨w.heap.size + 1, 5, none⟩ = some (.int .i64 (b.heat.lo)) ∧ wr.cell? ⟨w.heap.size + 1, 6, none⟩ = some (.int .i64 (b.heat.hi)) ∧ wr.cell? ⟨w'.heap.size, 0, none⟩ = some (.pointer (some ⟨w.heap.size, 1, none⟩)) ∧ wr.cell? ⟨w'.heap.size, 1, none⟩ = some (.pointer (some ⟨w.heap.size, 3, none⟩)) ∧ wr.cell? ⟨w'.heap.size, 2, none⟩ = some (.pointer (some ⟨w.heap.size, 5, none⟩))) (fun n _ => 3 - (intOf n).toNat)
      case atStart =>
        have g0 : w.heap.size < w'.heap.size ∧ w.heap.size + 1 < w'.heap.size ∧ w.heap.size + 1 + 1 < w'.heap.size := by have q := HB.size; simp only [World.size_alloc] at q; omega
        obtain ⟨g1, g2, g3⟩ := g0
        refine ⟨0, by omega, rfl, by (repeat (first | (with_reducible exact Below.refl _ _) | (with_reducible refine Below.nset ?_ ?_ _) | (with_reducible refine Below.nalloc ?_ _) | (with_reducible refine Below.ndrew ?_) | (with_reducible refine Below.ndrewN ?_ _) | (with_reducible refine Below.next ?_ (by assumption)) | (with_reducible refine Below.next ?_ (OldAs.below (by assumption))) | (focus (first | (simp; done) | (simp; omega))))), ?_⟩
        simp only [firedTo, becomesR, Nat.lt_irrefl, Nat.not_lt_zero, Nat.reduceLT, if_true, if_false]
        refine ⟨by go_simp, by go_simp, by go_simp, by go_simp, by (intro i; go_simp), by (intro i; go_simp), ?_, by go_simp, by go_simp, by go_simp, by go_simp, by go_simp, by go_simp, by go_simp, by go_simp, by go_simp, by go_simp, by go_simp, by go_simp, by go_simp, by go_simp, by go_simp, by go_simp, by go_simp, by go_simp, by go_simp, by go_simp, by go_simp⟩
        intro i hi
        have : i = 0 ∨ i = 1 ∨ i = 2 ∨ i = 3 ∨ i = 4 ∨ i = 5 ∨ i = 6 ∨ i = 7 ∨ i = 8 ∨ i = 9 ∨ i = 10 := by omega
        rcases this with rfl | rfl | rfl | rfl | rfl | rfl | rfl | rfl | rfl | rfl | rfl <;> go_simp
      case round =>
        obtain ⟨k, hk, rfl, hR, z0, z1, z2, z3, f0, f2, r0, s0, s1, s2, s3, s4, s5, s6, s7, s8, s9, s10, b0, b1, b2, b3, b4, b5, b6, p0, p1, p2⟩ := hrel
        clear hc hf hz hz1 hz2 hn1 hn2 HB
        have hrel0 := hk
        obtain rfl | rfl | rfl | rfl : k = 0 ∨ k = 1 ∨ k = 2 ∨ k = 3 := by omega
        · simp only [firedTo, becomesR, Nat.lt_irrefl, Nat.not_lt_zero, Nat.reduceLT, if_true, if_false] at s0 s1 s2 s3 s4 s5 s6 s7 s8 s9 s10
          clear hrel0
          go_wp2_with fail
          refine lin_begin 8 (by kernel_rfl) (by kernel_rfl) ?_
          (refine lin_take 0 (v := ?_) (by decide) rfl (by kernel_rfl) (by kernel_rfl) (by kernel_rfl) (fun _ _ _ h => h) (by rfl) (by (intro w hS hcl; first | (go_simp; done) | (go_simp; rfl))) ?_)
          (refine lin_take 1 (v := ?_) (by decide) rfl (by kernel_rfl) (by kernel_rfl) (by kernel_rfl) (fun _ _ _ h => h) (by rfl) (by (intro w hS hcl; first | (go_simp; done) | (go_simp; rfl))) ?_)
          (refine lin_take 2 (v := ?_) (by decide) rfl (by kernel_rfl) (by kernel_rfl) (by kernel_rfl) (fun _ _ _ h => h) (by rfl) (by (intro w hS hcl; first | (go_simp; done) | (go_simp; rfl))) ?_)
          (refine lin_take 3 (v := ?_) (by decide) rfl (by kernel_rfl) (by kernel_rfl) (by kernel_rfl) (fun _ _ _ h => h) (by rfl) (by (intro w hS hcl; first | (go_simp; done) | (go_simp; rfl))) ?_)
          (refine lin_take 4 (v := ?_) (by decide) rfl (by kernel_rfl) (by kernel_rfl) (by kernel_rfl) (fun _ _ _ h => h) (by rfl) (by (intro w hS hcl; first | (go_simp; done) | (go_simp; rfl))) ?_)
          (refine lin_take 5 (v := ?_) (by decide) rfl (by kernel_rfl) (by kernel_rfl) (by kernel_rfl) (fun _ _ _ h => h) (by rfl) (by (intro w hS hcl; first | (go_simp; done) | (go_simp; rfl))) ?_)
          (refine lin_call 6 (by decide) rfl (by kernel_rfl) (by kernel_rfl) (by kernel_rfl) (fun _ _ _ h => h) (by rfl) (by (intro w; first | (go_simp; done) | (go_simp; rfl))) (fun w1 hS _ => HC1.out w1) ?_)
          (refine lin_take 7 (v := ?_) (by decide) rfl (by kernel_rfl) (by kernel_rfl) (by kernel_rfl) (fun _ _ _ h => h) (by rfl) (by (intro w hS hcl; first | (go_simp; done) | (go_simp; rfl))) ?_)
          refine lin_last rfl (by kernel_rfl) (by kernel_rfl) (by rfl) (fun w1 hS hcl hfr K hK => ?_)
          have hq : Below wr.heap.size wr w1 := hS
          have hz := (bcell3 hq).2.2.1; have hz1 := (bcell3 hq).2.2.2.1; have hz2 := (bcell3 hq).2.2.2.2.1; have hn1 := (bcell3 hq).2.2.2.2.2.1; have hn2 := (bcell3 hq).2.2.2.2.2.2
          go_wp2
          go_roundw
          case rel =>
            refine ⟨1, by omega, by go_num, ?_⟩
            simp only [firedTo, becomesR, Nat.lt_irrefl, Nat.not_lt_zero, Nat.reduceLT, if_true, if_false]
            refine ⟨by (repeat (first | (with_reducible exact Below.refl _ _) | (with_reducible refine Below.nset ?_ ?_ _) | (with_reducible refine Below.nalloc ?_ _) | (with_reducible refine Below.ndrew ?_) | (with_reducible refine Below.ndrewN ?_ _) | (with_reducible refine Below.next ?_ (by assumption)) | (with_reducible refine Below.next ?_ (OldAs.below (by assumption))) | (focus (first | (simp; done) | (simp; omega))))), by go_simp, by go_simp, by go_simp, by go_simp, by (intro i; go_simp), by (intro i; go_simp), by (intro i hi; have := r0 i hi; go_simp), by go_simp, by go_simp, by go_simp, by go_simp, by go_simp, by go_simp, by go_simp, by go_simp, by go_simp, by go_simp, by go_simp, by go_simp, by go_simp, by go_simp, by go_simp, by go_simp, by go_simp, by go_simp, by go_simp, by go_simp, by go_simp⟩
          case measure => first | (simp [intOf]; done) | (simp [intOf]; omega)
        · simp only [firedTo, becomesR, Nat.lt_irrefl, Nat.not_lt_zero, Nat.reduceLT, if_true, if_false] at s0 s1 s2 s3 s4 s5 s6 s7 s8 s9 s10
          clear hrel0
          go_wp2_with fail
          refine lin_begin 8 (by kernel_rfl) (by kernel_rfl) ?_
          (refine lin_take 0 (v := ?_) (by decide) rfl (by kernel_rfl) (by kernel_rfl) (by kernel_rfl) (fun _ _ _ h => h) (by rfl) (by (intro w hS hcl; first | (go_simp; done) | (go_simp; rfl))) ?_)
          (refine lin_take 1 (v := ?_) (by decide) rfl (by kernel_rfl) (by kernel_rfl) (by kernel_rfl) (fun _ _ _ h => h) (by rfl) (by (intro w hS hcl; first | (go_simp; done) | (go_simp; rfl))) ?_)
          (refine lin_take 2 (v := ?_) (by decide) rfl (by kernel_rfl) (by kernel_rfl) (by kernel_rfl) (fun _ _ _ h => h) (by rfl) (by (intro w hS hcl; first | (go_simp; done) | (go_simp; rfl))) ?_)
          (refine lin_take 3 (v := ?_) (by decide) rfl (by kernel_rfl) (by kernel_rfl) (by kernel_rfl) (fun _ _ _ h => h) (by rfl) (by (intro w hS hcl; first | (go_simp; done) | (go_simp; rfl))) ?_)
          (refine lin_take 4 (v := ?_) (by decide) rfl (by kernel_rfl) (by kernel_rfl) (by kernel_rfl) (fun _ _ _ h => h) (by rfl) (by (intro w hS hcl; first | (go_simp; done) | (go_simp; rfl))) ?_)
          (refine lin_take 5 (v := ?_) (by decide) rfl (by kernel_rfl) (by kernel_rfl) (by kernel_rfl) (fun _ _ _ h => h) (by rfl) (by (intro w hS hcl; first | (go_simp; done) | (go_simp; rfl))) ?_)
          (refine lin_call 6 (by decide) rfl (by kernel_rfl) (by kernel_rfl) (by kernel_rfl) (fun _ _ _ h => h) (by rfl) (by (intro w; first | (go_simp; done) | (go_simp; rfl))) (fun w1 hS _ => HC2.out w1) ?_)
          (refine lin_take 7 (v := ?_) (by decide) rfl (by kernel_rfl) (by kernel_rfl) (by kernel_rfl) (fun _ _ _ h => h) (by rfl) (by (intro w hS hcl; first | (go_simp; done) | (go_simp; rfl))) ?_)
          refine lin_last rfl (by kernel_rfl) (by kernel_rfl) (by rfl) (fun w1 hS hcl hfr K hK => ?_)
          have hq : Below wr.heap.size wr w1 := hS
          have hz := (bcell3 hq).2.2.1; have hz1 := (bcell3 hq).2.2.2.1; have hz2 := (bcell3 hq).2.2.2.2.1; have hn1 := (bcell3 hq).2.2.2.2.2.1; have hn2 := (bcell3 hq).2.2.2.2.2.2
          go_wp2
          go_roundw
          case rel =>
            refine ⟨2, by omega, by go_num, ?_⟩
            simp only [firedTo, becomesR, Nat.lt_irrefl, Nat.not_lt_zero, Nat.reduceLT, if_true, if_false]
            refine ⟨by (repeat (first | (with_reducible exact Below.refl _ _) | (with_reducible refine Below.nset ?_ ?_ _) | (with_reducible refine Below.nalloc ?_ _) | (with_reducible refine Below.ndrew ?_) | (with_reducible refine Below.ndrewN ?_ _) | (with_reducible refine Below.next ?_ (by assumption)) | (with_reducible refine Below.next ?_ (OldAs.below (by assumption))) | (focus (first | (simp; done) | (simp; omega))))), by go_simp, by go_simp, by go_simp, by go_simp, by (intro i; go_simp), by (intro i; go_simp), by (intro i hi; have := r0 i hi; go_simp), by go_simp, by go_simp, by go_simp, by go_simp, by go_simp, by go_simp, by go_simp, by go_simp, by go_simp, by go_simp, by go_simp, by go_simp, by go_simp, by go_simp, by go_simp, by go_simp, by go_simp, by go_simp, by go_simp, by go_simp, by go_simp⟩
          case measure => first | (simp [intOf]; done) | (simp [intOf]; omega)
        · simp only [firedTo, becomesR, Nat.lt_irrefl, Nat.not_lt_zero, Nat.reduceLT, if_true, if_false] at s0 s1 s2 s3 s4 s5 s6 s7 s8 s9 s10
          clear hrel0
          go_wp2_with fail
          refine lin_begin 8 (by kernel_rfl) (by kernel_rfl) ?_
          (refine lin_take 0 (v := ?_) (by decide) rfl (by kernel_rfl) (by kernel_rfl) (by kernel_rfl) (fun _ _ _ h => h) (by rfl) (by (intro w hS hcl; first | (go_simp; done) | (go_simp; rfl))) ?_)
          (refine lin_take 1 (v := ?_) (by decide) rfl (by kernel_rfl) (by kernel_rfl) (by kernel_rfl) (fun _ _ _ h => h) (by rfl) (by (intro w hS hcl; first | (go_simp; done) | (go_simp; rfl))) ?_)
          (refine lin_take 2 (v := ?_) (by decide) rfl (by kernel_rfl) (by kernel_rfl) (by kernel_rfl) (fun _ _ _ h => h) (by rfl) (by (intro w hS hcl; first | (go_simp; done) | (go_simp; rfl))) ?_)
          (refine lin_take 3 (v := ?_) (by decide) rfl (by kernel_rfl) (by kernel_rfl) (by kernel_rfl) (fun _ _ _ h => h) (by rfl) (by (intro w hS hcl; first | (go_simp; done) | (go_simp; rfl))) ?_)
          (refine lin_take 4 (v := ?_) (by decide) rfl (by kernel_rfl) (by kernel_rfl) (by kernel_rfl) (fun _ _ _ h => h) (by rfl) (by (intro w hS hcl; first | (go_simp; done) | (go_simp; rfl))) ?_)
          (refine lin_take 5 (v := ?_) (by decide) rfl (by kernel_rfl) (by kernel_rfl) (by kernel_rfl) (fun _ _ _ h => h) (by rfl) (by (intro w hS hcl; first | (go_simp; done) | (go_simp; rfl))) ?_)
          (refine lin_call 6 (by decide) rfl (by kernel_rfl) (by kernel_rfl) (by kernel_rfl) (fun _ _ _ h => h) (by rfl) (by (intro w; first | (go_simp; done) | (go_simp; rfl))) (fun w1 hS _ => HC3.out w1) ?_)
          (refine lin_take 7 (v := ?_) (by decide) rfl (by kernel_rfl) (by kernel_rfl) (by kernel_rfl) (fun _ _ _ h => h) (by rfl) (by (intro w hS hcl; first | (go_simp; done) | (go_simp; rfl))) ?_)
          refine lin_last rfl (by kernel_rfl) (by kernel_rfl) (by rfl) (fun w1 hS hcl hfr K hK => ?_)
          have hq : Below wr.heap.size wr w1 := hS
          have hz := (bcell3 hq).2.2.1; have hz1 := (bcell3 hq).2.2.2.1; have hz2 := (bcell3 hq).2.2.2.2.1; have hn1 := (bcell3 hq).2.2.2.2.2.1; have hn2 := (bcell3 hq).2.2.2.2.2.2
          go_wp2
          go_roundw
          case rel =>
            refine ⟨3, by omega, by go_num, ?_⟩
            simp only [firedTo, becomesR, Nat.lt_irrefl, Nat.not_lt_zero, Nat.reduceLT, if_true, if_false]
            refine ⟨by (repeat (first | (with_reducible exact Below.refl _ _) | (with_reducible refine Below.nset ?_ ?_ _) | (with_reducible refine Below.nalloc ?_ _) | (with_reducible refine Below.ndrew ?_) | (with_reducible refine Below.ndrewN ?_ _) | (with_reducible refine Below.next ?_ (by assumption)) | (with_reducible refine Below.next ?_ (OldAs.below (by assumption))) | (focus (first | (simp; done) | (simp; omega))))), by go_simp, by go_simp, by go_simp, by go_simp, by (intro i; go_simp), by (intro i; go_simp), by (intro i hi; have := r0 i hi; go_simp), by go_simp, by go_simp, by go_simp, by go_simp, by go_simp, by go_simp, by go_simp, by go_simp, by go_simp, by go_simp, by go_simp, by go_simp, by go_simp, by go_simp, by go_simp, by go_simp, by go_simp, by go_simp, by go_simp, by go_simp, by go_simp⟩
          case measure => first | (simp [intOf]; done) | (simp [intOf]; omega)
        · simp only [firedTo, becomesR, Nat.lt_irrefl, Nat.not_lt_zero, Nat.reduceLT, if_true, if_false] at s0 s1 s2 s3 s4 s5 s6 s7 s8 s9 s10
          clear hrel0
          have r1 := r0 0 (by omega)
          have r2 := r0 1 (by omega)
          have r3 := r0 2 (by omega)
          have r4 := r0 3 (by omega)
          have r5 := r0 4 (by omega)
          have r6 := r0 5 (by omega)
          have r7 := r0 6 (by omega)
          have r8 := r0 7 (by omega)
          have r9 := r0 8 (by omega)
          have r10 := r0 9 (by omega)
          have r11 := r0 10 (by omega)
          clear r0
          go_wp2_with (first | (go_at_call 62; refine Calls.mono (HC4.out _) ?_; rintro e w2 ⟨rfl, hb⟩; have hd := (bcell3 hb).1; have hg := (bcell3 hb).2.1; have hz := (bcell3 hb).2.2.1; have hz1 := (bcell3 hb).2.2.2.1; have hz2 := (bcell3 hb).2.2.2.2.1; have hn1 := (bcell3 hb).2.2.2.2.2.1; have hn2 := (bcell3 hb).2.2.2.2.2.2) | (go_at_call 63; refine Calls.mono (down_any _ _ m1 (by omega)) ?_; rintro e w' ⟨rfl, rfl⟩))
          exact (bodyPost_ret (v := .tuple #[.agg #[.int .i64 (firedShape s b).id, .int .i64 (firedShape s b).wide.lo, .int .i64 (firedShape s b).wide.hi, .int .i64 (firedShape s b).deep.lo, .int .i64 (firedShape s b).deep.hi, .int .i64 (firedShape s b).high.lo, .int .i64 (firedShape s b).high.hi, .int .i64 (firedShape s b).nest, .int .i64 (firedShape s b).weight.lo, .int .i64 (firedShape s b).weight.hi, .int .i64 (firedShape s b).bears], .int .i64 0]) (by simp only [results, Try.results26]; go_simp; (repeat' constructor)) rfl) ⟨by rw [HV.out], by (repeat (first | (with_reducible exact Below.refl _ _) | (with_reducible refine Below.nset ?_ ?_ _) | (with_reducible refine Below.nalloc ?_ _) | (with_reducible refine Below.ndrew ?_) | (with_reducible refine Below.ndrewN ?_ _) | (with_reducible refine Below.next ?_ (by assumption)) | (with_reducible refine Below.next ?_ (OldAs.below (by assumption))) | (focus (first | (simp; done) | (simp; omega)))))⟩
    · have hb' : okBody b = false := by simpa using hb
      have HV : Hid (firedSS s b = (zShape, 11)) := by unfold Hid; simp [firedSS, hs, hb']
      clear hb
      go_enter Try.func26, Try.ntmps26
      go_wp2_with (first | (go_at_call 27; refine Calls.mono (CheckShape_any s _) ?_; rintro e w' ⟨rfl, hb⟩; ((first | (with_reducible have HB2 := Below.next HB hb) | (with_reducible have HB2 := Below.next (Below.nalloc HB _) hb) | have HB2 := hb); (try clear hc hf hz hz1 hz2 hn1 hn2); obtain ⟨hc, hf, hz, hz1, hz2, hn1, hn2⟩ := bcell3 HB2; (try clear HB); have HB := HB2; clear HB2; have hbk := hb; clear hb)) | (go_at_call 45; refine Calls.mono (CheckBody_any b _) ?_; rintro e w' ⟨rfl, hb⟩; ((first | (with_reducible have HB2 := Below.next HB hb) | (with_reducible have HB2 := Below.next (Below.nalloc HB _) hb) | have HB2 := hb); (try clear hc hf hz hz1 hz2 hn1 hn2); obtain ⟨hc, hf, hz, hz1, hz2, hn1, hn2⟩ := bcell3 HB2; (try clear HB); have HB := HB2; clear HB2; have hbk := hb; clear hb)))
      exact (bodyPost_ret (v := .tuple #[.agg #[.int .i64 zShape.id, .int .i64 zShape.wide.lo, .int .i64 zShape.wide.hi, .int .i64 zShape.deep.lo, .int .i64 zShape.deep.hi, .int .i64 zShape.high.lo, .int .i64 zShape.high.hi, .int .i64 zShape.nest, .int .i64 zShape.weight.lo, .int .i64 zShape.weight.hi, .int .i64 zShape.bears], .int .i64 11]) (by simp [results, Try.results26, go_sem, hc, hf, zShape, zR]) rfl) ⟨by rw [HV.out], by (repeat (first | (with_reducible exact Below.refl _ _) | (with_reducible refine Below.nset ?_ ?_ _) | (with_reducible refine Below.nalloc ?_ _) | (with_reducible refine Below.ndrew ?_) | (with_reducible refine Below.ndrewN ?_ _) | (with_reducible refine Below.next ?_ (by assumption)) | (with_reducible refine Below.next ?_ (OldAs.below (by assumption))) | (focus (first | (simp; done) | (simp; omega)))))⟩
  · have hs' : okShape s = false := by simpa using hs
    have HV : Hid (firedSS s b = (zShape, 10)) := by unfold Hid; simp [firedSS, hs']
    clear hs
    go_enter Try.func26, Try.ntmps26
    go_wp2_with (first | (go_at_call 27; refine Calls.mono (CheckShape_any s _) ?_; rintro e w' ⟨rfl, hb⟩; ((first | (with_reducible have HB2 := Below.next HB hb) | (with_reducible have HB2 := Below.next (Below.nalloc HB _) hb) | have HB2 := hb); (try clear hc hf hz hz1 hz2 hn1 hn2); obtain ⟨hc, hf, hz, hz1, hz2, hn1, hn2⟩ := bcell3 HB2; (try clear HB); have HB := HB2; clear HB2; have hbk := hb; clear hb)))
    exact (bodyPost_ret (v := .tuple #[.agg #[.int .i64 zShape.id, .int .i64 zShape.wide.lo, .int .i64 zShape.wide.hi, .int .i64 zShape.deep.lo, .int .i64 zShape.deep.hi, .int .i64 zShape.high.lo, .int .i64 zShape.high.hi, .int .i64 zShape.nest, .int .i64 zShape.weight.lo, .int .i64 zShape.weight.hi, .int .i64 zShape.bears], .int .i64 10]) (by simp [results, Try.results26, go_sem, hc, hf, zShape, zR]) rfl) ⟨by rw [HV.out], by (repeat (first | (with_reducible exact Below.refl _ _) | (with_reducible refine Below.nset ?_ ?_ _) | (with_reducible refine Below.nalloc ?_ _) | (with_reducible refine Below.ndrew ?_) | (with_reducible refine Below.ndrewN ?_ _) | (with_reducible refine Below.next ?_ (by assumption)) | (with_reducible refine Below.next ?_ (OldAs.below (by assumption))) | (focus (first | (simp; done) | (simp; omega)))))⟩
end Go.Proofs.Ytcgokimagimamaa
/- Steps of a drawn region by laws of their own: a load, a value put into an interface, a method called through one. -/
namespace Go.Proofs.Ytcgokimagimamaa
open Go.RowKit
section
variable {P : Program} {ρ : Operand → Value} {o : Oper} {t : TypeId} {x : Operand} {p v : Value} {w : World} {name : String} {g : FuncId} {vs : Array Value}
theorem exec_load (hop : o.op = .load t x) (hx : ρ x = p) (h : (Instr.loadAt t p).run P w = .ok v w) : (execOp ρ o).run P w = .ok (.value v) w := by
  unfold execOp; simp only [hop, hx]; simp [h]
theorem exec_iface (hop : o.op = .makeInterface t x) (hx : ρ x = v) (hc : P.concrete t = true) : (execOp ρ o).run P w = .ok (.value (.iface t v)) w := by
  unfold execOp; simp only [hop, hx]; simp [run_makeInterface w t v hc]
theorem exec_invoke (hop : o.op = .call { callee := .invoke x name, args := #[], argTypes := #[] }) (hx : ρ x = p) (h : (invoke (.fn (.method name) #[]) #[p]).run P w = .ok (.enter g vs) w) : (execOp ρ o).run P w = .ok (.enter g vs) w := by
  unfold execOp; simp only [hop, resolve, hx]; simp [h]
end
/-- Each number is less than the next one. -/
def risesB (ids : List Int) : Bool := decide (∀ j, j < ids.length → 0 < j → ids.getD (j - 1) 0 < ids.getD j 0)
theorem rises_yes {ids : List Int} (h : ∀ j, j < ids.length → 0 < j → ids.getD (j - 1) 0 < ids.getD j 0) : risesB ids = true := decide_eq_true h
theorem rises_no {ids : List Int} {j : Nat} (h1 : j < ids.length) (h2 : 0 < j) (h : ¬ ids.getD (j - 1) 0 < ids.getD j 0) : risesB ids = false := decide_eq_false (fun q => h (q j h1 h2))
end Go.Proofs.Ytcgokimagimamaa
