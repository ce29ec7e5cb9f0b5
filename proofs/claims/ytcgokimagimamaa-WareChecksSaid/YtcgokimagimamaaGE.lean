/- Layer 1, the reference: checks, division, lengths and weights fired. What each call answers. -/
import Derived.Test.YtcgokimagimamaaProg
import Derived.Test.YtcgokimagimamaaGA
import Derived.WalkLawsBesides
import Derived.IntWalk
namespace Go.Proofs.Ytcgokimagimamaa
open Go.RowKit
attribute [local go_sem] errIf_true errIf_false
set_option maxHeartbeats 400000
set_option linter.unusedSimpArgs false
set_option linter.unusedVariables false
theorem rIn_any (n lo hi : Int) (w : World) :
    Calls Try.prog 57 #[.int .i64 n, .int .i64 lo, .int .i64 hi] w fun e w' => e = .returned (.bool (inB n lo hi)) ∧ w = w' := by
  go_enter Try.func57, Try.ntmps57
  go_wp2
  all_goals (go_ret; exact ⟨by simp [inB, *] <;> omega, rfl⟩)
theorem rPart_any (a b lo hi : Int) (w : World) :
    Calls Try.prog 65 #[.agg #[.int .i64 a, .int .i64 b], .int .i64 lo, .int .i64 hi] w fun e w' => e = .returned (.bool (partB a b lo hi)) ∧ Below w.heap.size w w' := by
  go_enter Try.func65, Try.ntmps65
  go_wp2
  all_goals (go_ret; exact ⟨by simp [partB, *] <;> omega, by (repeat (first | (with_reducible exact Below.refl _ _) | (with_reducible refine Below.nset ?_ ?_ _) | (with_reducible refine Below.nalloc ?_ _) | (with_reducible refine Below.ndrew ?_) | (with_reducible refine Below.ndrewN ?_ _) | (with_reducible refine Below.next ?_ (by assumption)) | (with_reducible refine Below.next ?_ (OldAs.below (by assumption))) | (focus (first | (simp; done) | (simp; omega)))))⟩)
theorem rCheckBody_any (s : Body) (w : World) :
    Calls Try.prog 46 #[.agg #[.int .i64 s.id, .int .i64 s.shrink.lo, .int .i64 s.shrink.hi, .int .i64 s.loss.lo, .int .i64 s.loss.hi, .int .i64 s.heat.lo, .int .i64 s.heat.hi]] w fun e w' => e = .returned (.int .i64 (errIf (okBody s) 11)) ∧ Below w.heap.size w w' := by
  go_enter Try.func46, Try.ntmps46
  go_wp2_with (first | (go_at_call 57; refine Calls.mono (rIn_any _ _ _ _) ?_; rintro e w' ⟨rfl, rfl⟩) | (go_at_call 65; refine Calls.mono (rPart_any _ _ _ _ _) ?_; rintro e w' ⟨rfl, hb⟩; ((first | (with_reducible have HB2 := Below.next HB hb) | (with_reducible have HB2 := Below.next (Below.nalloc HB _) hb) | have HB2 := hb); (try clear hc hf hz hz1 hz2 hn1 hn2); obtain ⟨hc, hf, hz, hz1, hz2, hn1, hn2⟩ := bcell3 HB2; (try clear HB); have HB := HB2; clear HB2; have hbk := hb; clear hb)))
  all_goals (go_ret; exact ⟨by (first | rfl | ((try clear hc hf hz hz1 hz2 hn1 hn2 HB); simp_all [okBody, errIf, partR])), by (repeat (first | (with_reducible exact Below.refl _ _) | (with_reducible refine Below.nset ?_ ?_ _) | (with_reducible refine Below.nalloc ?_ _) | (with_reducible refine Below.ndrew ?_) | (with_reducible refine Below.ndrewN ?_ _) | (with_reducible refine Below.next ?_ (by assumption)) | (with_reducible refine Below.next ?_ (OldAs.below (by assumption))) | (focus (first | (simp; done) | (simp; omega)))))⟩)
theorem rCheckShape_any (s : Shape) (w : World) :
    Calls Try.prog 42 #[.agg #[.int .i64 s.id, .int .i64 s.wide.lo, .int .i64 s.wide.hi, .int .i64 s.deep.lo, .int .i64 s.deep.hi, .int .i64 s.high.lo, .int .i64 s.high.hi, .int .i64 s.nest, .int .i64 s.weight.lo, .int .i64 s.weight.hi, .int .i64 s.bears]] w fun e w' => e = .returned (.int .i64 (errIf (okShape s) 10)) ∧ Below w.heap.size w w' := by
  go_enter Try.func42, Try.ntmps42
  go_wp2_with (first | (go_at_call 57; refine Calls.mono (rIn_any _ _ _ _) ?_; rintro e w' ⟨rfl, rfl⟩) | (go_at_call 65; refine Calls.mono (rPart_any _ _ _ _ _) ?_; rintro e w' ⟨rfl, hb⟩; ((first | (with_reducible have HB2 := Below.next HB hb) | (with_reducible have HB2 := Below.next (Below.nalloc HB _) hb) | have HB2 := hb); (try clear hc hf hz hz1 hz2 hn1 hn2); obtain ⟨hc, hf, hz, hz1, hz2, hn1, hn2⟩ := bcell3 HB2; (try clear HB); have HB := HB2; clear HB2; have hbk := hb; clear hb)))
  all_goals (go_ret; exact ⟨by (first | rfl | ((try clear hc hf hz hz1 hz2 hn1 hn2 HB); simp_all [okShape, errIf, partR])), by (repeat (first | (with_reducible exact Below.refl _ _) | (with_reducible refine Below.nset ?_ ?_ _) | (with_reducible refine Below.nalloc ?_ _) | (with_reducible refine Below.ndrew ?_) | (with_reducible refine Below.ndrewN ?_ _) | (with_reducible refine Below.next ?_ (by assumption)) | (with_reducible refine Below.next ?_ (OldAs.below (by assumption))) | (focus (first | (simp; done) | (simp; omega)))))⟩)
theorem wrapI {x : Int} (h0 : -1000000000000000000 ≤ x) (h1 : x ≤ 1000000000000000000) : IntKind.i64.wrap x = x := IntWalk.i64_in _ (by omega)
theorem wrap_id {x : Int} (h0 : -1000000000000000000 ≤ x) (h1 : x ≤ 1000000000000000000) : wrap64 x = x := by unfold wrap64; omega
theorem Down_any (n d : Int) (w : World) (hd : 0 < d) (hd2 : d ≤ 1000000000000) (h0 : -1000000000000 ≤ n) (h1 : n ≤ 1000000000000) :
    Calls Try.prog 34 #[.int .i64 n, .int .i64 d] w fun e w' => e = .returned (.int .i64 (n / d)) ∧ w = w' := by
  obtain ⟨q1, q2⟩ := tdiv_bound hd h0 h1 (by omega)
  obtain ⟨r1, r2⟩ := tmod_bound (n := n) hd
  have hq : wrap64 (n.tdiv d) = n.tdiv d := wrap_id (by omega) (by omega)
  have hr : wrap64 (n.tmod d) = n.tmod d := wrap_id (by omega) (by omega)
  have hq1 : wrap64 (n.tdiv d - 1) = n.tdiv d - 1 := wrap_id (by omega) (by omega)
  have hd0 : (d = 0) = False := by simp; omega
  have HF := hidI (tdiv_down (n := n) hd)
  go_enter Try.func34, Try.ntmps34
  by_cases hm : n.tmod d < 0
  · go_wp2
    go_ret
    exact ⟨by rw [← HF.out, if_pos hm]; rfl, rfl⟩
  · go_wp2
    go_ret
    exact ⟨by rw [← HF.out, if_neg (by omega)]; rfl, rfl⟩
theorem Up_any (n d : Int) (w : World) (hd : 0 < d) (hd2 : d ≤ 1000000000000) (h0 : -1000000000000 ≤ n) (h1 : n ≤ 1000000000000) :
    Calls Try.prog 35 #[.int .i64 n, .int .i64 d] w fun e w' => e = .returned (.int .i64 (upDiv n d)) ∧ w = w' := by
  have hb : -1000000000000 ≤ (-n) / d ∧ (-n) / d ≤ 1000000000000 := by
    constructor
    · refine (Int.le_ediv_iff_mul_le hd).2 ?_
      have := Int.mul_le_mul_of_nonneg_left (by omega : 1 ≤ d) (by omega : (0:Int) ≤ 1000000000000)
      rw [Int.neg_mul]; omega
    · by_cases hn : 0 ≤ -n
      · exact Int.le_trans (Int.ediv_le_self d hn) (by omega)
      · have := Int.ediv_neg_of_neg_of_pos (a := -n) (b := d) (by omega) hd; omega
  obtain ⟨b1, b2⟩ := hb
  have hw : wrap64 (-n) = -n := wrap_id (by omega) (by omega)
  have hw2 : wrap64 (-(-n / d)) = -(-n / d) := wrap_id (by omega) (by omega)
  go_enter Try.func35, Try.ntmps35
  go_wp2_with (first | (go_at_call 34; refine Calls.mono (Down_any (-n) d _ hd hd2 (by omega) (by omega)) ?_; rintro e w' ⟨rfl, rfl⟩))
  go_ret
  exact ⟨rfl, rfl⟩
theorem up1000 (n : Int) : upDiv n 1000 = (n + 999) / 1000 := by unfold upDiv; omega
theorem rbecomes_any (wet by_ : Rng) (w : World) (h0 : 0 ≤ wet.lo) (h1 : wet.lo ≤ wet.hi) (h2 : wet.hi ≤ 100000) (h3 : 0 ≤ by_.lo) (h4 : by_.lo ≤ by_.hi) (h5 : by_.hi ≤ 1000) :
    Calls Try.prog 66 #[.agg #[.int .i64 wet.lo, .int .i64 wet.hi], .agg #[.int .i64 by_.lo, .int .i64 by_.hi]] w fun e w' => e = .returned (.agg #[.int .i64 (turnLo wet.lo by_.hi), .int .i64 (turnHi wet.hi by_.lo)]) ∧ Below w.heap.size w w' := by
  obtain ⟨m1, m2⟩ := mul_bound h0 (by omega : wet.lo ≤ 100000) (by omega : 0 ≤ by_.hi) h5
  obtain ⟨m3, m4⟩ := mul_bound (by omega : 0 ≤ wet.hi) h2 h3 (by omega : by_.lo ≤ 1000)
  go_enter Try.func66, Try.ntmps66
  have W1 : IntKind.i64.wrap (1000 - by_.hi) = 1000 - by_.hi := wrapI (by omega) (by omega)
  have W2 : IntKind.i64.wrap (1000 - by_.lo) = 1000 - by_.lo := wrapI (by omega) (by omega)
  have W3 : IntKind.i64.wrap (wet.lo * (1000 - by_.hi)) = wet.lo * (1000 - by_.hi) := wrapI (by omega) (by omega)
  have W4 : IntKind.i64.wrap (wet.hi * (1000 - by_.lo)) = wet.hi * (1000 - by_.lo) := wrapI (by omega) (by omega)
  go_wp2_with fail
  refine lin_begin 15 (by kernel_rfl) (by kernel_rfl) ?_
  (refine lin_take 0 (v := ?_) (by decide) rfl (by kernel_rfl) (by kernel_rfl) (by kernel_rfl) (fun _ _ _ h => h) (by rfl) (by (intro w hS hcl; first | (go_simp; done) | (go_simp; rfl))) ?_)
  (refine lin_take 1 (v := ?_) (by decide) rfl (by kernel_rfl) (by kernel_rfl) (by kernel_rfl) (fun _ _ _ h => h) (by rfl) (by (intro w hS hcl; first | (go_simp; done) | (go_simp; rfl))) ?_)
  (refine lin_take 2 (v := ?_) (by decide) rfl (by kernel_rfl) (by kernel_rfl) (by kernel_rfl) (fun _ _ _ h => h) (by rfl) (by (intro w hS hcl; first | (go_simp; done) | (go_simp; rfl))) ?_)
  (refine lin_take 3 (v := ?_) (by decide) rfl (by kernel_rfl) (by kernel_rfl) (by kernel_rfl) (fun _ _ _ h => h) (by rfl) (by (intro w hS hcl; first | (go_simp; done) | (go_simp; rfl))) ?_)
  (refine lin_take 4 (v := ?_) (by decide) rfl (by kernel_rfl) (by kernel_rfl) (by kernel_rfl) (fun _ _ _ h => h) (by rfl) (by (intro w hS hcl; first | (go_simp; done) | (go_simp; rfl))) ?_)
  (refine lin_take 5 (v := ?_) (by decide) rfl (by kernel_rfl) (by kernel_rfl) (by kernel_rfl) (fun _ _ _ h => h) (by rfl) (by (intro w hS hcl; first | (go_simp; done) | (go_simp; rfl))) ?_)
  (refine lin_call 6 (by decide) rfl (by kernel_rfl) (by kernel_rfl) (by kernel_rfl) (fun _ _ _ h => h) (by rfl) (by (intro w; first | (go_simp; done) | (go_simp; rfl))) (fun w1 hS _ => calls_eq (Down_any _ 1000 _ (by omega) (by omega) (by omega) (by omega))) ?_)
  (refine lin_take 7 (v := ?_) (by decide) rfl (by kernel_rfl) (by kernel_rfl) (by kernel_rfl) (fun _ _ _ h => h) (by rfl) (by (intro w hS hcl; first | (go_simp; done) | (go_simp; rfl))) ?_)
  (refine lin_take 8 (v := ?_) (by decide) rfl (by kernel_rfl) (by kernel_rfl) (by kernel_rfl) (fun _ _ _ h => h) (by rfl) (by (intro w hS hcl; first | (go_simp; done) | (go_simp; rfl))) ?_)
  (refine lin_take 9 (v := ?_) (by decide) rfl (by kernel_rfl) (by kernel_rfl) (by kernel_rfl) (fun _ _ _ h => h) (by rfl) (by (intro w hS hcl; first | (go_simp; done) | (go_simp; rfl))) ?_)
  (refine lin_take 10 (v := ?_) (by decide) rfl (by kernel_rfl) (by kernel_rfl) (by kernel_rfl) (fun _ _ _ h => h) (by rfl) (by (intro w hS hcl; first | (go_simp; done) | (go_simp; rfl))) ?_)
  (refine lin_take 11 (v := ?_) (by decide) rfl (by kernel_rfl) (by kernel_rfl) (by kernel_rfl) (fun _ _ _ h => h) (by rfl) (by (intro w hS hcl; first | (go_simp; done) | (go_simp; rfl))) ?_)
  (refine lin_take 12 (v := ?_) (by decide) rfl (by kernel_rfl) (by kernel_rfl) (by kernel_rfl) (fun _ _ _ h => h) (by rfl) (by (intro w hS hcl; first | (go_simp; done) | (go_simp; rfl))) ?_)
  (refine lin_call 13 (by decide) rfl (by kernel_rfl) (by kernel_rfl) (by kernel_rfl) (fun _ _ _ h => h) (by rfl) (by (intro w; first | (go_simp; done) | (go_simp; rfl))) (fun w1 hS _ => calls_eq (Up_any _ 1000 _ (by omega) (by omega) (by omega) (by omega))) ?_)
  (refine lin_take 14 (v := ?_) (by decide) rfl (by kernel_rfl) (by kernel_rfl) (by kernel_rfl) (fun _ _ _ h => h) (by rfl) (by (intro w hS hcl; first | (go_simp; done) | (go_simp; rfl))) ?_)
  refine lin_last rfl (by kernel_rfl) (by kernel_rfl) (by rfl) (fun w1 hS hcl hfr K hK => ?_)
  go_wp2
  exact (bodyPost_ret (v := .agg #[.int .i64 (turnLo wet.lo by_.hi), .int .i64 (turnHi wet.hi by_.lo)]) (by simp [results, Try.results66, go_sem, hcl, up1000, turnLo, turnHi]) rfl) ⟨rfl, by (repeat (first | (with_reducible exact Below.refl _ _) | (with_reducible refine Below.nset ?_ ?_ _) | (with_reducible refine Below.nalloc ?_ _) | (with_reducible refine Below.ndrew ?_) | (with_reducible refine Below.ndrewN ?_ _) | (with_reducible refine Below.next ?_ (by assumption)) | (with_reducible refine Below.next ?_ (OldAs.below (by assumption))) | (focus (first | (simp; done) | (simp; omega)))))⟩
theorem rShrunk_any (b : Body) (wet : Rng) (w : World) :
    Calls Try.prog 29 #[.agg #[.int .i64 b.id, .int .i64 b.shrink.lo, .int .i64 b.shrink.hi, .int .i64 b.loss.lo, .int .i64 b.loss.hi, .int .i64 b.heat.lo, .int .i64 b.heat.hi], .agg #[.int .i64 wet.lo, .int .i64 wet.hi]] w fun e w' =>
      e = .returned (.tuple #[.agg #[.int .i64 ((firedS b wet 2000 b.shrink).1.lo), .int .i64 ((firedS b wet 2000 b.shrink).1.hi)], .int .i64 ((firedS b wet 2000 b.shrink).2)]) ∧ Below w.heap.size w w' := by
  by_cases hb : okBody b = true
  · have hbo := okBody_iff.1 hb
    by_cases hp : partB wet.lo wet.hi 0 2000 = true
    · obtain ⟨p1, p2, p3⟩ := partB_iff.1 hp
      have HV : Hid (firedS b wet 2000 b.shrink = (becomesR wet b.shrink, 0)) := by unfold Hid; simp [firedS, hb, partR, hp]
      go_enter Try.func29, Try.ntmps29
      go_wp2_with (first | (go_at_call 46; refine Calls.mono (rCheckBody_any b _) ?_; rintro e w' ⟨rfl, hb⟩; ((first | (with_reducible have HB2 := Below.next HB hb) | (with_reducible have HB2 := Below.next (Below.nalloc HB _) hb) | have HB2 := hb); (try clear hc hf hz hz1 hz2 hn1 hn2); obtain ⟨hc, hf, hz, hz1, hz2, hn1, hn2⟩ := bcell3 HB2; (try clear HB); have HB := HB2; clear HB2; have hbk := hb; clear hb)) | (go_at_call 65; refine Calls.mono (rPart_any _ _ _ _ _) ?_; rintro e w' ⟨rfl, hb⟩; ((first | (with_reducible have HB2 := Below.next HB hb) | (with_reducible have HB2 := Below.next (Below.nalloc HB _) hb) | have HB2 := hb); (try clear hc hf hz hz1 hz2 hn1 hn2); obtain ⟨hc, hf, hz, hz1, hz2, hn1, hn2⟩ := bcell3 HB2; (try clear HB); have HB := HB2; clear HB2; have hbk := hb; clear hb)) | (go_at_call 66; refine Calls.mono (rbecomes_any wet b.shrink _ p1 p2 (by omega) hbo.s1 hbo.s2 (by have := hbo.s3; omega)) ?_; rintro e w' ⟨rfl, hb⟩; ((first | (with_reducible have HB2 := Below.next HB hb) | (with_reducible have HB2 := Below.next (Below.nalloc HB _) hb) | have HB2 := hb); (try clear hc hf hz hz1 hz2 hn1 hn2); obtain ⟨hc, hf, hz, hz1, hz2, hn1, hn2⟩ := bcell3 HB2; (try clear HB); have HB := HB2; clear HB2; have hbk := hb; clear hb)))
      exact (bodyPost_ret (v := .tuple #[.agg #[.int .i64 (turnLo wet.lo b.shrink.hi), .int .i64 (turnHi wet.hi b.shrink.lo)], .int .i64 0]) (by simp [results, Try.results29, go_sem, hc, hf]) rfl) ⟨by rw [HV.out]; rfl, by (repeat (first | (with_reducible exact Below.refl _ _) | (with_reducible refine Below.nset ?_ ?_ _) | (with_reducible refine Below.nalloc ?_ _) | (with_reducible refine Below.ndrew ?_) | (with_reducible refine Below.ndrewN ?_ _) | (with_reducible refine Below.next ?_ (by assumption)) | (with_reducible refine Below.next ?_ (OldAs.below (by assumption))) | (focus (first | (simp; done) | (simp; omega)))))⟩
    · have hp' : partB wet.lo wet.hi 0 2000 = false := by simpa using hp
      have HV : Hid (firedS b wet 2000 b.shrink = (zR, 1)) := by unfold Hid; simp [firedS, hb, partR, hp']
      clear hp
      go_enter Try.func29, Try.ntmps29
      go_wp2_with (first | (go_at_call 46; refine Calls.mono (rCheckBody_any b _) ?_; rintro e w' ⟨rfl, hb⟩; ((first | (with_reducible have HB2 := Below.next HB hb) | (with_reducible have HB2 := Below.next (Below.nalloc HB _) hb) | have HB2 := hb); (try clear hc hf hz hz1 hz2 hn1 hn2); obtain ⟨hc, hf, hz, hz1, hz2, hn1, hn2⟩ := bcell3 HB2; (try clear HB); have HB := HB2; clear HB2; have hbk := hb; clear hb)) | (go_at_call 65; refine Calls.mono (rPart_any _ _ _ _ _) ?_; rintro e w' ⟨rfl, hb⟩; ((first | (with_reducible have HB2 := Below.next HB hb) | (with_reducible have HB2 := Below.next (Below.nalloc HB _) hb) | have HB2 := hb); (try clear hc hf hz hz1 hz2 hn1 hn2); obtain ⟨hc, hf, hz, hz1, hz2, hn1, hn2⟩ := bcell3 HB2; (try clear HB); have HB := HB2; clear HB2; have hbk := hb; clear hb)))
      exact (bodyPost_ret (v := .tuple #[.agg #[.int .i64 0, .int .i64 0], .int .i64 1]) (by simp [results, Try.results29, go_sem, hc, hf]) rfl) ⟨by rw [HV.out]; rfl, by (repeat (first | (with_reducible exact Below.refl _ _) | (with_reducible refine Below.nset ?_ ?_ _) | (with_reducible refine Below.nalloc ?_ _) | (with_reducible refine Below.ndrew ?_) | (with_reducible refine Below.ndrewN ?_ _) | (with_reducible refine Below.next ?_ (by assumption)) | (with_reducible refine Below.next ?_ (OldAs.below (by assumption))) | (focus (first | (simp; done) | (simp; omega)))))⟩
  · have hb' : okBody b = false := by simpa using hb
    have HV : Hid (firedS b wet 2000 b.shrink = (zR, 11)) := by unfold Hid; simp [firedS, hb']
    clear hb
    go_enter Try.func29, Try.ntmps29
    go_wp2_with (first | (go_at_call 46; refine Calls.mono (rCheckBody_any b _) ?_; rintro e w' ⟨rfl, hb⟩; ((first | (with_reducible have HB2 := Below.next HB hb) | (with_reducible have HB2 := Below.next (Below.nalloc HB _) hb) | have HB2 := hb); (try clear hc hf hz hz1 hz2 hn1 hn2); obtain ⟨hc, hf, hz, hz1, hz2, hn1, hn2⟩ := bcell3 HB2; (try clear HB); have HB := HB2; clear HB2; have hbk := hb; clear hb)))
    exact (bodyPost_ret (v := .tuple #[.agg #[.int .i64 0, .int .i64 0], .int .i64 11]) (by simp [results, Try.results29, go_sem, hc, hf]) rfl) ⟨by rw [HV.out]; rfl, by (repeat (first | (with_reducible exact Below.refl _ _) | (with_reducible refine Below.nset ?_ ?_ _) | (with_reducible refine Below.nalloc ?_ _) | (with_reducible refine Below.ndrew ?_) | (with_reducible refine Below.ndrewN ?_ _) | (with_reducible refine Below.next ?_ (by assumption)) | (with_reducible refine Below.next ?_ (OldAs.below (by assumption))) | (focus (first | (simp; done) | (simp; omega)))))⟩
theorem rBurnt_any (b : Body) (wet : Rng) (w : World) :
    Calls Try.prog 31 #[.agg #[.int .i64 b.id, .int .i64 b.shrink.lo, .int .i64 b.shrink.hi, .int .i64 b.loss.lo, .int .i64 b.loss.hi, .int .i64 b.heat.lo, .int .i64 b.heat.hi], .agg #[.int .i64 wet.lo, .int .i64 wet.hi]] w fun e w' =>
      e = .returned (.tuple #[.agg #[.int .i64 ((firedS b wet 100000 b.loss).1.lo), .int .i64 ((firedS b wet 100000 b.loss).1.hi)], .int .i64 ((firedS b wet 100000 b.loss).2)]) ∧ Below w.heap.size w w' := by
  by_cases hb : okBody b = true
  · have hbo := okBody_iff.1 hb
    by_cases hp : partB wet.lo wet.hi 0 100000 = true
    · obtain ⟨p1, p2, p3⟩ := partB_iff.1 hp
      have HV : Hid (firedS b wet 100000 b.loss = (becomesR wet b.loss, 0)) := by unfold Hid; simp [firedS, hb, partR, hp]
      go_enter Try.func31, Try.ntmps31
      go_wp2_with (first | (go_at_call 46; refine Calls.mono (rCheckBody_any b _) ?_; rintro e w' ⟨rfl, hb⟩; ((first | (with_reducible have HB2 := Below.next HB hb) | (with_reducible have HB2 := Below.next (Below.nalloc HB _) hb) | have HB2 := hb); (try clear hc hf hz hz1 hz2 hn1 hn2); obtain ⟨hc, hf, hz, hz1, hz2, hn1, hn2⟩ := bcell3 HB2; (try clear HB); have HB := HB2; clear HB2; have hbk := hb; clear hb)) | (go_at_call 65; refine Calls.mono (rPart_any _ _ _ _ _) ?_; rintro e w' ⟨rfl, hb⟩; ((first | (with_reducible have HB2 := Below.next HB hb) | (with_reducible have HB2 := Below.next (Below.nalloc HB _) hb) | have HB2 := hb); (try clear hc hf hz hz1 hz2 hn1 hn2); obtain ⟨hc, hf, hz, hz1, hz2, hn1, hn2⟩ := bcell3 HB2; (try clear HB); have HB := HB2; clear HB2; have hbk := hb; clear hb)) | (go_at_call 66; refine Calls.mono (rbecomes_any wet b.loss _ p1 p2 (by omega) hbo.l1 hbo.l2 (by have := hbo.l3; omega)) ?_; rintro e w' ⟨rfl, hb⟩; ((first | (with_reducible have HB2 := Below.next HB hb) | (with_reducible have HB2 := Below.next (Below.nalloc HB _) hb) | have HB2 := hb); (try clear hc hf hz hz1 hz2 hn1 hn2); obtain ⟨hc, hf, hz, hz1, hz2, hn1, hn2⟩ := bcell3 HB2; (try clear HB); have HB := HB2; clear HB2; have hbk := hb; clear hb)))
      exact (bodyPost_ret (v := .tuple #[.agg #[.int .i64 (turnLo wet.lo b.loss.hi), .int .i64 (turnHi wet.hi b.loss.lo)], .int .i64 0]) (by simp [results, Try.results31, go_sem, hc, hf]) rfl) ⟨by rw [HV.out]; rfl, by (repeat (first | (with_reducible exact Below.refl _ _) | (with_reducible refine Below.nset ?_ ?_ _) | (with_reducible refine Below.nalloc ?_ _) | (with_reducible refine Below.ndrew ?_) | (with_reducible refine Below.ndrewN ?_ _) | (with_reducible refine Below.next ?_ (by assumption)) | (with_reducible refine Below.next ?_ (OldAs.below (by assumption))) | (focus (first | (simp; done) | (simp; omega)))))⟩
    · have hp' : partB wet.lo wet.hi 0 100000 = false := by simpa using hp
      have HV : Hid (firedS b wet 100000 b.loss = (zR, 1)) := by unfold Hid; simp [firedS, hb, partR, hp']
      clear hp
      go_enter Try.func31, Try.ntmps31
      go_wp2_with (first | (go_at_call 46; refine Calls.mono (rCheckBody_any b _) ?_; rintro e w' ⟨rfl, hb⟩; ((first | (with_reducible have HB2 := Below.next HB hb) | (with_reducible have HB2 := Below.next (Below.nalloc HB _) hb) | have HB2 := hb); (try clear hc hf hz hz1 hz2 hn1 hn2); obtain ⟨hc, hf, hz, hz1, hz2, hn1, hn2⟩ := bcell3 HB2; (try clear HB); have HB := HB2; clear HB2; have hbk := hb; clear hb)) | (go_at_call 65; refine Calls.mono (rPart_any _ _ _ _ _) ?_; rintro e w' ⟨rfl, hb⟩; ((first | (with_reducible have HB2 := Below.next HB hb) | (with_reducible have HB2 := Below.next (Below.nalloc HB _) hb) | have HB2 := hb); (try clear hc hf hz hz1 hz2 hn1 hn2); obtain ⟨hc, hf, hz, hz1, hz2, hn1, hn2⟩ := bcell3 HB2; (try clear HB); have HB := HB2; clear HB2; have hbk := hb; clear hb)))
      exact (bodyPost_ret (v := .tuple #[.agg #[.int .i64 0, .int .i64 0], .int .i64 1]) (by simp [results, Try.results31, go_sem, hc, hf]) rfl) ⟨by rw [HV.out]; rfl, by (repeat (first | (with_reducible exact Below.refl _ _) | (with_reducible refine Below.nset ?_ ?_ _) | (with_reducible refine Below.nalloc ?_ _) | (with_reducible refine Below.ndrew ?_) | (with_reducible refine Below.ndrewN ?_ _) | (with_reducible refine Below.next ?_ (by assumption)) | (with_reducible refine Below.next ?_ (OldAs.below (by assumption))) | (focus (first | (simp; done) | (simp; omega)))))⟩
  · have hb' : okBody b = false := by simpa using hb
    have HV : Hid (firedS b wet 100000 b.loss = (zR, 11)) := by unfold Hid; simp [firedS, hb']
    clear hb
    go_enter Try.func31, Try.ntmps31
    go_wp2_with (first | (go_at_call 46; refine Calls.mono (rCheckBody_any b _) ?_; rintro e w' ⟨rfl, hb⟩; ((first | (with_reducible have HB2 := Below.next HB hb) | (with_reducible have HB2 := Below.next (Below.nalloc HB _) hb) | have HB2 := hb); (try clear hc hf hz hz1 hz2 hn1 hn2); obtain ⟨hc, hf, hz, hz1, hz2, hn1, hn2⟩ := bcell3 HB2; (try clear HB); have HB := HB2; clear HB2; have hbk := hb; clear hb)))
    exact (bodyPost_ret (v := .tuple #[.agg #[.int .i64 0, .int .i64 0], .int .i64 11]) (by simp [results, Try.results31, go_sem, hc, hf]) rfl) ⟨by rw [HV.out]; rfl, by (repeat (first | (with_reducible exact Below.refl _ _) | (with_reducible refine Below.nset ?_ ?_ _) | (with_reducible refine Below.nalloc ?_ _) | (with_reducible refine Below.ndrew ?_) | (with_reducible refine Below.ndrewN ?_ _) | (with_reducible refine Below.next ?_ (by assumption)) | (with_reducible refine Below.next ?_ (OldAs.below (by assumption))) | (focus (first | (simp; done) | (simp; omega)))))⟩
end Go.Proofs.Ytcgokimagimamaa
/- Layer 1, the reference: moulds, fired shapes, piles. What each call answers. -/
namespace Go.Proofs.Ytcgokimagimamaa
open Go.RowKit
attribute [local go_sem] errIf_true errIf_false
set_option maxHeartbeats 400000
set_option linter.unusedSimpArgs false
set_option linter.unusedVariables false
theorem rbecomes_ints (a b c d : Int) (w : World) (h0 : 0 ≤ a) (h1 : a ≤ b) (h2 : b ≤ 100000) (h3 : 0 ≤ c) (h4 : c ≤ d) (h5 : d ≤ 1000) :
    Calls Try.prog 66 #[.agg #[.int .i64 a, .int .i64 b], .agg #[.int .i64 c, .int .i64 d]] w fun e w' => e = .returned (.agg #[.int .i64 (turnLo a d), .int .i64 (turnHi b c)]) ∧ Below w.heap.size w w' :=
  rbecomes_any ⟨a, b⟩ ⟨c, d⟩ w h0 h1 h2 h3 h4 h5
theorem rcheckPile_any (s : Shape) (many : Int) (w : World) :
    Calls Try.prog 53 #[.agg #[.int .i64 s.id, .int .i64 s.wide.lo, .int .i64 s.wide.hi, .int .i64 s.deep.lo, .int .i64 s.deep.hi, .int .i64 s.high.lo, .int .i64 s.high.hi, .int .i64 s.nest, .int .i64 s.weight.lo, .int .i64 s.weight.hi, .int .i64 s.bears], .int .i64 many] w fun e w' => e = .returned (.int .i64 (pileErr s many)) ∧ Below w.heap.size w w' := by
  by_cases hs : okShape s = true
  · have HV : Hid (pileErr s many = if inB many 1 40 then 0 else 14) := by unfold Hid; simp [pileErr, hs]
    go_enter Try.func53, Try.ntmps53
    go_wp2_with (first | (go_at_call 42; refine Calls.mono (rCheckShape_any s _) ?_; rintro e w' ⟨rfl, hb⟩; ((first | (with_reducible have HB2 := Below.next HB hb) | (with_reducible have HB2 := Below.next (Below.nalloc HB _) hb) | have HB2 := hb); (try clear hc hf hz hz1 hz2 hn1 hn2); obtain ⟨hc, hf, hz, hz1, hz2, hn1, hn2⟩ := bcell3 HB2; (try clear HB); have HB := HB2; clear HB2; have hbk := hb; clear hb)) | (go_at_call 57; refine Calls.mono (rIn_any _ _ _ _) ?_; rintro e w' ⟨rfl, rfl⟩))
    all_goals (go_ret; exact ⟨by rw [HV.out]; simp_all, by (repeat (first | (with_reducible exact Below.refl _ _) | (with_reducible refine Below.nset ?_ ?_ _) | (with_reducible refine Below.nalloc ?_ _) | (with_reducible refine Below.ndrew ?_) | (with_reducible refine Below.ndrewN ?_ _) | (with_reducible refine Below.next ?_ (by assumption)) | (with_reducible refine Below.next ?_ (OldAs.below (by assumption))) | (focus (first | (simp; done) | (simp; omega)))))⟩)
  · have hs' : okShape s = false := by simpa using hs
    have HV : Hid (pileErr s many = 10) := by unfold Hid; simp [pileErr, hs']
    clear hs
    go_enter Try.func53, Try.ntmps53
    go_wp2_with (first | (go_at_call 42; refine Calls.mono (rCheckShape_any s _) ?_; rintro e w' ⟨rfl, hb⟩; ((first | (with_reducible have HB2 := Below.next HB hb) | (with_reducible have HB2 := Below.next (Below.nalloc HB _) hb) | have HB2 := hb); (try clear hc hf hz hz1 hz2 hn1 hn2); obtain ⟨hc, hf, hz, hz1, hz2, hn1, hn2⟩ := bcell3 HB2; (try clear HB); have HB := HB2; clear HB2; have hbk := hb; clear hb)))
    all_goals (go_ret; exact ⟨by rw [HV.out]; rfl, by (repeat (first | (with_reducible exact Below.refl _ _) | (with_reducible refine Below.nset ?_ ?_ _) | (with_reducible refine Below.nalloc ?_ _) | (with_reducible refine Below.ndrew ?_) | (with_reducible refine Below.ndrewN ?_ _) | (with_reducible refine Below.next ?_ (by assumption)) | (with_reducible refine Below.next ?_ (OldAs.below (by assumption))) | (focus (first | (simp; done) | (simp; omega)))))⟩)
theorem pileErr_zero {s : Shape} {many : Int} (hs : pileErr s many = 0) : ShapeOk s ∧ 1 ≤ many ∧ many ≤ 40 := by
  obtain ⟨o1, o2⟩ : okShape s = true ∧ inB many 1 40 = true := by unfold pileErr at hs; split at hs <;> (try split at hs) <;> simp_all
  exact ⟨okShape_iff.1 o1, inB_iff.1 o2⟩
theorem rheight_any (s : Shape) (many : Int) (w : World) (o : ShapeOk s) (o4 : 1 ≤ many) (o5 : many ≤ 40) :
    Calls Try.prog 54 #[.agg #[.int .i64 s.id, .int .i64 s.wide.lo, .int .i64 s.wide.hi, .int .i64 s.deep.lo, .int .i64 s.deep.hi, .int .i64 s.high.lo, .int .i64 s.high.hi, .int .i64 s.nest, .int .i64 s.weight.lo, .int .i64 s.weight.hi, .int .i64 s.bears], .int .i64 many] w fun e w' =>
      e = .returned (.agg #[.int .i64 (pileHigh s.high.lo s.nest many), .int .i64 (pileHigh s.high.hi s.nest many)]) ∧ Below w.heap.size w w' := by
  have n1 := o.n1
  have n2 := o.n2
  have n3 := o.h2
  have n4 := o.h3
  obtain ⟨m1, m2⟩ := pile_bound n1 n2 (by omega) o4 o5
  obtain ⟨m3, m4⟩ := pile_bound n1 (by omega : s.nest ≤ s.high.hi) n4 o4 o5
  clear o
  go_enter Try.func54, Try.ntmps54
  go_wp2
  exact (bodyPost_ret (v := .agg #[.int .i64 (pileHigh s.high.lo s.nest many), .int .i64 (pileHigh s.high.hi s.nest many)]) (by simp [results, Try.results54, go_sem, pileHigh]) rfl) ⟨rfl, by (repeat (first | (with_reducible exact Below.refl _ _) | (with_reducible refine Below.nset ?_ ?_ _) | (with_reducible refine Below.nalloc ?_ _) | (with_reducible refine Below.ndrew ?_) | (with_reducible refine Below.ndrewN ?_ _) | (with_reducible refine Below.next ?_ (by assumption)) | (with_reducible refine Below.next ?_ (OldAs.below (by assumption))) | (focus (first | (simp; done) | (simp; omega)))))⟩
theorem rHeight_any (s : Shape) (many : Int) (w : World) :
    Calls Try.prog 12 #[.agg #[.int .i64 s.id, .int .i64 s.wide.lo, .int .i64 s.wide.hi, .int .i64 s.deep.lo, .int .i64 s.deep.hi, .int .i64 s.high.lo, .int .i64 s.high.hi, .int .i64 s.nest, .int .i64 s.weight.lo, .int .i64 s.weight.hi, .int .i64 s.bears], .int .i64 many] w fun e w' =>
      e = .returned (.tuple #[.agg #[.int .i64 ((heightS s many).1.lo), .int .i64 ((heightS s many).1.hi)], .int .i64 ((heightS s many).2)]) ∧ Below w.heap.size w w' := by
  by_cases hs : pileErr s many = 0
  · have HV : Hid (heightS s many = (⟨pileHigh s.high.lo s.nest many, pileHigh s.high.hi s.nest many⟩, 0)) := by unfold Hid; simp [heightS, hs]
    have o := pileErr_zero hs
    go_enter Try.func12, Try.ntmps12
    go_wp2_with (first | (go_at_call 53; refine Calls.mono (rcheckPile_any s many _) ?_; rintro e w' ⟨rfl, hb⟩; ((first | (with_reducible have HB2 := Below.next HB hb) | (with_reducible have HB2 := Below.next (Below.nalloc HB _) hb) | have HB2 := hb); (try clear hc hf hz hz1 hz2 hn1 hn2); obtain ⟨hc, hf, hz, hz1, hz2, hn1, hn2⟩ := bcell3 HB2; (try clear HB); have HB := HB2; clear HB2; have hbk := hb; clear hb)) | (go_at_call 54; refine Calls.mono (rheight_any s many _ o.1 o.2.1 o.2.2) ?_; rintro e w' ⟨rfl, hb⟩; ((first | (with_reducible have HB2 := Below.next HB hb) | (with_reducible have HB2 := Below.next (Below.nalloc HB _) hb) | have HB2 := hb); (try clear hc hf hz hz1 hz2 hn1 hn2); obtain ⟨hc, hf, hz, hz1, hz2, hn1, hn2⟩ := bcell3 HB2; (try clear HB); have HB := HB2; clear HB2; have hbk := hb; clear hb)))
    exact (bodyPost_ret (v := .tuple #[.agg #[.int .i64 (pileHigh s.high.lo s.nest many), .int .i64 (pileHigh s.high.hi s.nest many)], .int .i64 0]) (by simp [results, Try.results12, go_sem, hc, hf]) rfl) ⟨by rw [HV.out], by (repeat (first | (with_reducible exact Below.refl _ _) | (with_reducible refine Below.nset ?_ ?_ _) | (with_reducible refine Below.nalloc ?_ _) | (with_reducible refine Below.ndrew ?_) | (with_reducible refine Below.ndrewN ?_ _) | (with_reducible refine Below.next ?_ (by assumption)) | (with_reducible refine Below.next ?_ (OldAs.below (by assumption))) | (focus (first | (simp; done) | (simp; omega)))))⟩
  · have HV : Hid (heightS s many = (zR, pileErr s many)) := by unfold Hid; simp [heightS, hs]
    go_enter Try.func12, Try.ntmps12
    go_wp2_with (first | (go_at_call 53; refine Calls.mono (rcheckPile_any s many _) ?_; rintro e w' ⟨rfl, hb⟩; ((first | (with_reducible have HB2 := Below.next HB hb) | (with_reducible have HB2 := Below.next (Below.nalloc HB _) hb) | have HB2 := hb); (try clear hc hf hz hz1 hz2 hn1 hn2); obtain ⟨hc, hf, hz, hz1, hz2, hn1, hn2⟩ := bcell3 HB2; (try clear HB); have HB := HB2; clear HB2; have hbk := hb; clear hb)))
    exact (bodyPost_ret (v := .tuple #[.agg #[.int .i64 0, .int .i64 0], .int .i64 (pileErr s many)]) (by simp [results, Try.results12, go_sem, hc, hf]) rfl) ⟨by rw [HV.out]; rfl, by (repeat (first | (with_reducible exact Below.refl _ _) | (with_reducible refine Below.nset ?_ ?_ _) | (with_reducible refine Below.nalloc ?_ _) | (with_reducible refine Below.ndrew ?_) | (with_reducible refine Below.ndrewN ?_ _) | (with_reducible refine Below.next ?_ (by assumption)) | (with_reducible refine Below.next ?_ (OldAs.below (by assumption))) | (focus (first | (simp; done) | (simp; omega)))))⟩
theorem rLoad_any (s : Shape) (many at_ : Int) (w : World) :
    Calls Try.prog 14 #[.agg #[.int .i64 s.id, .int .i64 s.wide.lo, .int .i64 s.wide.hi, .int .i64 s.deep.lo, .int .i64 s.deep.hi, .int .i64 s.high.lo, .int .i64 s.high.hi, .int .i64 s.nest, .int .i64 s.weight.lo, .int .i64 s.weight.hi, .int .i64 s.bears], .int .i64 many, .int .i64 at_] w fun e w' =>
      e = .returned (.tuple #[.agg #[.int .i64 ((loadS s many at_).1.lo), .int .i64 ((loadS s many at_).1.hi)], .int .i64 ((loadS s many at_).2)]) ∧ Below w.heap.size w w' := by
  by_cases hs : pileErr s many = 0
  · obtain ⟨o3, o4, o5⟩ := pileErr_zero hs
    have n1 := o3.g1
    have n2 := o3.g2
    have n3 := o3.g3
    clear o3
    by_cases hi : inB at_ 0 (many - 1) = true
    · have HV : Hid (loadS s many at_ = (⟨(many - 1 - at_) * s.weight.lo, (many - 1 - at_) * s.weight.hi⟩, 0)) := by unfold Hid; simp [loadS, hs, hi]
      obtain ⟨a1, a2⟩ := inB_iff.1 hi
      obtain ⟨m1, m2⟩ := load_bound n1 (by omega : s.weight.lo ≤ 100000) a1 a2 o5
      obtain ⟨m3, m4⟩ := load_bound (by omega : 0 ≤ s.weight.hi) n3 a1 a2 o5
      go_enter Try.func14, Try.ntmps14
      go_wp2_with (first | (go_at_call 53; refine Calls.mono (rcheckPile_any s many _) ?_; rintro e w' ⟨rfl, hb⟩; ((first | (with_reducible have HB2 := Below.next HB hb) | (with_reducible have HB2 := Below.next (Below.nalloc HB _) hb) | have HB2 := hb); (try clear hc hf hz hz1 hz2 hn1 hn2); obtain ⟨hc, hf, hz, hz1, hz2, hn1, hn2⟩ := bcell3 HB2; (try clear HB); have HB := HB2; clear HB2; have hbk := hb; clear hb)) | (go_at_call 57; refine Calls.mono (rIn_any _ _ _ _) ?_; rintro e w' ⟨rfl, rfl⟩))
      exact (bodyPost_ret (v := .tuple #[.agg #[.int .i64 ((many - 1 - at_) * s.weight.lo), .int .i64 ((many - 1 - at_) * s.weight.hi)], .int .i64 0]) (by simp [results, Try.results14, go_sem, hc, hf]) rfl) ⟨by rw [HV.out], by (repeat (first | (with_reducible exact Below.refl _ _) | (with_reducible refine Below.nset ?_ ?_ _) | (with_reducible refine Below.nalloc ?_ _) | (with_reducible refine Below.ndrew ?_) | (with_reducible refine Below.ndrewN ?_ _) | (with_reducible refine Below.next ?_ (by assumption)) | (with_reducible refine Below.next ?_ (OldAs.below (by assumption))) | (focus (first | (simp; done) | (simp; omega)))))⟩
    · have hi' : inB at_ 0 (many - 1) = false := by simpa using hi
      have HV : Hid (loadS s many at_ = (zR, 1)) := by unfold Hid; simp [loadS, hs, hi']
      clear hi
      go_enter Try.func14, Try.ntmps14
      go_wp2_with (first | (go_at_call 53; refine Calls.mono (rcheckPile_any s many _) ?_; rintro e w' ⟨rfl, hb⟩; ((first | (with_reducible have HB2 := Below.next HB hb) | (with_reducible have HB2 := Below.next (Below.nalloc HB _) hb) | have HB2 := hb); (try clear hc hf hz hz1 hz2 hn1 hn2); obtain ⟨hc, hf, hz, hz1, hz2, hn1, hn2⟩ := bcell3 HB2; (try clear HB); have HB := HB2; clear HB2; have hbk := hb; clear hb)) | (go_at_call 57; refine Calls.mono (rIn_any _ _ _ _) ?_; rintro e w' ⟨rfl, rfl⟩))
      exact (bodyPost_ret (v := .tuple #[.agg #[.int .i64 0, .int .i64 0], .int .i64 1]) (by simp [results, Try.results14, go_sem, hc, hf]) rfl) ⟨by rw [HV.out]; rfl, by (repeat (first | (with_reducible exact Below.refl _ _) | (with_reducible refine Below.nset ?_ ?_ _) | (with_reducible refine Below.nalloc ?_ _) | (with_reducible refine Below.ndrew ?_) | (with_reducible refine Below.ndrewN ?_ _) | (with_reducible refine Below.next ?_ (by assumption)) | (with_reducible refine Below.next ?_ (OldAs.below (by assumption))) | (focus (first | (simp; done) | (simp; omega)))))⟩
  · have HV : Hid (loadS s many at_ = (zR, pileErr s many)) := by unfold Hid; simp [loadS, hs]
    go_enter Try.func14, Try.ntmps14
    go_wp2_with (first | (go_at_call 53; refine Calls.mono (rcheckPile_any s many _) ?_; rintro e w' ⟨rfl, hb⟩; ((first | (with_reducible have HB2 := Below.next HB hb) | (with_reducible have HB2 := Below.next (Below.nalloc HB _) hb) | have HB2 := hb); (try clear hc hf hz hz1 hz2 hn1 hn2); obtain ⟨hc, hf, hz, hz1, hz2, hn1, hn2⟩ := bcell3 HB2; (try clear HB); have HB := HB2; clear HB2; have hbk := hb; clear hb)))
    exact (bodyPost_ret (v := .tuple #[.agg #[.int .i64 0, .int .i64 0], .int .i64 (pileErr s many)]) (by simp [results, Try.results14, go_sem, hc, hf]) rfl) ⟨by rw [HV.out]; rfl, by (repeat (first | (with_reducible exact Below.refl _ _) | (with_reducible refine Below.nset ?_ ?_ _) | (with_reducible refine Below.nalloc ?_ _) | (with_reducible refine Below.ndrew ?_) | (with_reducible refine Below.ndrewN ?_ _) | (with_reducible refine Below.next ?_ (by assumption)) | (with_reducible refine Below.next ?_ (OldAs.below (by assumption))) | (focus (first | (simp; done) | (simp; omega)))))⟩
theorem rStands_any (s : Shape) (many : Int) (w : World) :
    Calls Try.prog 16 #[.agg #[.int .i64 s.id, .int .i64 s.wide.lo, .int .i64 s.wide.hi, .int .i64 s.deep.lo, .int .i64 s.deep.hi, .int .i64 s.high.lo, .int .i64 s.high.hi, .int .i64 s.nest, .int .i64 s.weight.lo, .int .i64 s.weight.hi, .int .i64 s.bears], .int .i64 many] w fun e w' =>
      e = .returned (.tuple #[.bool (standsS s many).1, .int .i64 ((standsS s many).2)]) ∧ Below w.heap.size w w' := by
  by_cases hs : pileErr s many = 0
  · have HV : Hid (standsS s many = (decide ((many - 1) * s.weight.hi ≤ s.bears), 0)) := by unfold Hid; simp [standsS, standsB, hs]
    obtain ⟨o3, o4, o5⟩ := pileErr_zero hs
    obtain ⟨m1, m2⟩ := load_bound (at_ := 0) (by have := o3.g1; have := o3.g2; omega : 0 ≤ s.weight.hi) o3.g3 (by omega) (by omega) o5
    simp only [Int.sub_zero] at m1 m2
    clear o3
    go_enter Try.func16, Try.ntmps16
    go_wp2_with (first | (go_at_call 53; refine Calls.mono (rcheckPile_any s many _) ?_; rintro e w' ⟨rfl, hb⟩; ((first | (with_reducible have HB2 := Below.next HB hb) | (with_reducible have HB2 := Below.next (Below.nalloc HB _) hb) | have HB2 := hb); (try clear hc hf hz hz1 hz2 hn1 hn2); obtain ⟨hc, hf, hz, hz1, hz2, hn1, hn2⟩ := bcell3 HB2; (try clear HB); have HB := HB2; clear HB2; have hbk := hb; clear hb)))
    all_goals (go_ret2; exact ⟨by rw [HV.out]; first | rfl | simp_all, by (repeat (first | (with_reducible exact Below.refl _ _) | (with_reducible refine Below.nset ?_ ?_ _) | (with_reducible refine Below.nalloc ?_ _) | (with_reducible refine Below.ndrew ?_) | (with_reducible refine Below.ndrewN ?_ _) | (with_reducible refine Below.next ?_ (by assumption)) | (with_reducible refine Below.next ?_ (OldAs.below (by assumption))) | (focus (first | (simp; done) | (simp; omega)))))⟩)
  · have HV : Hid (standsS s many = (false, pileErr s many)) := by unfold Hid; simp [standsS, hs]
    go_enter Try.func16, Try.ntmps16
    go_wp2_with (first | (go_at_call 53; refine Calls.mono (rcheckPile_any s many _) ?_; rintro e w' ⟨rfl, hb⟩; ((first | (with_reducible have HB2 := Below.next HB hb) | (with_reducible have HB2 := Below.next (Below.nalloc HB _) hb) | have HB2 := hb); (try clear hc hf hz hz1 hz2 hn1 hn2); obtain ⟨hc, hf, hz, hz1, hz2, hn1, hn2⟩ := bcell3 HB2; (try clear HB); have HB := HB2; clear HB2; have hbk := hb; clear hb)))
    go_ret2
    exact ⟨by rw [HV.out]; rfl, by (repeat (first | (with_reducible exact Below.refl _ _) | (with_reducible refine Below.nset ?_ ?_ _) | (with_reducible refine Below.nalloc ?_ _) | (with_reducible refine Below.ndrew ?_) | (with_reducible refine Below.ndrewN ?_ _) | (with_reducible refine Below.next ?_ (by assumption)) | (with_reducible refine Below.next ?_ (OldAs.below (by assumption))) | (focus (first | (simp; done) | (simp; omega)))))⟩
end Go.Proofs.Ytcgokimagimamaa
/- Layer 1, the reference: moulds, fired shapes, the greatest pile. What each call answers. -/
namespace Go.Proofs.Ytcgokimagimamaa
open Go.RowKit
attribute [local go_sem] errIf_true errIf_false
set_option maxHeartbeats 400000
set_option linter.unusedSimpArgs false
set_option linter.unusedVariables false
theorem rMould_any (b : Body) (dry : Rng) (w : World) :
    Calls Try.prog 32 #[.agg #[.int .i64 b.id, .int .i64 b.shrink.lo, .int .i64 b.shrink.hi, .int .i64 b.loss.lo, .int .i64 b.loss.hi, .int .i64 b.heat.lo, .int .i64 b.heat.hi], .agg #[.int .i64 dry.lo, .int .i64 dry.hi]] w fun e w' =>
      e = .returned (.tuple #[.agg #[.int .i64 ((mouldS b dry).1.lo), .int .i64 ((mouldS b dry).1.hi)], .int .i64 ((mouldS b dry).2)]) ∧ Below w.heap.size w w' := by
  by_cases hb : okBody b = true
  · by_cases hp : partB dry.lo dry.hi 0 2000 = true
    · have HV : Hid (mouldS b dry = if mouldLo b dry > mouldHi b dry then (zR, 3) else (⟨mouldLo b dry, mouldHi b dry⟩, 0)) := by unfold Hid; exact mouldS_eq b dry hb hp
      have hbo := okBody_iff.1 hb
      obtain ⟨p1, p2, p3⟩ := partB_iff.1 hp
      have g1 := hbo.s1
      have g2 := hbo.s2
      have g3 := hbo.s3
      have HL : Hid (upDiv (1000 * dry.lo) (1000 - b.shrink.hi) = mouldLo b dry) := rfl
      have HH : Hid (min (1000 * dry.hi / (1000 - b.shrink.lo)) 2000 = mouldHi b dry) := rfl
      have HU := hidI (fun W : World => Up_any (1000 * dry.lo) (1000 - b.shrink.hi) W (by omega) (by omega) (by omega) (by omega))
      have HD := hidI (fun W : World => Down_any (1000 * dry.hi) (1000 - b.shrink.lo) W (by omega) (by omega) (by omega) (by omega))
      generalize upDiv (1000 * dry.lo) (1000 - b.shrink.hi) = lo at *
      generalize 1000 * dry.hi / (1000 - b.shrink.lo) = hi at *
      clear hbo
      by_cases hq : hi ≤ 2000
      · have HM : Hid (mouldHi b dry = hi) := by unfold Hid at *; rw [← HH]; omega
        clear HH
        go_enter Try.func32, Try.ntmps32
        go_wp2_with (first | (go_at_call 46; refine Calls.mono (rCheckBody_any b _) ?_; rintro e w' ⟨rfl, hb⟩; ((first | (with_reducible have HB2 := Below.next HB hb) | (with_reducible have HB2 := Below.next (Below.nalloc HB _) hb) | have HB2 := hb); (try clear hc hf hz hz1 hz2 hn1 hn2); obtain ⟨hc, hf, hz, hz1, hz2, hn1, hn2⟩ := bcell3 HB2; (try clear HB); have HB := HB2; clear HB2; have hbk := hb; clear hb)) | (go_at_call 65; refine Calls.mono (rPart_any _ _ _ _ _) ?_; rintro e w' ⟨rfl, hb⟩; ((first | (with_reducible have HB2 := Below.next HB hb) | (with_reducible have HB2 := Below.next (Below.nalloc HB _) hb) | have HB2 := hb); (try clear hc hf hz hz1 hz2 hn1 hn2); obtain ⟨hc, hf, hz, hz1, hz2, hn1, hn2⟩ := bcell3 HB2; (try clear HB); have HB := HB2; clear HB2; have hbk := hb; clear hb)) | (go_at_call 35; refine Calls.mono (HU.out _) ?_; rintro e w' ⟨rfl, rfl⟩) | (go_at_call 34; refine Calls.mono (HD.out _) ?_; rintro e w' ⟨rfl, rfl⟩))
        · exact (bodyPost_ret (v := .tuple #[.agg #[.int .i64 0, .int .i64 0], .int .i64 3]) (by simp [results, Try.results32, go_sem, hc, hf]) rfl) ⟨by rw [HV.out, ← HL.out, HM.out, if_pos (by omega)]; rfl, by (repeat (first | (with_reducible exact Below.refl _ _) | (with_reducible refine Below.nset ?_ ?_ _) | (with_reducible refine Below.nalloc ?_ _) | (with_reducible refine Below.ndrew ?_) | (with_reducible refine Below.ndrewN ?_ _) | (with_reducible refine Below.next ?_ (by assumption)) | (with_reducible refine Below.next ?_ (OldAs.below (by assumption))) | (focus (first | (simp; done) | (simp; omega)))))⟩
        · exact (bodyPost_ret (v := .tuple #[.agg #[.int .i64 lo, .int .i64 hi], .int .i64 0]) (by simp [results, Try.results32, go_sem, hc, hf]) rfl) ⟨by rw [HV.out, ← HL.out, HM.out, if_neg (by omega)], by (repeat (first | (with_reducible exact Below.refl _ _) | (with_reducible refine Below.nset ?_ ?_ _) | (with_reducible refine Below.nalloc ?_ _) | (with_reducible refine Below.ndrew ?_) | (with_reducible refine Below.ndrewN ?_ _) | (with_reducible refine Below.next ?_ (by assumption)) | (with_reducible refine Below.next ?_ (OldAs.below (by assumption))) | (focus (first | (simp; done) | (simp; omega)))))⟩
      · have HM : Hid (mouldHi b dry = 2000) := by unfold Hid at *; rw [← HH]; omega
        clear HH
        go_enter Try.func32, Try.ntmps32
        go_wp2_with (first | (go_at_call 46; refine Calls.mono (rCheckBody_any b _) ?_; rintro e w' ⟨rfl, hb⟩; ((first | (with_reducible have HB2 := Below.next HB hb) | (with_reducible have HB2 := Below.next (Below.nalloc HB _) hb) | have HB2 := hb); (try clear hc hf hz hz1 hz2 hn1 hn2); obtain ⟨hc, hf, hz, hz1, hz2, hn1, hn2⟩ := bcell3 HB2; (try clear HB); have HB := HB2; clear HB2; have hbk := hb; clear hb)) | (go_at_call 65; refine Calls.mono (rPart_any _ _ _ _ _) ?_; rintro e w' ⟨rfl, hb⟩; ((first | (with_reducible have HB2 := Below.next HB hb) | (with_reducible have HB2 := Below.next (Below.nalloc HB _) hb) | have HB2 := hb); (try clear hc hf hz hz1 hz2 hn1 hn2); obtain ⟨hc, hf, hz, hz1, hz2, hn1, hn2⟩ := bcell3 HB2; (try clear HB); have HB := HB2; clear HB2; have hbk := hb; clear hb)) | (go_at_call 35; refine Calls.mono (HU.out _) ?_; rintro e w' ⟨rfl, rfl⟩) | (go_at_call 34; refine Calls.mono (HD.out _) ?_; rintro e w' ⟨rfl, rfl⟩))
        · exact (bodyPost_ret (v := .tuple #[.agg #[.int .i64 0, .int .i64 0], .int .i64 3]) (by simp [results, Try.results32, go_sem, hc, hf]) rfl) ⟨by rw [HV.out, ← HL.out, HM.out, if_pos (by omega)]; rfl, by (repeat (first | (with_reducible exact Below.refl _ _) | (with_reducible refine Below.nset ?_ ?_ _) | (with_reducible refine Below.nalloc ?_ _) | (with_reducible refine Below.ndrew ?_) | (with_reducible refine Below.ndrewN ?_ _) | (with_reducible refine Below.next ?_ (by assumption)) | (with_reducible refine Below.next ?_ (OldAs.below (by assumption))) | (focus (first | (simp; done) | (simp; omega)))))⟩
        · exact (bodyPost_ret (v := .tuple #[.agg #[.int .i64 lo, .int .i64 2000], .int .i64 0]) (by simp [results, Try.results32, go_sem, hc, hf]) rfl) ⟨by rw [HV.out, ← HL.out, HM.out, if_neg (by omega)], by (repeat (first | (with_reducible exact Below.refl _ _) | (with_reducible refine Below.nset ?_ ?_ _) | (with_reducible refine Below.nalloc ?_ _) | (with_reducible refine Below.ndrew ?_) | (with_reducible refine Below.ndrewN ?_ _) | (with_reducible refine Below.next ?_ (by assumption)) | (with_reducible refine Below.next ?_ (OldAs.below (by assumption))) | (focus (first | (simp; done) | (simp; omega)))))⟩
    · have hp' : partB dry.lo dry.hi 0 2000 = false := by simpa using hp
      have HV : Hid (mouldS b dry = (zR, 1)) := by unfold Hid; simp [mouldS, hb, partR, hp']
      clear hp
      go_enter Try.func32, Try.ntmps32
      go_wp2_with (first | (go_at_call 46; refine Calls.mono (rCheckBody_any b _) ?_; rintro e w' ⟨rfl, hb⟩; ((first | (with_reducible have HB2 := Below.next HB hb) | (with_reducible have HB2 := Below.next (Below.nalloc HB _) hb) | have HB2 := hb); (try clear hc hf hz hz1 hz2 hn1 hn2); obtain ⟨hc, hf, hz, hz1, hz2, hn1, hn2⟩ := bcell3 HB2; (try clear HB); have HB := HB2; clear HB2; have hbk := hb; clear hb)) | (go_at_call 65; refine Calls.mono (rPart_any _ _ _ _ _) ?_; rintro e w' ⟨rfl, hb⟩; ((first | (with_reducible have HB2 := Below.next HB hb) | (with_reducible have HB2 := Below.next (Below.nalloc HB _) hb) | have HB2 := hb); (try clear hc hf hz hz1 hz2 hn1 hn2); obtain ⟨hc, hf, hz, hz1, hz2, hn1, hn2⟩ := bcell3 HB2; (try clear HB); have HB := HB2; clear HB2; have hbk := hb; clear hb)))
      exact (bodyPost_ret (v := .tuple #[.agg #[.int .i64 0, .int .i64 0], .int .i64 1]) (by simp [results, Try.results32, go_sem, hc, hf]) rfl) ⟨by rw [HV.out]; rfl, by (repeat (first | (with_reducible exact Below.refl _ _) | (with_reducible refine Below.nset ?_ ?_ _) | (with_reducible refine Below.nalloc ?_ _) | (with_reducible refine Below.ndrew ?_) | (with_reducible refine Below.ndrewN ?_ _) | (with_reducible refine Below.next ?_ (by assumption)) | (with_reducible refine Below.next ?_ (OldAs.below (by assumption))) | (focus (first | (simp; done) | (simp; omega)))))⟩
  · have hb' : okBody b = false := by simpa using hb
    have HV : Hid (mouldS b dry = (zR, 11)) := by unfold Hid; simp [mouldS, hb']
    clear hb
    go_enter Try.func32, Try.ntmps32
    go_wp2_with (first | (go_at_call 46; refine Calls.mono (rCheckBody_any b _) ?_; rintro e w' ⟨rfl, hb⟩; ((first | (with_reducible have HB2 := Below.next HB hb) | (with_reducible have HB2 := Below.next (Below.nalloc HB _) hb) | have HB2 := hb); (try clear hc hf hz hz1 hz2 hn1 hn2); obtain ⟨hc, hf, hz, hz1, hz2, hn1, hn2⟩ := bcell3 HB2; (try clear HB); have HB := HB2; clear HB2; have hbk := hb; clear hb)))
    exact (bodyPost_ret (v := .tuple #[.agg #[.int .i64 0, .int .i64 0], .int .i64 11]) (by simp [results, Try.results32, go_sem, hc, hf]) rfl) ⟨by rw [HV.out]; rfl, by (repeat (first | (with_reducible exact Below.refl _ _) | (with_reducible refine Below.nset ?_ ?_ _) | (with_reducible refine Below.nalloc ?_ _) | (with_reducible refine Below.ndrew ?_) | (with_reducible refine Below.ndrewN ?_ _) | (with_reducible refine Below.next ?_ (by assumption)) | (with_reducible refine Below.next ?_ (OldAs.below (by assumption))) | (focus (first | (simp; done) | (simp; omega)))))⟩
set_option maxRecDepth 100000 in
set_option maxHeartbeats 1000000 in
theorem rFired_any (s : Shape) (b : Body) (w : World) :
    Calls Try.prog 33 #[.agg #[.int .i64 s.id, .int .i64 s.wide.lo, .int .i64 s.wide.hi, .int .i64 s.deep.lo, .int .i64 s.deep.hi, .int .i64 s.high.lo, .int .i64 s.high.hi, .int .i64 s.nest, .int .i64 s.weight.lo, .int .i64 s.weight.hi, .int .i64 s.bears], .agg #[.int .i64 b.id, .int .i64 b.shrink.lo, .int .i64 b.shrink.hi, .int .i64 b.loss.lo, .int .i64 b.loss.hi, .int .i64 b.heat.lo, .int .i64 b.heat.hi]] w fun e w' =>
      e = .returned (.tuple #[.agg #[.int .i64 (firedSS s b).1.id, .int .i64 (firedSS s b).1.wide.lo, .int .i64 (firedSS s b).1.wide.hi, .int .i64 (firedSS s b).1.deep.lo, .int .i64 (firedSS s b).1.deep.hi, .int .i64 (firedSS s b).1.high.lo, .int .i64 (firedSS s b).1.high.hi, .int .i64 (firedSS s b).1.nest, .int .i64 (firedSS s b).1.weight.lo, .int .i64 (firedSS s b).1.weight.hi, .int .i64 (firedSS s b).1.bears], .int .i64 ((firedSS s b).2)]) ∧ Below w.heap.size w w' := by
  by_cases hs : okShape s = true
  · by_cases hb : okBody b = true
    · have HV : Hid (firedSS s b = (firedShape s b, 0)) := by unfold Hid; simp [firedSS, hs, hb]
      obtain ⟨a1, a2, a3, a4, a5, a6, a7, a8, a9, a10, a11, a12, a13, a14, a15, a16, a17, a18⟩ := okShape_iff.1 hs
      obtain ⟨b1, b2, b3, b4, b5, b6, b7, b8, b9, b10, b11⟩ := okBody_iff.1 hb
      obtain ⟨m1, m2⟩ := mul_bound (N := 2000) a12 (by omega) (by omega : 0 ≤ b.shrink.hi) (by omega)
      go_enter Try.func33, Try.ntmps33
      go_wp2_with (first | (go_at_call 42; refine Calls.mono (rCheckShape_any s _) ?_; rintro e w' ⟨rfl, hb⟩; ((first | (with_reducible have HB2 := Below.next HB hb) | (with_reducible have HB2 := Below.next (Below.nalloc HB _) hb) | have HB2 := hb); (try clear hc hf hz hz1 hz2 hn1 hn2); obtain ⟨hc, hf, hz, hz1, hz2, hn1, hn2⟩ := bcell3 HB2; (try clear HB); have HB := HB2; clear HB2; have hbk := hb; clear hb)) | (go_at_call 46; refine Calls.mono (rCheckBody_any b _) ?_; rintro e wB ⟨rfl, hb⟩; have hd := (bcell3 hb).1; have hg := (bcell3 hb).2.1; have g0 : w.heap.size + 1 + 1 < w'.heap.size ∧ w.heap.size + 1 + 1 < wB.heap.size := (by have q := HB.size; have q2 := hb.size; simp only [World.size_alloc] at q; omega); have g1 : w.heap.size + 1 < w'.heap.size ∧ w.heap.size + 1 < wB.heap.size := (by omega); have g2 : w.heap.size < w'.heap.size ∧ w.heap.size < wB.heap.size := (by omega); obtain ⟨g3, g4⟩ := g0; obtain ⟨g5, g6⟩ := g1; obtain ⟨g7, g8⟩ := g2) | ((go_at_call 66; refine Calls.mono (rbecomes_ints _ _ _ _ _ (by omega) (by omega) (by omega) (by omega) (by omega) (by omega)) ?_; rintro e w' ⟨rfl, hb⟩; have hd := (bcell3 hb).1; have hg := (bcell3 hb).2.1); (have : w.heap.size < w'.heap.size := by (have hq := hb.size; (try simp only [World.size_alloc, World.size_setCell] at hq); omega)); (have : w.heap.size + 1 < w'.heap.size := by (have hq := hb.size; (try simp only [World.size_alloc, World.size_setCell] at hq); omega)); (have : w.heap.size + 1 + 1 < w'.heap.size := by (have hq := hb.size; (try simp only [World.size_alloc, World.size_setCell] at hq); omega)); (have : wB.heap.size < w'.heap.size := by (have hq := hb.size; (try simp only [World.size_alloc, World.size_setCell] at hq); omega))) | (go_at_call 34; refine Calls.mono (Down_any _ 1000 _ (by omega) (by omega) (by omega) (by omega)) ?_; rintro e w' ⟨rfl, rfl⟩))
      exact (bodyPost_ret (v := .tuple #[.agg #[.int .i64 (firedShape s b).id, .int .i64 (firedShape s b).wide.lo, .int .i64 (firedShape s b).wide.hi, .int .i64 (firedShape s b).deep.lo, .int .i64 (firedShape s b).deep.hi, .int .i64 (firedShape s b).high.lo, .int .i64 (firedShape s b).high.hi, .int .i64 (firedShape s b).nest, .int .i64 (firedShape s b).weight.lo, .int .i64 (firedShape s b).weight.hi, .int .i64 (firedShape s b).bears], .int .i64 0]) (by simp only [results, Try.results33]; go_simp; (repeat' constructor)) rfl) ⟨by rw [HV.out], by (repeat (first | (with_reducible exact Below.refl _ _) | (with_reducible refine Below.nset ?_ ?_ _) | (with_reducible refine Below.nalloc ?_ _) | (with_reducible refine Below.ndrew ?_) | (with_reducible refine Below.ndrewN ?_ _) | (with_reducible refine Below.next ?_ (by assumption)) | (with_reducible refine Below.next ?_ (OldAs.below (by assumption))) | (focus (first | (simp; done) | (simp; omega)))))⟩
    · have hb' : okBody b = false := by simpa using hb
      have HV : Hid (firedSS s b = (zShape, 11)) := by unfold Hid; simp [firedSS, hs, hb']
      clear hb
      go_enter Try.func33, Try.ntmps33
      go_wp2_with (first | (go_at_call 42; refine Calls.mono (rCheckShape_any s _) ?_; rintro e w' ⟨rfl, hb⟩; ((first | (with_reducible have HB2 := Below.next HB hb) | (with_reducible have HB2 := Below.next (Below.nalloc HB _) hb) | have HB2 := hb); (try clear hc hf hz hz1 hz2 hn1 hn2); obtain ⟨hc, hf, hz, hz1, hz2, hn1, hn2⟩ := bcell3 HB2; (try clear HB); have HB := HB2; clear HB2; have hbk := hb; clear hb)) | (go_at_call 46; refine Calls.mono (rCheckBody_any b _) ?_; rintro e w' ⟨rfl, hb⟩; ((first | (with_reducible have HB2 := Below.next HB hb) | (with_reducible have HB2 := Below.next (Below.nalloc HB _) hb) | have HB2 := hb); (try clear hc hf hz hz1 hz2 hn1 hn2); obtain ⟨hc, hf, hz, hz1, hz2, hn1, hn2⟩ := bcell3 HB2; (try clear HB); have HB := HB2; clear HB2; have hbk := hb; clear hb)))
      exact (bodyPost_ret (v := .tuple #[.agg #[.int .i64 zShape.id, .int .i64 zShape.wide.lo, .int .i64 zShape.wide.hi, .int .i64 zShape.deep.lo, .int .i64 zShape.deep.hi, .int .i64 zShape.high.lo, .int .i64 zShape.high.hi, .int .i64 zShape.nest, .int .i64 zShape.weight.lo, .int .i64 zShape.weight.hi, .int .i64 zShape.bears], .int .i64 11]) (by simp [results, Try.results33, go_sem, hc, hf, zShape, zR]) rfl) ⟨by rw [HV.out], by (repeat (first | (with_reducible exact Below.refl _ _) | (with_reducible refine Below.nset ?_ ?_ _) | (with_reducible refine Below.nalloc ?_ _) | (with_reducible refine Below.ndrew ?_) | (with_reducible refine Below.ndrewN ?_ _) | (with_reducible refine Below.next ?_ (by assumption)) | (with_reducible refine Below.next ?_ (OldAs.below (by assumption))) | (focus (first | (simp; done) | (simp; omega)))))⟩
  · have hs' : okShape s = false := by simpa using hs
    have HV : Hid (firedSS s b = (zShape, 10)) := by unfold Hid; simp [firedSS, hs']
    clear hs
    go_enter Try.func33, Try.ntmps33
    go_wp2_with (first | (go_at_call 42; refine Calls.mono (rCheckShape_any s _) ?_; rintro e w' ⟨rfl, hb⟩; ((first | (with_reducible have HB2 := Below.next HB hb) | (with_reducible have HB2 := Below.next (Below.nalloc HB _) hb) | have HB2 := hb); (try clear hc hf hz hz1 hz2 hn1 hn2); obtain ⟨hc, hf, hz, hz1, hz2, hn1, hn2⟩ := bcell3 HB2; (try clear HB); have HB := HB2; clear HB2; have hbk := hb; clear hb)))
    exact (bodyPost_ret (v := .tuple #[.agg #[.int .i64 zShape.id, .int .i64 zShape.wide.lo, .int .i64 zShape.wide.hi, .int .i64 zShape.deep.lo, .int .i64 zShape.deep.hi, .int .i64 zShape.high.lo, .int .i64 zShape.high.hi, .int .i64 zShape.nest, .int .i64 zShape.weight.lo, .int .i64 zShape.weight.hi, .int .i64 zShape.bears], .int .i64 10]) (by simp [results, Try.results33, go_sem, hc, hf, zShape, zR]) rfl) ⟨by rw [HV.out], by (repeat (first | (with_reducible exact Below.refl _ _) | (with_reducible refine Below.nset ?_ ?_ _) | (with_reducible refine Below.nalloc ?_ _) | (with_reducible refine Below.ndrew ?_) | (with_reducible refine Below.ndrewN ?_ _) | (with_reducible refine Below.next ?_ (by assumption)) | (with_reducible refine Below.next ?_ (OldAs.below (by assumption))) | (focus (first | (simp; done) | (simp; omega)))))⟩
theorem mostFrom_succ (p : Int → Bool) (k : Nat) : mostFrom p (k + 1) = if p ((k : Int) + 1) then (k : Int) + 1 else mostFrom p k := by simp [mostFrom]
set_option maxRecDepth 100000 in
theorem rMost_any (s : Shape) (high : Int) (w : World) :
    Calls Try.prog 18 #[.agg #[.int .i64 s.id, .int .i64 s.wide.lo, .int .i64 s.wide.hi, .int .i64 s.deep.lo, .int .i64 s.deep.hi, .int .i64 s.high.lo, .int .i64 s.high.hi, .int .i64 s.nest, .int .i64 s.weight.lo, .int .i64 s.weight.hi, .int .i64 s.bears], .int .i64 high] w fun e w' =>
      e = .returned (.tuple #[.int .i64 ((mostS s high).1), .int .i64 ((mostS s high).2)]) ∧ Below w.heap.size w w' := by
  by_cases hs : okShape s = true
  · have HV : Hid (mostS s high = if mostFrom (fitsPile s high) 40 = 0 then (0, 3) else (mostFrom (fitsPile s high) 40, 0)) := by unfold Hid; simp [mostS, hs]
    have ho := okShape_iff.1 hs
    have g0 : 0 ≤ s.weight.hi := by have := ho.g1; have := ho.g2; omega
    have g1 := ho.g3
    have hfld : ∀ (a b : Value) (W : World), (Instr.field 23 (.agg #[a, b]) 1).run Try.prog W = .ok b W := fun _ _ _ => by kernel_rfl
    go_enter Try.func18, Try.ntmps18
    go_wp2_with (first | (go_at_call 42; refine Calls.mono (rCheckShape_any s _) ?_; rintro e w' ⟨rfl, hb⟩; ((first | (with_reducible have HB2 := Below.next HB hb) | (with_reducible have HB2 := Below.next (Below.nalloc HB _) hb) | have HB2 := hb); (try clear hc hf hz hz1 hz2 hn1 hn2); obtain ⟨hc, hf, hz, hz1, hz2, hn1, hn2⟩ := bcell3 HB2; (try clear HB); have HB := HB2; clear HB2; have hbk := hb; clear hb)))
    have HW : Below w.heap.size w w' := by (repeat (first | (with_reducible exact Below.refl _ _) | (with_reducible refine Below.nset ?_ ?_ _) | (with_reducible refine Below.nalloc ?_ _) | (with_reducible refine Below.ndrew ?_) | (with_reducible refine Below.ndrewN ?_ _) | (with_reducible refine Below.next ?_ (by assumption)) | (with_reducible refine Below.next ?_ (OldAs.below (by assumption))) | (focus (first | (simp; done) | (simp; omega)))))
    clear hs hc hf hz hz1 hz2 hn1 hn2
    go_loopw [6, 7] (fun most n wr => ∃ (k : Nat) (m : Int), k ≤ 40 ∧ n = .int .i64 ((k : Int) + 1) ∧ most = .int .i64 m ∧ 0 ≤ m ∧ Hid (m = mostFrom (fitsPile s high) k) ∧ Below w'.heap.size w' wr) (fun _ n _ => 41 - (intOf n).toNat)
    case atStart => exact ⟨0, 0, by omega, rfl, rfl, by omega, rfl, Below.refl _ _⟩
    case round =>
      obtain ⟨k, m, hk, rfl, rfl, hm0, hm, hR⟩ := hrel
      (have HB2 := Below.next HB hR; clear HB; have HB := HB2; clear HB2; have hR2 := hR; clear hR; obtain ⟨hc, hf, hz, hz1, hz2, hn1, hn2⟩ := bcell3 HB)
      by_cases hlt : k < 40
      · have hl := load_bound (many := (k : Int) + 1) (at_ := 0) g0 g1 (by omega) (by omega) (by omega)
        have e1 : ((k : Int) + 1 - 1 - 0) * s.weight.hi = (k : Int) * s.weight.hi := by congr 1; omega
        rw [e1] at hl
        obtain ⟨l1, l2⟩ := hl
        have HN := hidI (mostFrom_succ (fitsPile s high) k)
        have HF : Hid (fitsPile s high ((k : Int) + 1) = (decide ((k : Int) * s.weight.hi ≤ s.bears) && decide (pileHigh s.high.hi s.nest ((k : Int) + 1) ≤ high))) := by
          unfold Hid fitsPile standsB
          have : ((k : Int) + 1 - 1) * s.weight.hi = (k : Int) * s.weight.hi := by congr 1; omega
          rw [this]
        have HH := hidI (fun W : World => rheight_any s ((k : Int) + 1) W ho (by omega) (by omega))
        clear ho e1
        generalize pileHigh s.high.hi s.nest ((k : Int) + 1) = ph at *
        by_cases hb : (k : Int) * s.weight.hi ≤ s.bears
        · by_cases hp : ph ≤ high
          · have HM : Hid ((k : Int) + 1 = mostFrom (fitsPile s high) (k + 1)) := by unfold Hid at *; rw [HN, HF, if_pos (by simp [hb, hp])]
            go_wp2_with (first | (go_at_call 54; refine Calls.mono (HH.out _) ?_; rintro e w' ⟨rfl, hb⟩; ((first | (with_reducible have HB2 := Below.next HB hb) | (with_reducible have HB2 := Below.next (Below.nalloc HB _) hb) | have HB2 := hb); (try clear hc hf hz hz1 hz2 hn1 hn2); obtain ⟨hc, hf, hz, hz1, hz2, hn1, hn2⟩ := bcell3 HB2; (try clear HB); have HB := HB2; clear HB2; have hbk := hb; clear hb)))
            go_roundw
            case rel => exact ⟨k + 1, (k : Int) + 1, by omega, by go_num, rfl, by omega, HM, by (repeat (first | (with_reducible exact Below.refl _ _) | (with_reducible refine Below.nset ?_ ?_ _) | (with_reducible refine Below.nalloc ?_ _) | (with_reducible refine Below.ndrew ?_) | (with_reducible refine Below.ndrewN ?_ _) | (with_reducible refine Below.next ?_ (by assumption)) | (with_reducible refine Below.next ?_ (OldAs.below (by assumption))) | (focus (first | (simp; done) | (simp; omega)))))⟩
            case measure => first | (simp [intOf]; done) | (simp [intOf]; omega)
          · have HM : Hid (m = mostFrom (fitsPile s high) (k + 1)) := by unfold Hid at *; rw [HN, HF, if_neg (by simp; omega)]; exact hm
            go_wp2_with (first | (go_at_call 54; refine Calls.mono (HH.out _) ?_; rintro e w' ⟨rfl, hb⟩; ((first | (with_reducible have HB2 := Below.next HB hb) | (with_reducible have HB2 := Below.next (Below.nalloc HB _) hb) | have HB2 := hb); (try clear hc hf hz hz1 hz2 hn1 hn2); obtain ⟨hc, hf, hz, hz1, hz2, hn1, hn2⟩ := bcell3 HB2; (try clear HB); have HB := HB2; clear HB2; have hbk := hb; clear hb)))
            go_roundw
            case rel => exact ⟨k + 1, m, by omega, by go_num, rfl, by omega, HM, by (repeat (first | (with_reducible exact Below.refl _ _) | (with_reducible refine Below.nset ?_ ?_ _) | (with_reducible refine Below.nalloc ?_ _) | (with_reducible refine Below.ndrew ?_) | (with_reducible refine Below.ndrewN ?_ _) | (with_reducible refine Below.next ?_ (by assumption)) | (with_reducible refine Below.next ?_ (OldAs.below (by assumption))) | (focus (first | (simp; done) | (simp; omega)))))⟩
            case measure => first | (simp [intOf]; done) | (simp [intOf]; omega)
        · have HM : Hid (m = mostFrom (fitsPile s high) (k + 1)) := by unfold Hid at *; rw [HN, HF, if_neg (by simp; omega)]; exact hm
          go_wp2_with (first | (go_at_call 54; refine Calls.mono (HH.out _) ?_; rintro e w' ⟨rfl, hb⟩; ((first | (with_reducible have HB2 := Below.next HB hb) | (with_reducible have HB2 := Below.next (Below.nalloc HB _) hb) | have HB2 := hb); (try clear hc hf hz hz1 hz2 hn1 hn2); obtain ⟨hc, hf, hz, hz1, hz2, hn1, hn2⟩ := bcell3 HB2; (try clear HB); have HB := HB2; clear HB2; have hbk := hb; clear hb)))
          go_roundw
          case rel => exact ⟨k + 1, m, by omega, by go_num, rfl, by omega, HM, by (repeat (first | (with_reducible exact Below.refl _ _) | (with_reducible refine Below.nset ?_ ?_ _) | (with_reducible refine Below.nalloc ?_ _) | (with_reducible refine Below.ndrew ?_) | (with_reducible refine Below.ndrewN ?_ _) | (with_reducible refine Below.next ?_ (by assumption)) | (with_reducible refine Below.next ?_ (OldAs.below (by assumption))) | (focus (first | (simp; done) | (simp; omega)))))⟩
          case measure => first | (simp [intOf]; done) | (simp [intOf]; omega)
      · obtain rfl : k = 40 := by omega
        by_cases hz : m = 0
        · have HV2 : Hid (mostS s high = (0, 3)) := by unfold Hid at *; rw [HV, ← hm, if_pos hz]
          subst hz
          go_wp2
          go_ret2
          exact ⟨by rw [HV2.out]; rfl, by (repeat (first | (with_reducible exact Below.refl _ _) | (with_reducible refine Below.nset ?_ ?_ _) | (with_reducible refine Below.nalloc ?_ _) | (with_reducible refine Below.ndrew ?_) | (with_reducible refine Below.ndrewN ?_ _) | (with_reducible refine Below.next ?_ (by assumption)) | (with_reducible refine Below.next ?_ (OldAs.below (by assumption))) | (focus (first | (simp; done) | (simp; omega)))))⟩
        · have HV2 : Hid (mostS s high = (m, 0)) := by unfold Hid at *; rw [HV, ← hm, if_neg hz]
          go_wp2
          go_ret2
          exact ⟨by rw [HV2.out]; rfl, by (repeat (first | (with_reducible exact Below.refl _ _) | (with_reducible refine Below.nset ?_ ?_ _) | (with_reducible refine Below.nalloc ?_ _) | (with_reducible refine Below.ndrew ?_) | (with_reducible refine Below.ndrewN ?_ _) | (with_reducible refine Below.next ?_ (by assumption)) | (with_reducible refine Below.next ?_ (OldAs.below (by assumption))) | (focus (first | (simp; done) | (simp; omega)))))⟩
  · have hs' : okShape s = false := by simpa using hs
    have HV : Hid (mostS s high = (0, 10)) := by unfold Hid; simp [mostS, hs']
    clear hs
    go_enter Try.func18, Try.ntmps18
    go_wp2_with (first | (go_at_call 42; refine Calls.mono (rCheckShape_any s _) ?_; rintro e w' ⟨rfl, hb⟩; ((first | (with_reducible have HB2 := Below.next HB hb) | (with_reducible have HB2 := Below.next (Below.nalloc HB _) hb) | have HB2 := hb); (try clear hc hf hz hz1 hz2 hn1 hn2); obtain ⟨hc, hf, hz, hz1, hz2, hn1, hn2⟩ := bcell3 HB2; (try clear HB); have HB := HB2; clear HB2; have hbk := hb; clear hb)))
    go_ret2
    exact ⟨by rw [HV.out]; rfl, by (repeat (first | (with_reducible exact Below.refl _ _) | (with_reducible refine Below.nset ?_ ?_ _) | (with_reducible refine Below.nalloc ?_ _) | (with_reducible refine Below.ndrew ?_) | (with_reducible refine Below.ndrewN ?_ _) | (with_reducible refine Below.next ?_ (by assumption)) | (with_reducible refine Below.next ?_ (OldAs.below (by assumption))) | (focus (first | (simp; done) | (simp; omega)))))⟩
end Go.Proofs.Ytcgokimagimamaa
