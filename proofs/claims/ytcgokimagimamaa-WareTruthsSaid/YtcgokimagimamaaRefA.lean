
/- Layer 1, the reference: checks, division, lengths and weights fired. What each call answers. -/
import Derived.Test.YtcgokimagimamaaProg
import Derived.Test.YtcgokimagimamaaWords
import Derived.Test.YtcgokimagimamaaPlain
import Derived.WalkLawsBesides
import Derived.IntWalk
namespace Go.Proofs.Ytcgokimagimamaa
open Go.RowKit
attribute [local go_sem] errIf_true errIf_false
set_option maxHeartbeats 400000
set_option linter.unusedSimpArgs false
set_option linter.unusedVariables false
theorem rIn_any (n lo hi : Int) (w : World) :
    Calls Try.prog 57 #[.int .i64 n, .int .i64 lo, .int .i64 hi] w fun e w' => e = .returned (.bool (inB n lo hi)) ∧ w = w' := by
  go_enter Try.func57, Try.ntmps57
  go_wp2
  all_goals (go_ret; exact ⟨by simp [inB, *] <;> omega, rfl⟩)
theorem rPart_any (a b lo hi : Int) (w : World) :
    Calls Try.prog 65 #[.agg #[.int .i64 a, .int .i64 b], .int .i64 lo, .int .i64 hi] w fun e w' => e = .returned (.bool (partB a b lo hi)) ∧ Below w.heap.size w w' := by
  go_enter Try.func65, Try.ntmps65
  go_wp2
  all_goals (go_ret; exact ⟨by simp [partB, *] <;> omega, by (repeat (first | (with_reducible exact Below.refl _ _) | (with_reducible refine Below.nset ?_ ?_ _) | (with_reducible refine Below.nalloc ?_ _) | (with_reducible refine Below.ndrew ?_) | (with_reducible refine Below.ndrewN ?_ _) | (with_reducible refine Below.next ?_ (by assumption)) | (with_reducible refine Below.next ?_ (OldAs.below (by assumption))) | (focus (first | (simp; done) | (simp; omega)))))⟩)
theorem rCheckBody_any (s : Body) (w : World) :
    Calls Try.prog 46 #[.agg #[.int .i64 s.id, .int .i64 s.shrink.lo, .int .i64 s.shrink.hi, .int .i64 s.loss.lo, .int .i64 s.loss.hi, .int .i64 s.heat.lo, .int .i64 s.heat.hi]] w fun e w' => e = .returned (.int .i64 (errIf (okBody s) 11)) ∧ Below w.heap.size w w' := by
  go_enter Try.func46, Try.ntmps46
  go_wp2_with (first | (go_at_call 57; refine Calls.mono (rIn_any _ _ _ _) ?_; rintro e w' ⟨rfl, rfl⟩) | (go_at_call 65; refine Calls.mono (rPart_any _ _ _ _ _) ?_; rintro e w' ⟨rfl, hb⟩; ((first | (with_reducible have HB2 := Below.next HB hb) | (with_reducible have HB2 := Below.next (Below.nalloc HB _) hb) | have HB2 := hb); (try clear hc hf hz hz1 hz2 hn1 hn2); obtain ⟨hc, hf, hz, hz1, hz2, hn1, hn2⟩ := bcell3 HB2; (try clear HB); have HB := HB2; clear HB2; have hbk := hb; clear hb)))
  all_goals (go_ret; exact ⟨by (first | rfl | ((try clear hc hf hz hz1 hz2 hn1 hn2 HB); simp_all [okBody, errIf, partR])), by (repeat (first | (with_reducible exact Below.refl _ _) | (with_reducible refine Below.nset ?_ ?_ _) | (with_reducible refine Below.nalloc ?_ _) | (with_reducible refine Below.ndrew ?_) | (with_reducible refine Below.ndrewN ?_ _) | (with_reducible refine Below.next ?_ (by assumption)) | (with_reducible refine Below.next ?_ (OldAs.below (by assumption))) | (focus (first | (simp; done) | (simp; omega)))))⟩)
theorem rCheckShape_any (s : Shape) (w : World) :
    Calls Try.prog 42 #[.agg #[.int .i64 s.id, .int .i64 s.wide.lo, .int .i64 s.wide.hi, .int .i64 s.deep.lo, .int .i64 s.deep.hi, .int .i64 s.high.lo, .int .i64 s.high.hi, .int .i64 s.nest, .int .i64 s.weight.lo, .int .i64 s.weight.hi, .int .i64 s.bears]] w fun e w' => e = .returned (.int .i64 (errIf (okShape s) 10)) ∧ Below w.heap.size w w' := by
  go_enter Try.func42, Try.ntmps42
  go_wp2_with (first | (go_at_call 57; refine Calls.mono (rIn_any _ _ _ _) ?_; rintro e w' ⟨rfl, rfl⟩) | (go_at_call 65; refine Calls.mono (rPart_any _ _ _ _ _) ?_; rintro e w' ⟨rfl, hb⟩; ((first | (with_reducible have HB2 := Below.next HB hb) | (with_reducible have HB2 := Below.next (Below.nalloc HB _) hb) | have HB2 := hb); (try clear hc hf hz hz1 hz2 hn1 hn2); obtain ⟨hc, hf, hz, hz1, hz2, hn1, hn2⟩ := bcell3 HB2; (try clear HB); have HB := HB2; clear HB2; have hbk := hb; clear hb)))
  all_goals (go_ret; exact ⟨by (first | rfl | ((try clear hc hf hz hz1 hz2 hn1 hn2 HB); simp_all [okShape, errIf, partR])), by (repeat (first | (with_reducible exact Below.refl _ _) | (with_reducible refine Below.nset ?_ ?_ _) | (with_reducible refine Below.nalloc ?_ _) | (with_reducible refine Below.ndrew ?_) | (with_reducible refine Below.ndrewN ?_ _) | (with_reducible refine Below.next ?_ (by assumption)) | (with_reducible refine Below.next ?_ (OldAs.below (by assumption))) | (focus (first | (simp; done) | (simp; omega)))))⟩)
theorem wrapI {x : Int} (h0 : -1000000000000000000 ≤ x) (h1 : x ≤ 1000000000000000000) : IntKind.i64.wrap x = x := IntWalk.i64_in _ (by omega)
theorem wrap_id {x : Int} (h0 : -1000000000000000000 ≤ x) (h1 : x ≤ 1000000000000000000) : wrap64 x = x := by unfold wrap64; omega
theorem Down_any (n d : Int) (w : World) (hd : 0 < d) (hd2 : d ≤ 1000000000000) (h0 : -1000000000000 ≤ n) (h1 : n ≤ 1000000000000) :
    Calls Try.prog 34 #[.int .i64 n, .int .i64 d] w fun e w' => e = .returned (.int .i64 (n / d)) ∧ w = w' := by
  obtain ⟨q1, q2⟩ := tdiv_bound hd h0 h1 (by omega)
  obtain ⟨r1, r2⟩ := tmod_bound (n := n) hd
  have hq : wrap64 (n.tdiv d) = n.tdiv d := wrap_id (by omega) (by omega)
  have hr : wrap64 (n.tmod d) = n.tmod d := wrap_id (by omega) (by omega)
  have hq1 : wrap64 (n.tdiv d - 1) = n.tdiv d - 1 := wrap_id (by omega) (by omega)
  have hd0 : (d = 0) = False := by simp; omega
  have HF := hidI (tdiv_down (n := n) hd)
  go_enter Try.func34, Try.ntmps34
  by_cases hm : n.tmod d < 0
  · go_wp2
    go_ret
    exact ⟨by rw [← HF.out, if_pos hm]; rfl, rfl⟩
  · go_wp2
    go_ret
    exact ⟨by rw [← HF.out, if_neg (by omega)]; rfl, rfl⟩
theorem Up_any (n d : Int) (w : World) (hd : 0 < d) (hd2 : d ≤ 1000000000000) (h0 : -1000000000000 ≤ n) (h1 : n ≤ 1000000000000) :
    Calls Try.prog 35 #[.int .i64 n, .int .i64 d] w fun e w' => e = .returned (.int .i64 (upDiv n d)) ∧ w = w' := by
  have hb : -1000000000000 ≤ (-n) / d ∧ (-n) / d ≤ 1000000000000 := by
    constructor
    · refine (Int.le_ediv_iff_mul_le hd).2 ?_
      have := Int.mul_le_mul_of_nonneg_left (by omega : 1 ≤ d) (by omega : (0:Int) ≤ 1000000000000)
      rw [Int.neg_mul]; omega
    · by_cases hn : 0 ≤ -n
      · exact Int.le_trans (Int.ediv_le_self d hn) (by omega)
      · have := Int.ediv_neg_of_neg_of_pos (a := -n) (b := d) (by omega) hd; omega
  obtain ⟨b1, b2⟩ := hb
  have hw : wrap64 (-n) = -n := wrap_id (by omega) (by omega)
  have hw2 : wrap64 (-(-n / d)) = -(-n / d) := wrap_id (by omega) (by omega)
  go_enter Try.func35, Try.ntmps35
  go_wp2_with (first | (go_at_call 34; refine Calls.mono (Down_any (-n) d _ hd hd2 (by omega) (by omega)) ?_; rintro e w' ⟨rfl, rfl⟩))
  go_ret
  exact ⟨rfl, rfl⟩
theorem up1000 (n : Int) : upDiv n 1000 = (n + 999) / 1000 := by unfold upDiv; omega
theorem rbecomes_any (wet by_ : Rng) (w : World) (h0 : 0 ≤ wet.lo) (h1 : wet.lo ≤ wet.hi) (h2 : wet.hi ≤ 100000) (h3 : 0 ≤ by_.lo) (h4 : by_.lo ≤ by_.hi) (h5 : by_.hi ≤ 1000) :
    Calls Try.prog 66 #[.agg #[.int .i64 wet.lo, .int .i64 wet.hi], .agg #[.int .i64 by_.lo, .int .i64 by_.hi]] w fun e w' => e = .returned (.agg #[.int .i64 (turnLo wet.lo by_.hi), .int .i64 (turnHi wet.hi by_.lo)]) ∧ Below w.heap.size w w' := by
  obtain ⟨m1, m2⟩ := mul_bound h0 (by omega : wet.lo ≤ 100000) (by omega : 0 ≤ by_.hi) h5
  obtain ⟨m3, m4⟩ := mul_bound (by omega : 0 ≤ wet.hi) h2 h3 (by omega : by_.lo ≤ 1000)
  go_enter Try.func66, Try.ntmps66
  have W1 : IntKind.i64.wrap (1000 - by_.hi) = 1000 - by_.hi := wrapI (by omega) (by omega)
  have W2 : IntKind.i64.wrap (1000 - by_.lo) = 1000 - by_.lo := wrapI (by omega) (by omega)
  have W3 : IntKind.i64.wrap (wet.lo * (1000 - by_.hi)) = wet.lo * (1000 - by_.hi) := wrapI (by omega) (by omega)
  have W4 : IntKind.i64.wrap (wet.hi * (1000 - by_.lo)) = wet.hi * (1000 - by_.lo) := wrapI (by omega) (by omega)
  go_wp2_with fail
  refine lin_begin 15 (by kernel_rfl) (by kernel_rfl) ?_
  (refine lin_take 0 (v := ?_) (by decide) rfl (by kernel_rfl) (by kernel_rfl) (by kernel_rfl) (fun _ _ _ h => h) (by rfl) (by (intro w hS hcl; first | (go_simp; done) | (go_simp; rfl))) ?_)
  (refine lin_take 1 (v := ?_) (by decide) rfl (by kernel_rfl) (by kernel_rfl) (by kernel_rfl) (fun _ _ _ h => h) (by rfl) (by (intro w hS hcl; first | (go_simp; done) | (go_simp; rfl))) ?_)
  (refine lin_take 2 (v := ?_) (by decide) rfl (by kernel_rfl) (by kernel_rfl) (by kernel_rfl) (fun _ _ _ h => h) (by rfl) (by (intro w hS hcl; first | (go_simp; done) | (go_simp; rfl))) ?_)
  (refine lin_take 3 (v := ?_) (by decide) rfl (by kernel_rfl) (by kernel_rfl) (by kernel_rfl) (fun _ _ _ h => h) (by rfl) (by (intro w hS hcl; first | (go_simp; done) | (go_simp; rfl))) ?_)
  (refine lin_take 4 (v := ?_) (by decide) rfl (by kernel_rfl) (by kernel_rfl) (by kernel_rfl) (fun _ _ _ h => h) (by rfl) (by (intro w hS hcl; first | (go_simp; done) | (go_simp; rfl))) ?_)
  (refine lin_take 5 (v := ?_) (by decide) rfl (by kernel_rfl) (by kernel_rfl) (by kernel_rfl) (fun _ _ _ h => h) (by rfl) (by (intro w hS hcl; first | (go_simp; done) | (go_simp; rfl))) ?_)
  (refine lin_call 6 (by decide) rfl (by kernel_rfl) (by kernel_rfl) (by kernel_rfl) (fun _ _ _ h => h) (by rfl) (by (intro w; first | (go_simp; done) | (go_simp; rfl))) (fun w1 hS _ => calls_eq (Down_any _ 1000 _ (by omega) (by omega) (by omega) (by omega))) ?_)
  (refine lin_take 7 (v := ?_) (by decide) rfl (by kernel_rfl) (by kernel_rfl) (by kernel_rfl) (fun _ _ _ h => h) (by rfl) (by (intro w hS hcl; first | (go_simp; done) | (go_simp; rfl))) ?_)
  (refine lin_take 8 (v := ?_) (by decide) rfl (by kernel_rfl) (by kernel_rfl) (by kernel_rfl) (fun _ _ _ h => h) (by rfl) (by (intro w hS hcl; first | (go_simp; done) | (go_simp; rfl))) ?_)
  (refine lin_take 9 (v := ?_) (by decide) rfl (by kernel_rfl) (by kernel_rfl) (by kernel_rfl) (fun _ _ _ h => h) (by rfl) (by (intro w hS hcl; first | (go_simp; done) | (go_simp; rfl))) ?_)
  (refine lin_take 10 (v := ?_) (by decide) rfl (by kernel_rfl) (by kernel_rfl) (by kernel_rfl) (fun _ _ _ h => h) (by rfl) (by (intro w hS hcl; first | (go_simp; done) | (go_simp; rfl))) ?_)
  (refine lin_take 11 (v := ?_) (by decide) rfl (by kernel_rfl) (by kernel_rfl) (by kernel_rfl) (fun _ _ _ h => h) (by rfl) (by (intro w hS hcl; first | (go_simp; done) | (go_simp; rfl))) ?_)
  (refine lin_take 12 (v := ?_) (by decide) rfl (by kernel_rfl) (by kernel_rfl) (by kernel_rfl) (fun _ _ _ h => h) (by rfl) (by (intro w hS hcl; first | (go_simp; done) | (go_simp; rfl))) ?_)
  (refine lin_call 13 (by decide) rfl (by kernel_rfl) (by kernel_rfl) (by kernel_rfl) (fun _ _ _ h => h) (by rfl) (by (intro w; first | (go_simp; done) | (go_simp; rfl))) (fun w1 hS _ => calls_eq (Up_any _ 1000 _ (by omega) (by omega) (by omega) (by omega))) ?_)
  (refine lin_take 14 (v := ?_) (by decide) rfl (by kernel_rfl) (by kernel_rfl) (by kernel_rfl) (fun _ _ _ h => h) (by rfl) (by (intro w hS hcl; first | (go_simp; done) | (go_simp; rfl))) ?_)
  refine lin_last rfl (by kernel_rfl) (by kernel_rfl) (by rfl) (fun w1 hS hcl hfr K hK => ?_)
  go_wp2
  exact (bodyPost_ret (v := .agg #[.int .i64 (turnLo wet.lo by_.hi), .int .i64 (turnHi wet.hi by_.lo)]) (by simp [results, Try.results66, go_sem, hcl, up1000, turnLo, turnHi]) rfl) ⟨rfl, by (repeat (first | (with_reducible exact Below.refl _ _) | (with_reducible refine Below.nset ?_ ?_ _) | (with_reducible refine Below.nalloc ?_ _) | (with_reducible refine Below.ndrew ?_) | (with_reducible refine Below.ndrewN ?_ _) | (with_reducible refine Below.next ?_ (by assumption)) | (with_reducible refine Below.next ?_ (OldAs.below (by assumption))) | (focus (first | (simp; done) | (simp; omega)))))⟩
theorem rShrunk_any (b : Body) (wet : Rng) (w : World) :
    Calls Try.prog 29 #[.agg #[.int .i64 b.id, .int .i64 b.shrink.lo, .int .i64 b.shrink.hi, .int .i64 b.loss.lo, .int .i64 b.loss.hi, .int .i64 b.heat.lo, .int .i64 b.heat.hi], .agg #[.int .i64 wet.lo, .int .i64 wet.hi]] w fun e w' =>
      e = .returned (.tuple #[.agg #[.int .i64 ((firedS b wet 2000 b.shrink).1.lo), .int .i64 ((firedS b wet 2000 b.shrink).1.hi)], .int .i64 ((firedS b wet 2000 b.shrink).2)]) ∧ Below w.heap.size w w' := by
  by_cases hb : okBody b = true
  · have hbo := okBody_iff.1 hb
    by_cases hp : partB wet.lo wet.hi 0 2000 = true
    · obtain ⟨p1, p2, p3⟩ := partB_iff.1 hp
      have HV : Hid (firedS b wet 2000 b.shrink = (becomesR wet b.shrink, 0)) := by unfold Hid; simp [firedS, hb, partR, hp]
      go_enter Try.func29, Try.ntmps29
      go_wp2_with (first | (go_at_call 46; refine Calls.mono (rCheckBody_any b _) ?_; rintro e w' ⟨rfl, hb⟩; ((first | (with_reducible have HB2 := Below.next HB hb) | (with_reducible have HB2 := Below.next (Below.nalloc HB _) hb) | have HB2 := hb); (try clear hc hf hz hz1 hz2 hn1 hn2); obtain ⟨hc, hf, hz, hz1, hz2, hn1, hn2⟩ := bcell3 HB2; (try clear HB); have HB := HB2; clear HB2; have hbk := hb; clear hb)) | (go_at_call 65; refine Calls.mono (rPart_any _ _ _ _ _) ?_; rintro e w' ⟨rfl, hb⟩; ((first | (with_reducible have HB2 := Below.next HB hb) | (with_reducible have HB2 := Below.next (Below.nalloc HB _) hb) | have HB2 := hb); (try clear hc hf hz hz1 hz2 hn1 hn2); obtain ⟨hc, hf, hz, hz1, hz2, hn1, hn2⟩ := bcell3 HB2; (try clear HB); have HB := HB2; clear HB2; have hbk := hb; clear hb)) | (go_at_call 66; refine Calls.mono (rbecomes_any wet b.shrink _ p1 p2 (by omega) hbo.s1 hbo.s2 (by have := hbo.s3; omega)) ?_; rintro e w' ⟨rfl, hb⟩; ((first | (with_reducible have HB2 := Below.next HB hb) | (with_reducible have HB2 := Below.next (Below.nalloc HB _) hb) | have HB2 := hb); (try clear hc hf hz hz1 hz2 hn1 hn2); obtain ⟨hc, hf, hz, hz1, hz2, hn1, hn2⟩ := bcell3 HB2; (try clear HB); have HB := HB2; clear HB2; have hbk := hb; clear hb)))
      exact (bodyPost_ret (v := .tuple #[.agg #[.int .i64 (turnLo wet.lo b.shrink.hi), .int .i64 (turnHi wet.hi b.shrink.lo)], .int .i64 0]) (by simp [results, Try.results29, go_sem, hc, hf]) rfl) ⟨by rw [HV.out]; rfl, by (repeat (first | (with_reducible exact Below.refl _ _) | (with_reducible refine Below.nset ?_ ?_ _) | (with_reducible refine Below.nalloc ?_ _) | (with_reducible refine Below.ndrew ?_) | (with_reducible refine Below.ndrewN ?_ _) | (with_reducible refine Below.next ?_ (by assumption)) | (with_reducible refine Below.next ?_ (OldAs.below (by assumption))) | (focus (first | (simp; done) | (simp; omega)))))⟩
    · have hp' : partB wet.lo wet.hi 0 2000 = false := by simpa using hp
      have HV : Hid (firedS b wet 2000 b.shrink = (zR, 1)) := by unfold Hid; simp [firedS, hb, partR, hp']
      clear hp
      go_enter Try.func29, Try.ntmps29
      go_wp2_with (first | (go_at_call 46; refine Calls.mono (rCheckBody_any b _) ?_; rintro e w' ⟨rfl, hb⟩; ((first | (with_reducible have HB2 := Below.next HB hb) | (with_reducible have HB2 := Below.next (Below.nalloc HB _) hb) | have HB2 := hb); (try clear hc hf hz hz1 hz2 hn1 hn2); obtain ⟨hc, hf, hz, hz1, hz2, hn1, hn2⟩ := bcell3 HB2; (try clear HB); have HB := HB2; clear HB2; have hbk := hb; clear hb)) | (go_at_call 65; refine Calls.mono (rPart_any _ _ _ _ _) ?_; rintro e w' ⟨rfl, hb⟩; ((first | (with_reducible have HB2 := Below.next HB hb) | (with_reducible have HB2 := Below.next (Below.nalloc HB _) hb) | have HB2 := hb); (try clear hc hf hz hz1 hz2 hn1 hn2); obtain ⟨hc, hf, hz, hz1, hz2, hn1, hn2⟩ := bcell3 HB2; (try clear HB); have HB := HB2; clear HB2; have hbk := hb; clear hb)))
      exact (bodyPost_ret (v := .tuple #[.agg #[.int .i64 0, .int .i64 0], .int .i64 1]) (by simp [results, Try.results29, go_sem, hc, hf]) rfl) ⟨by rw [HV.out]; rfl, by (repeat (first | (with_reducible exact Below.refl _ _) | (with_reducible refine Below.nset ?_ ?_ _) | (with_reducible refine Below.nalloc ?_ _) | (with_reducible refine Below.ndrew ?_) | (with_reducible refine Below.ndrewN ?_ _) | (with_reducible refine Below.next ?_ (by assumption)) | (with_reducible refine Below.next ?_ (OldAs.below (by assumption))) | (focus (first | (simp; done) | (simp; omega)))))⟩
  · have hb' : okBody b = false := by simpa using hb
    have HV : Hid (firedS b wet 2000 b.shrink = (zR, 11)) := by unfold Hid; simp [firedS, hb']
    clear hb
    go_enter Try.func29, Try.ntmps29
    go_wp2_with (first | (go_at_call 46; refine Calls.mono (rCheckBody_any b _) ?_; rintro e w' ⟨rfl, hb⟩; ((first | (with_reducible have HB2 := Below.next HB hb) | (with_reducible have HB2 := Below.next (Below.nalloc HB _) hb) | have HB2 := hb); (try clear hc hf hz hz1 hz2 hn1 hn2); obtain ⟨hc, hf, hz, hz1, hz2, hn1, hn2⟩ := bcell3 HB2; (try clear HB); have HB := HB2; clear HB2; have hbk := hb; clear hb)))
    exact (bodyPost_ret (v := .tuple #[.agg #[.int .i64 0, .int .i64 0], .int .i64 11]) (by simp [results, Try.results29, go_sem, hc, hf]) rfl) ⟨by rw [HV.out]; rfl, by (repeat (first | (with_reducible exact Below.refl _ _) | (with_reducible refine Below.nset ?_ ?_ _) | (with_reducible refine Below.nalloc ?_ _) | (with_reducible refine Below.ndrew ?_) | (with_reducible refine Below.ndrewN ?_ _) | (with_reducible refine Below.next ?_ (by assumption)) | (with_reducible refine Below.next ?_ (OldAs.below (by assumption))) | (focus (first | (simp; done) | (simp; omega)))))⟩
theorem rBurnt_any (b : Body) (wet : Rng) (w : World) :
    Calls Try.prog 31 #[.agg #[.int .i64 b.id, .int .i64 b.shrink.lo, .int .i64 b.shrink.hi, .int .i64 b.loss.lo, .int .i64 b.loss.hi, .int .i64 b.heat.lo, .int .i64 b.heat.hi], .agg #[.int .i64 wet.lo, .int .i64 wet.hi]] w fun e w' =>
      e = .returned (.tuple #[.agg #[.int .i64 ((firedS b wet 100000 b.loss).1.lo), .int .i64 ((firedS b wet 100000 b.loss).1.hi)], .int .i64 ((firedS b wet 100000 b.loss).2)]) ∧ Below w.heap.size w w' := by
  by_cases hb : okBody b = true
  · have hbo := okBody_iff.1 hb
    by_cases hp : partB wet.lo wet.hi 0 100000 = true
    · obtain ⟨p1, p2, p3⟩ := partB_iff.1 hp
      have HV : Hid (firedS b wet 100000 b.loss = (becomesR wet b.loss, 0)) := by unfold Hid; simp [firedS, hb, partR, hp]
      go_enter Try.func31, Try.ntmps31
      go_wp2_with (first | (go_at_call 46; refine Calls.mono (rCheckBody_any b _) ?_; rintro e w' ⟨rfl, hb⟩; ((first | (with_reducible have HB2 := Below.next HB hb) | (with_reducible have HB2 := Below.next (Below.nalloc HB _) hb) | have HB2 := hb); (try clear hc hf hz hz1 hz2 hn1 hn2); obtain ⟨hc, hf, hz, hz1, hz2, hn1, hn2⟩ := bcell3 HB2; (try clear HB); have HB := HB2; clear HB2; have hbk := hb; clear hb)) | (go_at_call 65; refine Calls.mono (rPart_any _ _ _ _ _) ?_; rintro e w' ⟨rfl, hb⟩; ((first | (with_reducible have HB2 := Below.next HB hb) | (with_reducible have HB2 := Below.next (Below.nalloc HB _) hb) | have HB2 := hb); (try clear hc hf hz hz1 hz2 hn1 hn2); obtain ⟨hc, hf, hz, hz1, hz2, hn1, hn2⟩ := bcell3 HB2; (try clear HB); have HB := HB2; clear HB2; have hbk := hb; clear hb)) | (go_at_call 66; refine Calls.mono (rbecomes_any wet b.loss _ p1 p2 (by omega) hbo.l1 hbo.l2 (by have := hbo.l3; omega)) ?_; rintro e w' ⟨rfl, hb⟩; ((first | (with_reducible have HB2 := Below.next HB hb) | (with_reducible have HB2 := Below.next (Below.nalloc HB _) hb) | have HB2 := hb); (try clear hc hf hz hz1 hz2 hn1 hn2); obtain ⟨hc, hf, hz, hz1, hz2, hn1, hn2⟩ := bcell3 HB2; (try clear HB); have HB := HB2; clear HB2; have hbk := hb; clear hb)))
      exact (bodyPost_ret (v := .tuple #[.agg #[.int .i64 (turnLo wet.lo b.loss.hi), .int .i64 (turnHi wet.hi b.loss.lo)], .int .i64 0]) (by simp [results, Try.results31, go_sem, hc, hf]) rfl) ⟨by rw [HV.out]; rfl, by (repeat (first | (with_reducible exact Below.refl _ _) | (with_reducible refine Below.nset ?_ ?_ _) | (with_reducible refine Below.nalloc ?_ _) | (with_reducible refine Below.ndrew ?_) | (with_reducible refine Below.ndrewN ?_ _) | (with_reducible refine Below.next ?_ (by assumption)) | (with_reducible refine Below.next ?_ (OldAs.below (by assumption))) | (focus (first | (simp; done) | (simp; omega)))))⟩
    · have hp' : partB wet.lo wet.hi 0 100000 = false := by simpa using hp
      have HV : Hid (firedS b wet 100000 b.loss = (zR, 1)) := by unfold Hid; simp [firedS, hb, partR, hp']
      clear hp
      go_enter Try.func31, Try.ntmps31
      go_wp2_with (first | (go_at_call 46; refine Calls.mono (rCheckBody_any b _) ?_; rintro e w' ⟨rfl, hb⟩; ((first | (with_reducible have HB2 := Below.next HB hb) | (with_reducible have HB2 := Below.next (Below.nalloc HB _) hb) | have HB2 := hb); (try clear hc hf hz hz1 hz2 hn1 hn2); obtain ⟨hc, hf, hz, hz1, hz2, hn1, hn2⟩ := bcell3 HB2; (try clear HB); have HB := HB2; clear HB2; have hbk := hb; clear hb)) | (go_at_call 65; refine Calls.mono (rPart_any _ _ _ _ _) ?_; rintro e w' ⟨rfl, hb⟩; ((first | (with_reducible have HB2 := Below.next HB hb) | (with_reducible have HB2 := Below.next (Below.nalloc HB _) hb) | have HB2 := hb); (try clear hc hf hz hz1 hz2 hn1 hn2); obtain ⟨hc, hf, hz, hz1, hz2, hn1, hn2⟩ := bcell3 HB2; (try clear HB); have HB := HB2; clear HB2; have hbk := hb; clear hb)))
      exact (bodyPost_ret (v := .tuple #[.agg #[.int .i64 0, .int .i64 0], .int .i64 1]) (by simp [results, Try.results31, go_sem, hc, hf]) rfl) ⟨by rw [HV.out]; rfl, by (repeat (first | (with_reducible exact Below.refl _ _) | (with_reducible refine Below.nset ?_ ?_ _) | (with_reducible refine Below.nalloc ?_ _) | (with_reducible refine Below.ndrew ?_) | (with_reducible refine Below.ndrewN ?_ _) | (with_reducible refine Below.next ?_ (by assumption)) | (with_reducible refine Below.next ?_ (OldAs.below (by assumption))) | (focus (first | (simp; done) | (simp; omega)))))⟩
  · have hb' : okBody b = false := by simpa using hb
    have HV : Hid (firedS b wet 100000 b.loss = (zR, 11)) := by unfold Hid; simp [firedS, hb']
    clear hb
    go_enter Try.func31, Try.ntmps31
    go_wp2_with (first | (go_at_call 46; refine Calls.mono (rCheckBody_any b _) ?_; rintro e w' ⟨rfl, hb⟩; ((first | (with_reducible have HB2 := Below.next HB hb) | (with_reducible have HB2 := Below.next (Below.nalloc HB _) hb) | have HB2 := hb); (try clear hc hf hz hz1 hz2 hn1 hn2); obtain ⟨hc, hf, hz, hz1, hz2, hn1, hn2⟩ := bcell3 HB2; (try clear HB); have HB := HB2; clear HB2; have hbk := hb; clear hb)))
    exact (bodyPost_ret (v := .tuple #[.agg #[.int .i64 0, .int .i64 0], .int .i64 11]) (by simp [results, Try.results31, go_sem, hc, hf]) rfl) ⟨by rw [HV.out]; rfl, by (repeat (first | (with_reducible exact Below.refl _ _) | (with_reducible refine Below.nset ?_ ?_ _) | (with_reducible refine Below.nalloc ?_ _) | (with_reducible refine Below.ndrew ?_) | (with_reducible refine Below.ndrewN ?_ _) | (with_reducible refine Below.next ?_ (by assumption)) | (with_reducible refine Below.next ?_ (OldAs.below (by assumption))) | (focus (first | (simp; done) | (simp; omega)))))⟩
end Go.Proofs.Ytcgokimagimamaa
