/- Layer 1, the program: checks, what fire makes, piles. What each call answers. -/
import Derived.Test.YtcgokimagimamaaProg
import Derived.Test.YtcgokimagimamaaGA
import Derived.WalkLawsBesides
namespace Go.Proofs.Ytcgokimagimamaa
open Go.RowKit
attribute [local go_sem] errIf_true errIf_false
set_option maxHeartbeats 400000
set_option linter.unusedSimpArgs false
set_option linter.unusedVariables false
theorem isWithin_any (n lo hi : Int) (w : World) :
    Calls Try.prog 55 #[.int .i64 n, .int .i64 lo, .int .i64 hi] w fun e w' => e = .returned (.bool (inB n lo hi)) ∧ w = w' := by
  go_enter Try.func55, Try.ntmps55
  go_wp2
  all_goals (go_ret; exact ⟨by simp [inB, *] <;> omega, rfl⟩)
theorem isPart_any (a b lo hi : Int) (w : World) :
    Calls Try.prog 64 #[.agg #[.int .i64 a, .int .i64 b], .int .i64 lo, .int .i64 hi] w fun e w' => e = .returned (.bool (partB a b lo hi)) ∧ Below w.heap.size w w' := by
  go_enter Try.func64, Try.ntmps64
  go_wp2
  all_goals (go_ret; exact ⟨by simp [partB, *] <;> omega, by (repeat (first | (with_reducible exact Below.refl _ _) | (with_reducible refine Below.nset ?_ ?_ _) | (with_reducible refine Below.nalloc ?_ _) | (with_reducible refine Below.ndrew ?_) | (with_reducible refine Below.ndrewN ?_ _) | (with_reducible refine Below.next ?_ (by assumption)) | (with_reducible refine Below.next ?_ (OldAs.below (by assumption))) | (focus (first | (simp; done) | (simp; omega)))))⟩)
theorem CheckShape_any (s : Shape) (w : World) :
    Calls Try.prog 27 #[.agg #[.int .i64 s.id, .int .i64 s.wide.lo, .int .i64 s.wide.hi, .int .i64 s.deep.lo, .int .i64 s.deep.hi, .int .i64 s.high.lo, .int .i64 s.high.hi, .int .i64 s.nest, .int .i64 s.weight.lo, .int .i64 s.weight.hi, .int .i64 s.bears]] w fun e w' => e = .returned (.int .i64 (errIf (okShape s) 10)) ∧ Below w.heap.size w w' := by
  go_enter Try.func27, Try.ntmps27
  go_wp2_with (first | (go_at_call 55; refine Calls.mono (isWithin_any _ _ _ _) ?_; rintro e w' ⟨rfl, rfl⟩) | (go_at_call 64; refine Calls.mono (isPart_any _ _ _ _ _) ?_; rintro e w' ⟨rfl, hb⟩; ((first | (with_reducible have HB2 := Below.next HB hb) | (with_reducible have HB2 := Below.next (Below.nalloc HB _) hb) | have HB2 := hb); (try clear hc hf hz hz1 hz2 hn1 hn2); obtain ⟨hc, hf, hz, hz1, hz2, hn1, hn2⟩ := bcell3 HB2; (try clear HB); have HB := HB2; clear HB2; have hbk := hb; clear hb)))
  all_goals (go_ret; exact ⟨by (first | rfl | ((try clear hc hf hz hz1 hz2 hn1 hn2 HB); simp_all [okShape, errIf, partR])), by (repeat (first | (with_reducible exact Below.refl _ _) | (with_reducible refine Below.nset ?_ ?_ _) | (with_reducible refine Below.nalloc ?_ _) | (with_reducible refine Below.ndrew ?_) | (with_reducible refine Below.ndrewN ?_ _) | (with_reducible refine Below.next ?_ (by assumption)) | (with_reducible refine Below.next ?_ (OldAs.below (by assumption))) | (focus (first | (simp; done) | (simp; omega)))))⟩)
theorem CheckBody_any (s : Body) (w : World) :
    Calls Try.prog 45 #[.agg #[.int .i64 s.id, .int .i64 s.shrink.lo, .int .i64 s.shrink.hi, .int .i64 s.loss.lo, .int .i64 s.loss.hi, .int .i64 s.heat.lo, .int .i64 s.heat.hi]] w fun e w' => e = .returned (.int .i64 (errIf (okBody s) 11)) ∧ Below w.heap.size w w' := by
  go_enter Try.func45, Try.ntmps45
  go_wp2_with (first | (go_at_call 55; refine Calls.mono (isWithin_any _ _ _ _) ?_; rintro e w' ⟨rfl, rfl⟩) | (go_at_call 64; refine Calls.mono (isPart_any _ _ _ _ _) ?_; rintro e w' ⟨rfl, hb⟩; ((first | (with_reducible have HB2 := Below.next HB hb) | (with_reducible have HB2 := Below.next (Below.nalloc HB _) hb) | have HB2 := hb); (try clear hc hf hz hz1 hz2 hn1 hn2); obtain ⟨hc, hf, hz, hz1, hz2, hn1, hn2⟩ := bcell3 HB2; (try clear HB); have HB := HB2; clear HB2; have hbk := hb; clear hb)))
  all_goals (go_ret; exact ⟨by (first | rfl | ((try clear hc hf hz hz1 hz2 hn1 hn2 HB); simp_all [okBody, errIf, partR])), by (repeat (first | (with_reducible exact Below.refl _ _) | (with_reducible refine Below.nset ?_ ?_ _) | (with_reducible refine Below.nalloc ?_ _) | (with_reducible refine Below.ndrew ?_) | (with_reducible refine Below.ndrewN ?_ _) | (with_reducible refine Below.next ?_ (by assumption)) | (with_reducible refine Below.next ?_ (OldAs.below (by assumption))) | (focus (first | (simp; done) | (simp; omega)))))⟩)
theorem down_any (n : Int) (w : World) (h0 : 0 ≤ n) (h1 : n ≤ 1000000000000) :
    Calls Try.prog 63 #[.int .i64 n] w fun e w' => e = .returned (.int .i64 (n / 1000)) ∧ w = w' := by
  go_enter Try.func63, Try.ntmps63
  go_wp2
  go_ret
  exact ⟨rfl, rfl⟩
theorem up_any (n : Int) (w : World) (h0 : 0 ≤ n) (h1 : n ≤ 1000000000000) :
    Calls Try.prog 90 #[.int .i64 n] w fun e w' => e = .returned (.int .i64 ((n + 999) / 1000)) ∧ w = w' := by
  go_enter Try.func90, Try.ntmps90
  go_wp2
  go_ret
  exact ⟨rfl, rfl⟩
theorem becomes1_any (n : Int) (b : Nat) (hi : Int) (w : World) (h : w.cell? ⟨b, 1, none⟩ = some (.int .i64 hi)) (h0 : 0 ≤ n) (h1 : n ≤ 100000) (h2 : 0 ≤ hi) (h3 : hi ≤ 1000) :
    Calls Try.prog 88 #[.int .i64 n, .pointer (some ⟨b, 0, none⟩)] w fun e w' => e = .returned (.int .i64 (turnLo n hi)) ∧ w = w' := by
  obtain ⟨m1, m2⟩ := mul_bound h0 h1 h2 h3
  go_enter Try.func88, Try.ntmps88
  go_wp2_with (first | (go_at_call 63; refine Calls.mono (down_any _ _ m1 (by omega)) ?_; rintro e w' ⟨rfl, rfl⟩))
  go_ret
  exact ⟨rfl, rfl⟩
theorem becomes2_any (n : Int) (b : Nat) (lo : Int) (w : World) (h : w.cell? ⟨b, 0, none⟩ = some (.int .i64 lo)) (h0 : 0 ≤ n) (h1 : n ≤ 100000) (h2 : 0 ≤ lo) (h3 : lo ≤ 1000) :
    Calls Try.prog 89 #[.int .i64 n, .pointer (some ⟨b, 0, none⟩)] w fun e w' => e = .returned (.int .i64 (turnHi n lo)) ∧ w = w' := by
  obtain ⟨m1, m2⟩ := mul_bound h0 h1 h2 h3
  go_enter Try.func89, Try.ntmps89
  go_wp2_with (first | (go_at_call 90; refine Calls.mono (up_any _ _ m1 (by omega)) ?_; rintro e w' ⟨rfl, rfl⟩))
  go_ret
  exact ⟨rfl, rfl⟩
theorem turned_any (lo hi x y : Int) (k1 k2 : Nat) (c1 c2 : Array Value) (w : World)
    (e1 : ∀ a w, (callFunc k1 a).run Try.prog w = .ok (.enter k1 a) w) (e2 : ∀ a w, (callFunc k2 a).run Try.prog w = .ok (.enter k2 a) w)
    (h1 : ∀ w1, Below w.heap.size w w1 → Calls Try.prog k1 (#[.int .i64 lo] ++ c1) w1 fun e w2 => e = .returned (.int .i64 x) ∧ Below w1.heap.size w1 w2)
    (h2 : ∀ w1, Below w.heap.size w w1 → Calls Try.prog k2 (#[.int .i64 hi] ++ c2) w1 fun e w2 => e = .returned (.int .i64 y) ∧ Below w1.heap.size w1 w2) :
    Calls Try.prog 52 #[.agg #[.int .i64 lo, .int .i64 hi], .func (.func k1) #[] c1, .func (.func k2) #[] c2] w fun e w' => e = .returned (.agg #[.int .i64 x, .int .i64 y]) ∧ Below w.heap.size w w' := by
  have H1 := hidI h1
  have H2 := hidI h2
  clear h1 h2
  go_enter Try.func52, Try.ntmps52
  go_wp2_with fail
  refine lin_begin 9 (by kernel_rfl) (by kernel_rfl) ?_
  (refine lin_take 0 (v := ?_) (by decide) rfl (by kernel_rfl) (by kernel_rfl) (by kernel_rfl) (fun _ _ _ h => h) (by rfl) (by (intro w hS hcl; first | (go_simp; done) | (go_simp; rfl))) ?_)
  (refine lin_take 1 (v := ?_) (by decide) rfl (by kernel_rfl) (by kernel_rfl) (by kernel_rfl) (fun _ _ _ h => h) (by rfl) (by (intro w hS hcl; first | (go_simp; done) | (go_simp; rfl))) ?_)
  (refine lin_take 2 (v := ?_) (by decide) rfl (by kernel_rfl) (by kernel_rfl) (by kernel_rfl) (fun _ _ _ h => h) (by rfl) (by (intro w hS hcl; first | (go_simp; done) | (go_simp; rfl))) ?_)
  (refine lin_call 3 (by decide) rfl (by kernel_rfl) (by kernel_rfl) (by kernel_rfl) (fun _ _ _ h => h) (by rfl) (by (intro w; first | (go_simp; done) | (go_simp; rfl))) (fun w1 hS _ => H1.out w1 (Below.next (Below.nalloc (Below.nalloc (Below.refl _ _) _) _) hS)) ?_)
  (refine lin_take 4 (v := ?_) (by decide) rfl (by kernel_rfl) (by kernel_rfl) (by kernel_rfl) (fun _ _ _ h => h) (by rfl) (by (intro w hS hcl; first | (go_simp; done) | (go_simp; rfl))) ?_)
  (refine lin_take 5 (v := ?_) (by decide) rfl (by kernel_rfl) (by kernel_rfl) (by kernel_rfl) (fun _ _ _ h => h) (by rfl) (by (intro w hS hcl; first | (go_simp; done) | (go_simp; rfl))) ?_)
  (refine lin_take 6 (v := ?_) (by decide) rfl (by kernel_rfl) (by kernel_rfl) (by kernel_rfl) (fun _ _ _ h => h) (by rfl) (by (intro w hS hcl; first | (go_simp; done) | (go_simp; rfl))) ?_)
  (refine lin_call 7 (by decide) rfl (by kernel_rfl) (by kernel_rfl) (by kernel_rfl) (fun _ _ _ h => h) (by rfl) (by (intro w; first | (go_simp; done) | (go_simp; rfl))) (fun w1 hS _ => H2.out w1 (Below.next (Below.nalloc (Below.nalloc (Below.refl _ _) _) _) hS)) ?_)
  (refine lin_take 8 (v := ?_) (by decide) rfl (by kernel_rfl) (by kernel_rfl) (by kernel_rfl) (fun _ _ _ h => h) (by rfl) (by (intro w hS hcl; first | (go_simp; done) | (go_simp; rfl))) ?_)
  refine lin_last rfl (by kernel_rfl) (by kernel_rfl) (by rfl) (fun w1 hS hcl hfr K hK => ?_)
  go_wp2
  exact (bodyPost_ret (v := .agg #[.int .i64 x, .int .i64 y]) (by simp [results, Try.results52, go_sem, hcl]) rfl) ⟨rfl, by (repeat (first | (with_reducible exact Below.refl _ _) | (with_reducible refine Below.nset ?_ ?_ _) | (with_reducible refine Below.nalloc ?_ _) | (with_reducible refine Below.ndrew ?_) | (with_reducible refine Below.ndrewN ?_ _) | (with_reducible refine Below.next ?_ (by assumption)) | (with_reducible refine Below.next ?_ (OldAs.below (by assumption))) | (focus (first | (simp; done) | (simp; omega)))))⟩
theorem becomes_any (wet by_ : Rng) (w : World) (h0 : 0 ≤ wet.lo) (h1 : wet.lo ≤ wet.hi) (h2 : wet.hi ≤ 100000) (h3 : 0 ≤ by_.lo) (h4 : by_.lo ≤ by_.hi) (h5 : by_.hi ≤ 1000) :
    Calls Try.prog 62 #[.agg #[.int .i64 wet.lo, .int .i64 wet.hi], .agg #[.int .i64 by_.lo, .int .i64 by_.hi]] w fun e w' => e = .returned (.agg #[.int .i64 (turnLo wet.lo by_.hi), .int .i64 (turnHi wet.hi by_.lo)]) ∧ Below w.heap.size w w' := by
  go_enter Try.func62, Try.ntmps62
  go_wp2_with fail
  refine Calls.mono (turned_any _ _ (turnLo wet.lo by_.hi) (turnHi wet.hi by_.lo) _ _ _ _ _ (ent _ Try.func88 (by kernel_rfl) rfl) (ent _ Try.func89 (by kernel_rfl) rfl) ?_ ?_) ?_
  · (intro w1 hB; simp only [List.append_toArray, List.cons_append, List.nil_append]; obtain ⟨hc, hf, hz, hz1, hz2, hn1, hn2⟩ := bcell3 hB; exact calls_eq (becomes1_any _ _ by_.hi _ (by go_simp) h0 (by omega) (by omega) h5))
  · (intro w1 hB; simp only [List.append_toArray, List.cons_append, List.nil_append]; obtain ⟨hc, hf, hz, hz1, hz2, hn1, hn2⟩ := bcell3 hB; exact calls_eq (becomes2_any _ _ by_.lo _ (by go_simp) (by omega) h2 h3 (by omega)))
  rintro e w' ⟨rfl, hb⟩
  ((first | (with_reducible have HB2 := Below.next HB hb) | (with_reducible have HB2 := Below.next (Below.nalloc HB _) hb) | have HB2 := hb); (try clear hc hf hz hz1 hz2 hn1 hn2); obtain ⟨hc, hf, hz, hz1, hz2, hn1, hn2⟩ := bcell3 HB2; (try clear HB); have HB := HB2; clear HB2; have hbk := hb; clear hb)
  go_wp2
  exact (bodyPost_ret (v := .agg #[.int .i64 (turnLo wet.lo by_.hi), .int .i64 (turnHi wet.hi by_.lo)]) (by simp [results, Try.results62, go_sem, hc]) rfl) ⟨rfl, by (repeat (first | (with_reducible exact Below.refl _ _) | (with_reducible refine Below.nset ?_ ?_ _) | (with_reducible refine Below.nalloc ?_ _) | (with_reducible refine Below.ndrew ?_) | (with_reducible refine Below.ndrewN ?_ _) | (with_reducible refine Below.next ?_ (by assumption)) | (with_reducible refine Below.next ?_ (OldAs.below (by assumption))) | (focus (first | (simp; done) | (simp; omega)))))⟩
end Go.Proofs.Ytcgokimagimamaa
/- Layer 1, the program: lengths and weights fired, piles. What each call answers. -/
namespace Go.Proofs.Ytcgokimagimamaa
open Go.RowKit
attribute [local go_sem] errIf_true errIf_false
set_option maxHeartbeats 400000
set_option linter.unusedSimpArgs false
set_option linter.unusedVariables false
theorem fired_any (b : Body) (wet : Rng) (most : Int) (by_ : Rng) (w : World) (hm : most ≤ 100000) (h3 : okBody b = true → 0 ≤ by_.lo ∧ by_.lo ≤ by_.hi ∧ by_.hi ≤ 1000) :
    Calls Try.prog 61 #[.agg #[.int .i64 b.id, .int .i64 b.shrink.lo, .int .i64 b.shrink.hi, .int .i64 b.loss.lo, .int .i64 b.loss.hi, .int .i64 b.heat.lo, .int .i64 b.heat.hi], .agg #[.int .i64 wet.lo, .int .i64 wet.hi], .int .i64 most, .agg #[.int .i64 by_.lo, .int .i64 by_.hi]] w fun e w' =>
      e = .returned (.tuple #[.agg #[.int .i64 ((firedS b wet most by_).1.lo), .int .i64 ((firedS b wet most by_).1.hi)], .int .i64 ((firedS b wet most by_).2)]) ∧ Below w.heap.size w w' := by
  by_cases hb : okBody b = true
  · obtain ⟨g1, g2, g3⟩ := h3 hb
    by_cases hp : partB wet.lo wet.hi 0 most = true
    · obtain ⟨p1, p2, p3⟩ := partB_iff.1 hp
      have HV : Hid (firedS b wet most by_ = (becomesR wet by_, 0)) := by unfold Hid; simp [firedS, hb, partR, hp]
      go_enter Try.func61, Try.ntmps61
      go_wp2_with (first | (go_at_call 45; refine Calls.mono (CheckBody_any b _) ?_; rintro e w' ⟨rfl, hb⟩; ((first | (with_reducible have HB2 := Below.next HB hb) | (with_reducible have HB2 := Below.next (Below.nalloc HB _) hb) | have HB2 := hb); (try clear hc hf hz hz1 hz2 hn1 hn2); obtain ⟨hc, hf, hz, hz1, hz2, hn1, hn2⟩ := bcell3 HB2; (try clear HB); have HB := HB2; clear HB2; have hbk := hb; clear hb)) | (go_at_call 64; refine Calls.mono (isPart_any _ _ _ _ _) ?_; rintro e w' ⟨rfl, hb⟩; ((first | (with_reducible have HB2 := Below.next HB hb) | (with_reducible have HB2 := Below.next (Below.nalloc HB _) hb) | have HB2 := hb); (try clear hc hf hz hz1 hz2 hn1 hn2); obtain ⟨hc, hf, hz, hz1, hz2, hn1, hn2⟩ := bcell3 HB2; (try clear HB); have HB := HB2; clear HB2; have hbk := hb; clear hb)) | (go_at_call 62; refine Calls.mono (becomes_any wet by_ _ p1 p2 (by omega) g1 g2 g3) ?_; rintro e w' ⟨rfl, hb⟩; ((first | (with_reducible have HB2 := Below.next HB hb) | (with_reducible have HB2 := Below.next (Below.nalloc HB _) hb) | have HB2 := hb); (try clear hc hf hz hz1 hz2 hn1 hn2); obtain ⟨hc, hf, hz, hz1, hz2, hn1, hn2⟩ := bcell3 HB2; (try clear HB); have HB := HB2; clear HB2; have hbk := hb; clear hb)))
      exact (bodyPost_ret (v := .tuple #[.agg #[.int .i64 (turnLo wet.lo by_.hi), .int .i64 (turnHi wet.hi by_.lo)], .int .i64 0]) (by simp [results, Try.results61, go_sem, hc, hf]) rfl) ⟨by rw [HV.out]; rfl, by (repeat (first | (with_reducible exact Below.refl _ _) | (with_reducible refine Below.nset ?_ ?_ _) | (with_reducible refine Below.nalloc ?_ _) | (with_reducible refine Below.ndrew ?_) | (with_reducible refine Below.ndrewN ?_ _) | (with_reducible refine Below.next ?_ (by assumption)) | (with_reducible refine Below.next ?_ (OldAs.below (by assumption))) | (focus (first | (simp; done) | (simp; omega)))))⟩
    · have hp' : partB wet.lo wet.hi 0 most = false := by simpa using hp
      have HV : Hid (firedS b wet most by_ = (zR, 1)) := by unfold Hid; simp [firedS, hb, partR, hp']
      clear hp
      go_enter Try.func61, Try.ntmps61
      go_wp2_with (first | (go_at_call 45; refine Calls.mono (CheckBody_any b _) ?_; rintro e w' ⟨rfl, hb⟩; ((first | (with_reducible have HB2 := Below.next HB hb) | (with_reducible have HB2 := Below.next (Below.nalloc HB _) hb) | have HB2 := hb); (try clear hc hf hz hz1 hz2 hn1 hn2); obtain ⟨hc, hf, hz, hz1, hz2, hn1, hn2⟩ := bcell3 HB2; (try clear HB); have HB := HB2; clear HB2; have hbk := hb; clear hb)) | (go_at_call 64; refine Calls.mono (isPart_any _ _ _ _ _) ?_; rintro e w' ⟨rfl, hb⟩; ((first | (with_reducible have HB2 := Below.next HB hb) | (with_reducible have HB2 := Below.next (Below.nalloc HB _) hb) | have HB2 := hb); (try clear hc hf hz hz1 hz2 hn1 hn2); obtain ⟨hc, hf, hz, hz1, hz2, hn1, hn2⟩ := bcell3 HB2; (try clear HB); have HB := HB2; clear HB2; have hbk := hb; clear hb)))
      exact (bodyPost_ret (v := .tuple #[.agg #[.int .i64 0, .int .i64 0], .int .i64 1]) (by simp [results, Try.results61, go_sem, hc, hf]) rfl) ⟨by rw [HV.out]; rfl, by (repeat (first | (with_reducible exact Below.refl _ _) | (with_reducible refine Below.nset ?_ ?_ _) | (with_reducible refine Below.nalloc ?_ _) | (with_reducible refine Below.ndrew ?_) | (with_reducible refine Below.ndrewN ?_ _) | (with_reducible refine Below.next ?_ (by assumption)) | (with_reducible refine Below.next ?_ (OldAs.below (by assumption))) | (focus (first | (simp; done) | (simp; omega)))))⟩
  · have hb' : okBody b = false := by simpa using hb
    have HV : Hid (firedS b wet most by_ = (zR, 11)) := by unfold Hid; simp [firedS, hb']
    clear hb h3
    go_enter Try.func61, Try.ntmps61
    go_wp2_with (first | (go_at_call 45; refine Calls.mono (CheckBody_any b _) ?_; rintro e w' ⟨rfl, hb⟩; ((first | (with_reducible have HB2 := Below.next HB hb) | (with_reducible have HB2 := Below.next (Below.nalloc HB _) hb) | have HB2 := hb); (try clear hc hf hz hz1 hz2 hn1 hn2); obtain ⟨hc, hf, hz, hz1, hz2, hn1, hn2⟩ := bcell3 HB2; (try clear HB); have HB := HB2; clear HB2; have hbk := hb; clear hb)))
    exact (bodyPost_ret (v := .tuple #[.agg #[.int .i64 0, .int .i64 0], .int .i64 11]) (by simp [results, Try.results61, go_sem, hc, hf]) rfl) ⟨by rw [HV.out]; rfl, by (repeat (first | (with_reducible exact Below.refl _ _) | (with_reducible refine Below.nset ?_ ?_ _) | (with_reducible refine Below.nalloc ?_ _) | (with_reducible refine Below.ndrew ?_) | (with_reducible refine Below.ndrewN ?_ _) | (with_reducible refine Below.next ?_ (by assumption)) | (with_reducible refine Below.next ?_ (OldAs.below (by assumption))) | (focus (first | (simp; done) | (simp; omega)))))⟩
theorem Shrunk_any (b : Body) (wet : Rng) (w : World) :
    Calls Try.prog 25 #[.agg #[.int .i64 b.id, .int .i64 b.shrink.lo, .int .i64 b.shrink.hi, .int .i64 b.loss.lo, .int .i64 b.loss.hi, .int .i64 b.heat.lo, .int .i64 b.heat.hi], .agg #[.int .i64 wet.lo, .int .i64 wet.hi]] w fun e w' =>
      e = .returned (.tuple #[.agg #[.int .i64 ((firedS b wet 2000 b.shrink).1.lo), .int .i64 ((firedS b wet 2000 b.shrink).1.hi)], .int .i64 ((firedS b wet 2000 b.shrink).2)]) ∧ Below w.heap.size w w' := by
  have h3 : okBody b = true → 0 ≤ b.shrink.lo ∧ b.shrink.lo ≤ b.shrink.hi ∧ b.shrink.hi ≤ 1000 := fun h => by have := okBody_iff.1 h; exact ⟨this.s1, this.s2, by have := this.s3; omega⟩
  have H3 := hidI h3
  clear h3
  go_enter Try.func25, Try.ntmps25
  go_wp2_with (first | (go_at_call 61; refine Calls.mono (fired_any b wet 2000 b.shrink _ (by omega) H3.out) ?_; rintro e w' ⟨rfl, hb⟩; ((first | (with_reducible have HB2 := Below.next HB hb) | (with_reducible have HB2 := Below.next (Below.nalloc HB _) hb) | have HB2 := hb); (try clear hc hf hz hz1 hz2 hn1 hn2); obtain ⟨hc, hf, hz, hz1, hz2, hn1, hn2⟩ := bcell3 HB2; (try clear HB); have HB := HB2; clear HB2; have hbk := hb; clear hb)))
  exact (bodyPost_ret (v := .tuple #[.agg #[.int .i64 ((firedS b wet 2000 b.shrink).1.lo), .int .i64 ((firedS b wet 2000 b.shrink).1.hi)], .int .i64 ((firedS b wet 2000 b.shrink).2)]) (by simp [results, Try.results25, go_sem, hc, hf]) rfl) ⟨rfl, by (repeat (first | (with_reducible exact Below.refl _ _) | (with_reducible refine Below.nset ?_ ?_ _) | (with_reducible refine Below.nalloc ?_ _) | (with_reducible refine Below.ndrew ?_) | (with_reducible refine Below.ndrewN ?_ _) | (with_reducible refine Below.next ?_ (by assumption)) | (with_reducible refine Below.next ?_ (OldAs.below (by assumption))) | (focus (first | (simp; done) | (simp; omega)))))⟩
theorem Burnt_any (b : Body) (wet : Rng) (w : World) :
    Calls Try.prog 30 #[.agg #[.int .i64 b.id, .int .i64 b.shrink.lo, .int .i64 b.shrink.hi, .int .i64 b.loss.lo, .int .i64 b.loss.hi, .int .i64 b.heat.lo, .int .i64 b.heat.hi], .agg #[.int .i64 wet.lo, .int .i64 wet.hi]] w fun e w' =>
      e = .returned (.tuple #[.agg #[.int .i64 ((firedS b wet 100000 b.loss).1.lo), .int .i64 ((firedS b wet 100000 b.loss).1.hi)], .int .i64 ((firedS b wet 100000 b.loss).2)]) ∧ Below w.heap.size w w' := by
  have h3 : okBody b = true → 0 ≤ b.loss.lo ∧ b.loss.lo ≤ b.loss.hi ∧ b.loss.hi ≤ 1000 := fun h => by have := okBody_iff.1 h; exact ⟨this.l1, this.l2, by have := this.l3; omega⟩
  have H3 := hidI h3
  clear h3
  go_enter Try.func30, Try.ntmps30
  go_wp2_with (first | (go_at_call 61; refine Calls.mono (fired_any b wet 100000 b.loss _ (by omega) H3.out) ?_; rintro e w' ⟨rfl, hb⟩; ((first | (with_reducible have HB2 := Below.next HB hb) | (with_reducible have HB2 := Below.next (Below.nalloc HB _) hb) | have HB2 := hb); (try clear hc hf hz hz1 hz2 hn1 hn2); obtain ⟨hc, hf, hz, hz1, hz2, hn1, hn2⟩ := bcell3 HB2; (try clear HB); have HB := HB2; clear HB2; have hbk := hb; clear hb)))
  exact (bodyPost_ret (v := .tuple #[.agg #[.int .i64 ((firedS b wet 100000 b.loss).1.lo), .int .i64 ((firedS b wet 100000 b.loss).1.hi)], .int .i64 ((firedS b wet 100000 b.loss).2)]) (by simp [results, Try.results30, go_sem, hc, hf]) rfl) ⟨rfl, by (repeat (first | (with_reducible exact Below.refl _ _) | (with_reducible refine Below.nset ?_ ?_ _) | (with_reducible refine Below.nalloc ?_ _) | (with_reducible refine Below.ndrew ?_) | (with_reducible refine Below.ndrewN ?_ _) | (with_reducible refine Below.next ?_ (by assumption)) | (with_reducible refine Below.next ?_ (OldAs.below (by assumption))) | (focus (first | (simp; done) | (simp; omega)))))⟩
theorem checkPile_any (s : Shape) (many : Int) (w : World) :
    Calls Try.prog 50 #[.agg #[.int .i64 s.id, .int .i64 s.wide.lo, .int .i64 s.wide.hi, .int .i64 s.deep.lo, .int .i64 s.deep.hi, .int .i64 s.high.lo, .int .i64 s.high.hi, .int .i64 s.nest, .int .i64 s.weight.lo, .int .i64 s.weight.hi, .int .i64 s.bears], .int .i64 many] w fun e w' => e = .returned (.int .i64 (pileErr s many)) ∧ Below w.heap.size w w' := by
  by_cases hs : okShape s = true
  · have HV : Hid (pileErr s many = if inB many 1 40 then 0 else 14) := by unfold Hid; simp [pileErr, hs]
    go_enter Try.func50, Try.ntmps50
    go_wp2_with (first | (go_at_call 27; refine Calls.mono (CheckShape_any s _) ?_; rintro e w' ⟨rfl, hb⟩; ((first | (with_reducible have HB2 := Below.next HB hb) | (with_reducible have HB2 := Below.next (Below.nalloc HB _) hb) | have HB2 := hb); (try clear hc hf hz hz1 hz2 hn1 hn2); obtain ⟨hc, hf, hz, hz1, hz2, hn1, hn2⟩ := bcell3 HB2; (try clear HB); have HB := HB2; clear HB2; have hbk := hb; clear hb)) | (go_at_call 55; refine Calls.mono (isWithin_any _ _ _ _) ?_; rintro e w' ⟨rfl, rfl⟩))
    all_goals (go_ret; exact ⟨by rw [HV.out]; simp_all, by (repeat (first | (with_reducible exact Below.refl _ _) | (with_reducible refine Below.nset ?_ ?_ _) | (with_reducible refine Below.nalloc ?_ _) | (with_reducible refine Below.ndrew ?_) | (with_reducible refine Below.ndrewN ?_ _) | (with_reducible refine Below.next ?_ (by assumption)) | (with_reducible refine Below.next ?_ (OldAs.below (by assumption))) | (focus (first | (simp; done) | (simp; omega)))))⟩)
  · have hs' : okShape s = false := by simpa using hs
    have HV : Hid (pileErr s many = 10) := by unfold Hid; simp [pileErr, hs']
    clear hs
    go_enter Try.func50, Try.ntmps50
    go_wp2_with (first | (go_at_call 27; refine Calls.mono (CheckShape_any s _) ?_; rintro e w' ⟨rfl, hb⟩; ((first | (with_reducible have HB2 := Below.next HB hb) | (with_reducible have HB2 := Below.next (Below.nalloc HB _) hb) | have HB2 := hb); (try clear hc hf hz hz1 hz2 hn1 hn2); obtain ⟨hc, hf, hz, hz1, hz2, hn1, hn2⟩ := bcell3 HB2; (try clear HB); have HB := HB2; clear HB2; have hbk := hb; clear hb)))
    all_goals (go_ret; exact ⟨by rw [HV.out]; rfl, by (repeat (first | (with_reducible exact Below.refl _ _) | (with_reducible refine Below.nset ?_ ?_ _) | (with_reducible refine Below.nalloc ?_ _) | (with_reducible refine Below.ndrew ?_) | (with_reducible refine Below.ndrewN ?_ _) | (with_reducible refine Below.next ?_ (by assumption)) | (with_reducible refine Below.next ?_ (OldAs.below (by assumption))) | (focus (first | (simp; done) | (simp; omega)))))⟩)
end Go.Proofs.Ytcgokimagimamaa
/- Layer 1, the program: piles. What each call answers. -/
namespace Go.Proofs.Ytcgokimagimamaa
open Go.RowKit
attribute [local go_sem] errIf_true errIf_false
set_option maxHeartbeats 400000
set_option linter.unusedSimpArgs false
set_option linter.unusedVariables false
theorem Height1_any (high many nest : Int) (b1 b2 : Nat) (w : World) (hm : w.cell? ⟨b1, 0, none⟩ = some (.int .i64 many)) (hn : w.cell? ⟨b2, 7, none⟩ = some (.int .i64 nest))
    (h0 : 0 ≤ nest) (h1 : nest ≤ high) (h2 : high ≤ 2000) (h3 : 1 ≤ many) (h4 : many ≤ 40) :
    Calls Try.prog 51 #[.int .i64 high, .pointer (some ⟨b1, 0, none⟩), .pointer (some ⟨b2, 0, none⟩)] w fun e w' => e = .returned (.int .i64 (pileHigh high nest many)) ∧ w = w' := by
  obtain ⟨m1, m2⟩ := pile_bound h0 h1 h2 h3 h4
  go_enter Try.func51, Try.ntmps51
  go_wp2
  go_ret
  exact ⟨rfl, rfl⟩
theorem Height_any (s : Shape) (many : Int) (w : World) :
    Calls Try.prog 11 #[.agg #[.int .i64 s.id, .int .i64 s.wide.lo, .int .i64 s.wide.hi, .int .i64 s.deep.lo, .int .i64 s.deep.hi, .int .i64 s.high.lo, .int .i64 s.high.hi, .int .i64 s.nest, .int .i64 s.weight.lo, .int .i64 s.weight.hi, .int .i64 s.bears], .int .i64 many] w fun e w' =>
      e = .returned (.tuple #[.agg #[.int .i64 ((heightS s many).1.lo), .int .i64 ((heightS s many).1.hi)], .int .i64 ((heightS s many).2)]) ∧ Below w.heap.size w w' := by
  by_cases hs : pileErr s many = 0
  · have HV : Hid (heightS s many = (⟨pileHigh s.high.lo s.nest many, pileHigh s.high.hi s.nest many⟩, 0)) := by unfold Hid; simp [heightS, hs]
    obtain ⟨o1, o2⟩ : okShape s = true ∧ inB many 1 40 = true := by unfold pileErr at hs; split at hs <;> (try split at hs) <;> simp_all
    have o3 := okShape_iff.1 o1
    obtain ⟨o4, o5⟩ := inB_iff.1 o2
    have n1 := o3.n1
    have n2 := o3.n2
    have n3 := o3.h2
    have n4 := o3.h3
    clear o1 o2 o3
    go_enter Try.func11, Try.ntmps11
    go_wp2_with (first | (go_at_call 50; refine Calls.mono (checkPile_any s many _) ?_; rintro e w' ⟨rfl, hb⟩; ((first | (with_reducible have HB2 := Below.next HB hb) | (with_reducible have HB2 := Below.next (Below.nalloc HB _) hb) | have HB2 := hb); (try clear hc hf hz hz1 hz2 hn1 hn2); obtain ⟨hc, hf, hz, hz1, hz2, hn1, hn2⟩ := bcell3 HB2; (try clear HB); have HB := HB2; clear HB2; have hbk := hb; clear hb)))
    refine Calls.mono (turned_any _ _ (pileHigh s.high.lo s.nest many) (pileHigh s.high.hi s.nest many) _ _ _ _ _ (ent _ Try.func51 (by kernel_rfl) rfl) (ent _ Try.func51 (by kernel_rfl) rfl) ?_ ?_) ?_
    · clear hs
      intro w1 hB; simp only [List.append_toArray, List.cons_append, List.nil_append]; obtain ⟨hc2, hf2⟩ := bcell (Below.next HB hB)
      exact calls_eq (Height1_any _ many s.nest _ _ _ (by go_simp) (by go_simp) n1 n2 (by omega) o4 o5)
    · clear hs
      intro w1 hB; simp only [List.append_toArray, List.cons_append, List.nil_append]; obtain ⟨hc2, hf2⟩ := bcell (Below.next HB hB)
      exact calls_eq (Height1_any _ many s.nest _ _ _ (by go_simp) (by go_simp) n1 (by omega) (by omega) o4 o5)
    rintro e w' ⟨rfl, hb⟩
    ((first | (with_reducible have HB2 := Below.next HB hb) | (with_reducible have HB2 := Below.next (Below.nalloc HB _) hb) | have HB2 := hb); (try clear hc hf hz hz1 hz2 hn1 hn2); obtain ⟨hc, hf, hz, hz1, hz2, hn1, hn2⟩ := bcell3 HB2; (try clear HB); have HB := HB2; clear HB2; have hbk := hb; clear hb)
    go_wp2
    exact (bodyPost_ret (v := .tuple #[.agg #[.int .i64 (pileHigh s.high.lo s.nest many), .int .i64 (pileHigh s.high.hi s.nest many)], .int .i64 0]) (by simp [results, Try.results11, go_sem, hc, hf]) rfl) ⟨by rw [HV.out], by (repeat (first | (with_reducible exact Below.refl _ _) | (with_reducible refine Below.nset ?_ ?_ _) | (with_reducible refine Below.nalloc ?_ _) | (with_reducible refine Below.ndrew ?_) | (with_reducible refine Below.ndrewN ?_ _) | (with_reducible refine Below.next ?_ (by assumption)) | (with_reducible refine Below.next ?_ (OldAs.below (by assumption))) | (focus (first | (simp; done) | (simp; omega)))))⟩
  · have HV : Hid (heightS s many = (zR, pileErr s many)) := by unfold Hid; simp [heightS, hs]
    go_enter Try.func11, Try.ntmps11
    go_wp2_with (first | (go_at_call 50; refine Calls.mono (checkPile_any s many _) ?_; rintro e w' ⟨rfl, hb⟩; ((first | (with_reducible have HB2 := Below.next HB hb) | (with_reducible have HB2 := Below.next (Below.nalloc HB _) hb) | have HB2 := hb); (try clear hc hf hz hz1 hz2 hn1 hn2); obtain ⟨hc, hf, hz, hz1, hz2, hn1, hn2⟩ := bcell3 HB2; (try clear HB); have HB := HB2; clear HB2; have hbk := hb; clear hb)))
    exact (bodyPost_ret (v := .tuple #[.agg #[.int .i64 0, .int .i64 0], .int .i64 (pileErr s many)]) (by simp [results, Try.results11, go_sem, hc, hf]) rfl) ⟨by rw [HV.out]; rfl, by (repeat (first | (with_reducible exact Below.refl _ _) | (with_reducible refine Below.nset ?_ ?_ _) | (with_reducible refine Below.nalloc ?_ _) | (with_reducible refine Below.ndrew ?_) | (with_reducible refine Below.ndrewN ?_ _) | (with_reducible refine Below.next ?_ (by assumption)) | (with_reducible refine Below.next ?_ (OldAs.below (by assumption))) | (focus (first | (simp; done) | (simp; omega)))))⟩
theorem Load1_any (weight many at_ : Int) (b1 b2 : Nat) (w : World) (hm : w.cell? ⟨b1, 0, none⟩ = some (.int .i64 many)) (hn : w.cell? ⟨b2, 0, none⟩ = some (.int .i64 at_))
    (h0 : 0 ≤ weight) (h1 : weight ≤ 100000) (h2 : 0 ≤ at_) (h3 : at_ ≤ many - 1) (h4 : many ≤ 40) :
    Calls Try.prog 56 #[.int .i64 weight, .pointer (some ⟨b1, 0, none⟩), .pointer (some ⟨b2, 0, none⟩)] w fun e w' => e = .returned (.int .i64 ((many - 1 - at_) * weight)) ∧ w = w' := by
  obtain ⟨m1, m2⟩ := load_bound h0 h1 h2 h3 h4
  go_enter Try.func56, Try.ntmps56
  go_wp2
  go_ret
  exact ⟨rfl, rfl⟩
theorem Load_any (s : Shape) (many at_ : Int) (w : World) :
    Calls Try.prog 13 #[.agg #[.int .i64 s.id, .int .i64 s.wide.lo, .int .i64 s.wide.hi, .int .i64 s.deep.lo, .int .i64 s.deep.hi, .int .i64 s.high.lo, .int .i64 s.high.hi, .int .i64 s.nest, .int .i64 s.weight.lo, .int .i64 s.weight.hi, .int .i64 s.bears], .int .i64 many, .int .i64 at_] w fun e w' =>
      e = .returned (.tuple #[.agg #[.int .i64 ((loadS s many at_).1.lo), .int .i64 ((loadS s many at_).1.hi)], .int .i64 ((loadS s many at_).2)]) ∧ Below w.heap.size w w' := by
  by_cases hs : pileErr s many = 0
  · obtain ⟨o1, o2⟩ : okShape s = true ∧ inB many 1 40 = true := by unfold pileErr at hs; split at hs <;> (try split at hs) <;> simp_all
    have o3 := okShape_iff.1 o1
    obtain ⟨o4, o5⟩ := inB_iff.1 o2
    have n1 := o3.g1
    have n2 := o3.g2
    have n3 := o3.g3
    clear o1 o2 o3
    by_cases hi : inB at_ 0 (many - 1) = true
    · have HV : Hid (loadS s many at_ = (⟨(many - 1 - at_) * s.weight.lo, (many - 1 - at_) * s.weight.hi⟩, 0)) := by unfold Hid; simp [loadS, hs, hi]
      obtain ⟨a1, a2⟩ := inB_iff.1 hi
      go_enter Try.func13, Try.ntmps13
      go_wp2_with (first | (go_at_call 50; refine Calls.mono (checkPile_any s many _) ?_; rintro e w' ⟨rfl, hb⟩; ((first | (with_reducible have HB2 := Below.next HB hb) | (with_reducible have HB2 := Below.next (Below.nalloc HB _) hb) | have HB2 := hb); (try clear hc hf hz hz1 hz2 hn1 hn2); obtain ⟨hc, hf, hz, hz1, hz2, hn1, hn2⟩ := bcell3 HB2; (try clear HB); have HB := HB2; clear HB2; have hbk := hb; clear hb)) | (go_at_call 55; refine Calls.mono (isWithin_any _ _ _ _) ?_; rintro e w' ⟨rfl, rfl⟩))
      refine Calls.mono (turned_any _ _ ((many - 1 - at_) * s.weight.lo) ((many - 1 - at_) * s.weight.hi) _ _ _ _ _ (ent _ Try.func56 (by kernel_rfl) rfl) (ent _ Try.func56 (by kernel_rfl) rfl) ?_ ?_) ?_
      · clear hs
        intro w1 hB; simp only [List.append_toArray, List.cons_append, List.nil_append]; obtain ⟨hc2, hf2⟩ := bcell (Below.next HB hB)
        exact calls_eq (Load1_any _ many at_ _ _ _ (by go_simp) (by go_simp) n1 (by omega) a1 a2 o5)
      · clear hs
        intro w1 hB; simp only [List.append_toArray, List.cons_append, List.nil_append]; obtain ⟨hc2, hf2⟩ := bcell (Below.next HB hB)
        exact calls_eq (Load1_any _ many at_ _ _ _ (by go_simp) (by go_simp) (by omega) n3 a1 a2 o5)
      rintro e w' ⟨rfl, hb⟩
      ((first | (with_reducible have HB2 := Below.next HB hb) | (with_reducible have HB2 := Below.next (Below.nalloc HB _) hb) | have HB2 := hb); (try clear hc hf hz hz1 hz2 hn1 hn2); obtain ⟨hc, hf, hz, hz1, hz2, hn1, hn2⟩ := bcell3 HB2; (try clear HB); have HB := HB2; clear HB2; have hbk := hb; clear hb)
      go_wp2
      exact (bodyPost_ret (v := .tuple #[.agg #[.int .i64 ((many - 1 - at_) * s.weight.lo), .int .i64 ((many - 1 - at_) * s.weight.hi)], .int .i64 0]) (by simp [results, Try.results13, go_sem, hc, hf]) rfl) ⟨by rw [HV.out], by (repeat (first | (with_reducible exact Below.refl _ _) | (with_reducible refine Below.nset ?_ ?_ _) | (with_reducible refine Below.nalloc ?_ _) | (with_reducible refine Below.ndrew ?_) | (with_reducible refine Below.ndrewN ?_ _) | (with_reducible refine Below.next ?_ (by assumption)) | (with_reducible refine Below.next ?_ (OldAs.below (by assumption))) | (focus (first | (simp; done) | (simp; omega)))))⟩
    · have hi' : inB at_ 0 (many - 1) = false := by simpa using hi
      have HV : Hid (loadS s many at_ = (zR, 1)) := by unfold Hid; simp [loadS, hs, hi']
      clear hi
      go_enter Try.func13, Try.ntmps13
      go_wp2_with (first | (go_at_call 50; refine Calls.mono (checkPile_any s many _) ?_; rintro e w' ⟨rfl, hb⟩; ((first | (with_reducible have HB2 := Below.next HB hb) | (with_reducible have HB2 := Below.next (Below.nalloc HB _) hb) | have HB2 := hb); (try clear hc hf hz hz1 hz2 hn1 hn2); obtain ⟨hc, hf, hz, hz1, hz2, hn1, hn2⟩ := bcell3 HB2; (try clear HB); have HB := HB2; clear HB2; have hbk := hb; clear hb)) | (go_at_call 55; refine Calls.mono (isWithin_any _ _ _ _) ?_; rintro e w' ⟨rfl, rfl⟩))
      exact (bodyPost_ret (v := .tuple #[.agg #[.int .i64 0, .int .i64 0], .int .i64 1]) (by simp [results, Try.results13, go_sem, hc, hf]) rfl) ⟨by rw [HV.out]; rfl, by (repeat (first | (with_reducible exact Below.refl _ _) | (with_reducible refine Below.nset ?_ ?_ _) | (with_reducible refine Below.nalloc ?_ _) | (with_reducible refine Below.ndrew ?_) | (with_reducible refine Below.ndrewN ?_ _) | (with_reducible refine Below.next ?_ (by assumption)) | (with_reducible refine Below.next ?_ (OldAs.below (by assumption))) | (focus (first | (simp; done) | (simp; omega)))))⟩
  · have HV : Hid (loadS s many at_ = (zR, pileErr s many)) := by unfold Hid; simp [loadS, hs]
    go_enter Try.func13, Try.ntmps13
    go_wp2_with (first | (go_at_call 50; refine Calls.mono (checkPile_any s many _) ?_; rintro e w' ⟨rfl, hb⟩; ((first | (with_reducible have HB2 := Below.next HB hb) | (with_reducible have HB2 := Below.next (Below.nalloc HB _) hb) | have HB2 := hb); (try clear hc hf hz hz1 hz2 hn1 hn2); obtain ⟨hc, hf, hz, hz1, hz2, hn1, hn2⟩ := bcell3 HB2; (try clear HB); have HB := HB2; clear HB2; have hbk := hb; clear hb)))
    exact (bodyPost_ret (v := .tuple #[.agg #[.int .i64 0, .int .i64 0], .int .i64 (pileErr s many)]) (by simp [results, Try.results13, go_sem, hc, hf]) rfl) ⟨by rw [HV.out]; rfl, by (repeat (first | (with_reducible exact Below.refl _ _) | (with_reducible refine Below.nset ?_ ?_ _) | (with_reducible refine Below.nalloc ?_ _) | (with_reducible refine Below.ndrew ?_) | (with_reducible refine Below.ndrewN ?_ _) | (with_reducible refine Below.next ?_ (by assumption)) | (with_reducible refine Below.next ?_ (OldAs.below (by assumption))) | (focus (first | (simp; done) | (simp; omega)))))⟩
end Go.Proofs.Ytcgokimagimamaa
/- Layer 1, the program: piles that stand, moulds, fired shapes. What each call answers. -/
namespace Go.Proofs.Ytcgokimagimamaa
open Go.RowKit
attribute [local go_sem] errIf_true errIf_false
set_option maxHeartbeats 400000
set_option linter.unusedSimpArgs false
set_option linter.unusedVariables false
theorem load0 (s : Shape) (many : Int) (h : pileErr s many = 0) : loadS s many 0 = (⟨(many - 1) * s.weight.lo, (many - 1) * s.weight.hi⟩, 0) := by
  obtain ⟨o1, o2⟩ : okShape s = true ∧ inB many 1 40 = true := by unfold pileErr at h; split at h <;> (try split at h) <;> simp_all
  have o4 := (inB_iff.1 o2).1
  have : inB 0 0 (many - 1) = true := inB_iff.2 ⟨by omega, by omega⟩
  simp [loadS, h, this]
theorem loadE (s : Shape) (many : Int) (h : ¬ pileErr s many = 0) : loadS s many 0 = (zR, pileErr s many) := by simp [loadS, h]
theorem Stands_any (s : Shape) (many : Int) (w : World) :
    Calls Try.prog 15 #[.agg #[.int .i64 s.id, .int .i64 s.wide.lo, .int .i64 s.wide.hi, .int .i64 s.deep.lo, .int .i64 s.deep.hi, .int .i64 s.high.lo, .int .i64 s.high.hi, .int .i64 s.nest, .int .i64 s.weight.lo, .int .i64 s.weight.hi, .int .i64 s.bears], .int .i64 many] w fun e w' =>
      e = .returned (.tuple #[.bool (standsS s many).1, .int .i64 ((standsS s many).2)]) ∧ Below w.heap.size w w' := by
  by_cases hs : pileErr s many = 0
  · have HV : Hid (standsS s many = (standsB s many, 0)) := by unfold Hid; simp [standsS, hs]
    have hl := load0 s many hs
    have HE : Hid (standsB s many = decide ((many - 1) * s.weight.hi ≤ s.bears)) := rfl
    generalize (many - 1) * s.weight.hi = m at *
    generalize (many - 1) * s.weight.lo = m2 at *
    generalize standsB s many = sb at *
    have h1 : (loadS s many 0).1.lo = m2 := by rw [hl]
    have h2 : (loadS s many 0).1.hi = m := by rw [hl]
    have h3 : (loadS s many 0).2 = 0 := by rw [hl]
    clear hl hs
    by_cases hle : m ≤ s.bears
    · go_enter Try.func15, Try.ntmps15
      go_wp2_with (first | (go_at_call 13; refine Calls.mono (Load_any s many 0 _) ?_; rintro e w' ⟨rfl, hb⟩; ((first | (with_reducible have HB2 := Below.next HB hb) | (with_reducible have HB2 := Below.next (Below.nalloc HB _) hb) | have HB2 := hb); (try clear hc hf hz hz1 hz2 hn1 hn2); obtain ⟨hc, hf, hz, hz1, hz2, hn1, hn2⟩ := bcell3 HB2; (try clear HB); have HB := HB2; clear HB2; have hbk := hb; clear hb)))
      go_ret2
      exact ⟨by rw [HV.out, HE.out]; simp [hle], by (repeat (first | (with_reducible exact Below.refl _ _) | (with_reducible refine Below.nset ?_ ?_ _) | (with_reducible refine Below.nalloc ?_ _) | (with_reducible refine Below.ndrew ?_) | (with_reducible refine Below.ndrewN ?_ _) | (with_reducible refine Below.next ?_ (by assumption)) | (with_reducible refine Below.next ?_ (OldAs.below (by assumption))) | (focus (first | (simp; done) | (simp; omega)))))⟩
    · go_enter Try.func15, Try.ntmps15
      go_wp2_with (first | (go_at_call 13; refine Calls.mono (Load_any s many 0 _) ?_; rintro e w' ⟨rfl, hb⟩; ((first | (with_reducible have HB2 := Below.next HB hb) | (with_reducible have HB2 := Below.next (Below.nalloc HB _) hb) | have HB2 := hb); (try clear hc hf hz hz1 hz2 hn1 hn2); obtain ⟨hc, hf, hz, hz1, hz2, hn1, hn2⟩ := bcell3 HB2; (try clear HB); have HB := HB2; clear HB2; have hbk := hb; clear hb)))
      go_ret2
      exact ⟨by rw [HV.out, HE.out]; simp [hle], by (repeat (first | (with_reducible exact Below.refl _ _) | (with_reducible refine Below.nset ?_ ?_ _) | (with_reducible refine Below.nalloc ?_ _) | (with_reducible refine Below.ndrew ?_) | (with_reducible refine Below.ndrewN ?_ _) | (with_reducible refine Below.next ?_ (by assumption)) | (with_reducible refine Below.next ?_ (OldAs.below (by assumption))) | (focus (first | (simp; done) | (simp; omega)))))⟩
  · have HV : Hid (standsS s many = (false, pileErr s many)) := by unfold Hid; simp [standsS, hs]
    have hl := loadE s many hs
    have h1 : (loadS s many 0).1.lo = 0 := by rw [hl]; rfl
    have h2 : (loadS s many 0).1.hi = 0 := by rw [hl]; rfl
    have h3 : (loadS s many 0).2 = pileErr s many := by rw [hl]
    clear hl
    go_enter Try.func15, Try.ntmps15
    go_wp2_with (first | (go_at_call 13; refine Calls.mono (Load_any s many 0 _) ?_; rintro e w' ⟨rfl, hb⟩; ((first | (with_reducible have HB2 := Below.next HB hb) | (with_reducible have HB2 := Below.next (Below.nalloc HB _) hb) | have HB2 := hb); (try clear hc hf hz hz1 hz2 hn1 hn2); obtain ⟨hc, hf, hz, hz1, hz2, hn1, hn2⟩ := bcell3 HB2; (try clear HB); have HB := HB2; clear HB2; have hbk := hb; clear hb)))
    go_ret2
    exact ⟨by rw [HV.out]; rfl, by (repeat (first | (with_reducible exact Below.refl _ _) | (with_reducible refine Below.nset ?_ ?_ _) | (with_reducible refine Below.nalloc ?_ _) | (with_reducible refine Below.ndrew ?_) | (with_reducible refine Below.ndrewN ?_ _) | (with_reducible refine Below.next ?_ (by assumption)) | (with_reducible refine Below.next ?_ (OldAs.below (by assumption))) | (focus (first | (simp; done) | (simp; omega)))))⟩

def MostInv (p : Int → Bool) (k : Nat) : Prop := mostFrom p 40 = mostFrom p k
theorem MostInv.start (p : Int → Bool) : MostInv p 40 := rfl
theorem MostInv.next {p : Int → Bool} {k : Nat} (h : MostInv p (k + 1)) (hp : p ((k : Int) + 1) = false) : MostInv p k := by
  unfold MostInv at *; rw [h]; simp [mostFrom, hp]
theorem MostInv.found {p : Int → Bool} {k : Nat} (h : MostInv p (k + 1)) (hp : p ((k : Int) + 1) = true) : mostFrom p 40 = (k : Int) + 1 := by
  unfold MostInv at h; rw [h]; simp [mostFrom, hp]
theorem MostInv.none {p : Int → Bool} (h : MostInv p 0) : mostFrom p 40 = 0 := h
theorem Most_any (s : Shape) (high : Int) (w : World) :
    Calls Try.prog 17 #[.agg #[.int .i64 s.id, .int .i64 s.wide.lo, .int .i64 s.wide.hi, .int .i64 s.deep.lo, .int .i64 s.deep.hi, .int .i64 s.high.lo, .int .i64 s.high.hi, .int .i64 s.nest, .int .i64 s.weight.lo, .int .i64 s.weight.hi, .int .i64 s.bears], .int .i64 high] w fun e w' =>
      e = .returned (.tuple #[.int .i64 ((mostS s high).1), .int .i64 ((mostS s high).2)]) ∧ Below w.heap.size w w' := by
  by_cases hs : okShape s = true
  · have HV : Hid (mostS s high = if mostFrom (fitsPile s high) 40 = 0 then (0, 3) else (mostFrom (fitsPile s high) 40, 0)) := by unfold Hid; simp [mostS, hs]
    have HS := hidI hs
    go_enter Try.func17, Try.ntmps17
    go_wp2_with (first | (go_at_call 27; refine Calls.mono (CheckShape_any s _) ?_; rintro e w' ⟨rfl, hb⟩; ((first | (with_reducible have HB2 := Below.next HB hb) | (with_reducible have HB2 := Below.next (Below.nalloc HB _) hb) | have HB2 := hb); (try clear hc hf hz hz1 hz2 hn1 hn2); obtain ⟨hc, hf, hz, hz1, hz2, hn1, hn2⟩ := bcell3 HB2; (try clear HB); have HB := HB2; clear HB2; have hbk := hb; clear hb)))
    have HW : Below w.heap.size w w' := by (repeat (first | (with_reducible exact Below.refl _ _) | (with_reducible refine Below.nset ?_ ?_ _) | (with_reducible refine Below.nalloc ?_ _) | (with_reducible refine Below.ndrew ?_) | (with_reducible refine Below.ndrewN ?_ _) | (with_reducible refine Below.next ?_ (by assumption)) | (with_reducible refine Below.next ?_ (OldAs.below (by assumption))) | (focus (first | (simp; done) | (simp; omega)))))
    clear hs hc hf hz hz1 hz2 hn1 hn2
    go_loopw [7] (fun many wr => ∃ k : Nat, k ≤ 40 ∧ many = .int .i64 k ∧ MostInv (fitsPile s high) k ∧ Below w'.heap.size w' wr) (fun many _ => (intOf many).toNat)
    case atStart => exact ⟨40, by omega, rfl, MostInv.start _, Below.refl _ _⟩
    case round =>
      obtain ⟨k, hk, rfl, hI, hR⟩ := hrel
      (have HB2 := Below.next HB hR; clear HB; have HB := HB2; clear HB2; have hR2 := hR; clear hR; obtain ⟨hc, hf, hz, hz1, hz2, hn1, hn2⟩ := bcell3 HB)
      cases k with
      | zero =>
        have hn := hI.none
        have HV2 : Hid (mostS s high = (0, 3)) := by unfold Hid; rw [HV.out, if_pos hn]
        clear hn
        go_wp2
        go_ret2
        exact ⟨by rw [HV2.out]; rfl, by (repeat (first | (with_reducible exact Below.refl _ _) | (with_reducible refine Below.nset ?_ ?_ _) | (with_reducible refine Below.nalloc ?_ _) | (with_reducible refine Below.ndrew ?_) | (with_reducible refine Below.ndrewN ?_ _) | (with_reducible refine Below.next ?_ (by assumption)) | (with_reducible refine Below.next ?_ (OldAs.below (by assumption))) | (focus (first | (simp; done) | (simp; omega)))))⟩
      | succ k =>
        have hp : pileErr s ((k : Int) + 1) = 0 := by
          have : inB ((k : Int) + 1) 1 40 = true := inB_iff.2 ⟨by omega, by omega⟩
          simp [pileErr, HS.out, this]
        have h1 : (standsS s ((k : Int) + 1)).1 = standsB s ((k : Int) + 1) := by simp [standsS, hp]
        have h2 : (standsS s ((k : Int) + 1)).2 = 0 := by simp [standsS, hp]
        have h3 : (heightS s ((k : Int) + 1)).1.hi = pileHigh s.high.hi s.nest ((k : Int) + 1) := by simp [heightS, hp]
        have h4 : (heightS s ((k : Int) + 1)).2 = 0 := by simp [heightS, hp]
        have HF : Hid (fitsPile s high ((k : Int) + 1) = (standsB s ((k : Int) + 1) && decide (pileHigh s.high.hi s.nest ((k : Int) + 1) ≤ high))) := rfl
        clear hp
        generalize standsB s ((k : Int) + 1) = sb at *
        generalize pileHigh s.high.hi s.nest ((k : Int) + 1) = ph at *
        cases sb with
        | false =>
          have hI2 := hI.next (by rw [HF.out]; rfl)
          go_wp2_with (first | (go_at_call 15; refine Calls.mono (Stands_any s ((k : Int) + 1) _) ?_; rintro e w' ⟨rfl, hb⟩; ((first | (with_reducible have HB2 := Below.next HB hb) | (with_reducible have HB2 := Below.next (Below.nalloc HB _) hb) | have HB2 := hb); (try clear hc hf hz hz1 hz2 hn1 hn2); obtain ⟨hc, hf, hz, hz1, hz2, hn1, hn2⟩ := bcell3 HB2; (try clear HB); have HB := HB2; clear HB2; have hbk := hb; clear hb)) | (go_at_call 11; refine Calls.mono (Height_any s ((k : Int) + 1) _) ?_; rintro e w' ⟨rfl, hb⟩; ((first | (with_reducible have HB2 := Below.next HB hb) | (with_reducible have HB2 := Below.next (Below.nalloc HB _) hb) | have HB2 := hb); (try clear hc hf hz hz1 hz2 hn1 hn2); obtain ⟨hc, hf, hz, hz1, hz2, hn1, hn2⟩ := bcell3 HB2; (try clear HB); have HB := HB2; clear HB2; have hbk := hb; clear hb)))
          go_roundw
          case rel => exact ⟨k, by omega, by go_num, hI2, by (repeat (first | (with_reducible exact Below.refl _ _) | (with_reducible refine Below.nset ?_ ?_ _) | (with_reducible refine Below.nalloc ?_ _) | (with_reducible refine Below.ndrew ?_) | (with_reducible refine Below.ndrewN ?_ _) | (with_reducible refine Below.next ?_ (by assumption)) | (with_reducible refine Below.next ?_ (OldAs.below (by assumption))) | (focus (first | (simp; done) | (simp; omega)))))⟩
          case measure => first | (simp [intOf]; done) | (simp [intOf]; omega)
        | true =>
          by_cases hle : ph ≤ high
          · have hI2 := hI.found (by rw [HF.out]; simp [hle])
            have HV2 : Hid (mostS s high = ((k : Int) + 1, 0)) := by unfold Hid; rw [HV.out, hI2, if_neg (by omega)]
            clear hI2
            go_wp2_with (first | (go_at_call 15; refine Calls.mono (Stands_any s ((k : Int) + 1) _) ?_; rintro e w' ⟨rfl, hb⟩; ((first | (with_reducible have HB2 := Below.next HB hb) | (with_reducible have HB2 := Below.next (Below.nalloc HB _) hb) | have HB2 := hb); (try clear hc hf hz hz1 hz2 hn1 hn2); obtain ⟨hc, hf, hz, hz1, hz2, hn1, hn2⟩ := bcell3 HB2; (try clear HB); have HB := HB2; clear HB2; have hbk := hb; clear hb)) | (go_at_call 11; refine Calls.mono (Height_any s ((k : Int) + 1) _) ?_; rintro e w' ⟨rfl, hb⟩; ((first | (with_reducible have HB2 := Below.next HB hb) | (with_reducible have HB2 := Below.next (Below.nalloc HB _) hb) | have HB2 := hb); (try clear hc hf hz hz1 hz2 hn1 hn2); obtain ⟨hc, hf, hz, hz1, hz2, hn1, hn2⟩ := bcell3 HB2; (try clear HB); have HB := HB2; clear HB2; have hbk := hb; clear hb)))
            go_ret2
            exact ⟨by rw [HV2.out]; rfl, by (repeat (first | (with_reducible exact Below.refl _ _) | (with_reducible refine Below.nset ?_ ?_ _) | (with_reducible refine Below.nalloc ?_ _) | (with_reducible refine Below.ndrew ?_) | (with_reducible refine Below.ndrewN ?_ _) | (with_reducible refine Below.next ?_ (by assumption)) | (with_reducible refine Below.next ?_ (OldAs.below (by assumption))) | (focus (first | (simp; done) | (simp; omega)))))⟩
          · have hI2 := hI.next (by rw [HF.out]; simp [hle])
            go_wp2_with (first | (go_at_call 15; refine Calls.mono (Stands_any s ((k : Int) + 1) _) ?_; rintro e w' ⟨rfl, hb⟩; ((first | (with_reducible have HB2 := Below.next HB hb) | (with_reducible have HB2 := Below.next (Below.nalloc HB _) hb) | have HB2 := hb); (try clear hc hf hz hz1 hz2 hn1 hn2); obtain ⟨hc, hf, hz, hz1, hz2, hn1, hn2⟩ := bcell3 HB2; (try clear HB); have HB := HB2; clear HB2; have hbk := hb; clear hb)) | (go_at_call 11; refine Calls.mono (Height_any s ((k : Int) + 1) _) ?_; rintro e w' ⟨rfl, hb⟩; ((first | (with_reducible have HB2 := Below.next HB hb) | (with_reducible have HB2 := Below.next (Below.nalloc HB _) hb) | have HB2 := hb); (try clear hc hf hz hz1 hz2 hn1 hn2); obtain ⟨hc, hf, hz, hz1, hz2, hn1, hn2⟩ := bcell3 HB2; (try clear HB); have HB := HB2; clear HB2; have hbk := hb; clear hb)))
            go_roundw
            case rel => exact ⟨k, by omega, by go_num, hI2, by (repeat (first | (with_reducible exact Below.refl _ _) | (with_reducible refine Below.nset ?_ ?_ _) | (with_reducible refine Below.nalloc ?_ _) | (with_reducible refine Below.ndrew ?_) | (with_reducible refine Below.ndrewN ?_ _) | (with_reducible refine Below.next ?_ (by assumption)) | (with_reducible refine Below.next ?_ (OldAs.below (by assumption))) | (focus (first | (simp; done) | (simp; omega)))))⟩
            case measure => first | (simp [intOf]; done) | (simp [intOf]; omega)
  · have hs' : okShape s = false := by simpa using hs
    have HV : Hid (mostS s high = (0, 10)) := by unfold Hid; simp [mostS, hs']
    clear hs
    go_enter Try.func17, Try.ntmps17
    go_wp2_with (first | (go_at_call 27; refine Calls.mono (CheckShape_any s _) ?_; rintro e w' ⟨rfl, hb⟩; ((first | (with_reducible have HB2 := Below.next HB hb) | (with_reducible have HB2 := Below.next (Below.nalloc HB _) hb) | have HB2 := hb); (try clear hc hf hz hz1 hz2 hn1 hn2); obtain ⟨hc, hf, hz, hz1, hz2, hn1, hn2⟩ := bcell3 HB2; (try clear HB); have HB := HB2; clear HB2; have hbk := hb; clear hb)))
    go_ret2
    exact ⟨by rw [HV.out]; rfl, by (repeat (first | (with_reducible exact Below.refl _ _) | (with_reducible refine Below.nset ?_ ?_ _) | (with_reducible refine Below.nalloc ?_ _) | (with_reducible refine Below.ndrew ?_) | (with_reducible refine Below.ndrewN ?_ _) | (with_reducible refine Below.next ?_ (by assumption)) | (with_reducible refine Below.next ?_ (OldAs.below (by assumption))) | (focus (first | (simp; done) | (simp; omega)))))⟩
end Go.Proofs.Ytcgokimagimamaa
