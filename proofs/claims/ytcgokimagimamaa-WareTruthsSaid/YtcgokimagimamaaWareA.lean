
/- Layer 1, the program: checks, what fire makes, piles. What each call answers. -/
import Derived.Test.YtcgokimagimamaaProg
import Derived.Test.YtcgokimagimamaaWords
import Derived.Test.YtcgokimagimamaaPlain
import Derived.WalkLawsBesides
namespace Go.Proofs.Ytcgokimagimamaa
open Go.RowKit
attribute [local go_sem] errIf_true errIf_false
set_option maxHeartbeats 400000
set_option linter.unusedSimpArgs false
set_option linter.unusedVariables false
theorem isWithin_any (n lo hi : Int) (w : World) :
    Calls Try.prog 55 #[.int .i64 n, .int .i64 lo, .int .i64 hi] w fun e w' => e = .returned (.bool (inB n lo hi)) ∧ w = w' := by
  go_enter Try.func55, Try.ntmps55
  go_wp2
  all_goals (go_ret; exact ⟨by simp [inB, *] <;> omega, rfl⟩)
theorem isPart_any (a b lo hi : Int) (w : World) :
    Calls Try.prog 64 #[.agg #[.int .i64 a, .int .i64 b], .int .i64 lo, .int .i64 hi] w fun e w' => e = .returned (.bool (partB a b lo hi)) ∧ Below w.heap.size w w' := by
  go_enter Try.func64, Try.ntmps64
  go_wp2
  all_goals (go_ret; exact ⟨by simp [partB, *] <;> omega, by (repeat (first | (with_reducible exact Below.refl _ _) | (with_reducible refine Below.nset ?_ ?_ _) | (with_reducible refine Below.nalloc ?_ _) | (with_reducible refine Below.ndrew ?_) | (with_reducible refine Below.ndrewN ?_ _) | (with_reducible refine Below.next ?_ (by assumption)) | (with_reducible refine Below.next ?_ (OldAs.below (by assumption))) | (focus (first | (simp; done) | (simp; omega)))))⟩)
theorem CheckShape_any (s : Shape) (w : World) :
    Calls Try.prog 27 #[.agg #[.int .i64 s.id, .int .i64 s.wide.lo, .int .i64 s.wide.hi, .int .i64 s.deep.lo, .int .i64 s.deep.hi, .int .i64 s.high.lo, .int .i64 s.high.hi, .int .i64 s.nest, .int .i64 s.weight.lo, .int .i64 s.weight.hi, .int .i64 s.bears]] w fun e w' => e = .returned (.int .i64 (errIf (okShape s) 10)) ∧ Below w.heap.size w w' := by
  go_enter Try.func27, Try.ntmps27
  go_wp2_with (first | (go_at_call 55; refine Calls.mono (isWithin_any _ _ _ _) ?_; rintro e w' ⟨rfl, rfl⟩) | (go_at_call 64; refine Calls.mono (isPart_any _ _ _ _ _) ?_; rintro e w' ⟨rfl, hb⟩; ((first | (with_reducible have HB2 := Below.next HB hb) | (with_reducible have HB2 := Below.next (Below.nalloc HB _) hb) | have HB2 := hb); (try clear hc hf hz hz1 hz2 hn1 hn2); obtain ⟨hc, hf, hz, hz1, hz2, hn1, hn2⟩ := bcell3 HB2; (try clear HB); have HB := HB2; clear HB2; have hbk := hb; clear hb)))
  all_goals (go_ret; exact ⟨by (first | rfl | ((try clear hc hf hz hz1 hz2 hn1 hn2 HB); simp_all [okShape, errIf, partR])), by (repeat (first | (with_reducible exact Below.refl _ _) | (with_reducible refine Below.nset ?_ ?_ _) | (with_reducible refine Below.nalloc ?_ _) | (with_reducible refine Below.ndrew ?_) | (with_reducible refine Below.ndrewN ?_ _) | (with_reducible refine Below.next ?_ (by assumption)) | (with_reducible refine Below.next ?_ (OldAs.below (by assumption))) | (focus (first | (simp; done) | (simp; omega)))))⟩)
theorem CheckBody_any (s : Body) (w : World) :
    Calls Try.prog 45 #[.agg #[.int .i64 s.id, .int .i64 s.shrink.lo, .int .i64 s.shrink.hi, .int .i64 s.loss.lo, .int .i64 s.loss.hi, .int .i64 s.heat.lo, .int .i64 s.heat.hi]] w fun e w' => e = .returned (.int .i64 (errIf (okBody s) 11)) ∧ Below w.heap.size w w' := by
  go_enter Try.func45, Try.ntmps45
  go_wp2_with (first | (go_at_call 55; refine Calls.mono (isWithin_any _ _ _ _) ?_; rintro e w' ⟨rfl, rfl⟩) | (go_at_call 64; refine Calls.mono (isPart_any _ _ _ _ _) ?_; rintro e w' ⟨rfl, hb⟩; ((first | (with_reducible have HB2 := Below.next HB hb) | (with_reducible have HB2 := Below.next (Below.nalloc HB _) hb) | have HB2 := hb); (try clear hc hf hz hz1 hz2 hn1 hn2); obtain ⟨hc, hf, hz, hz1, hz2, hn1, hn2⟩ := bcell3 HB2; (try clear HB); have HB := HB2; clear HB2; have hbk := hb; clear hb)))
  all_goals (go_ret; exact ⟨by (first | rfl | ((try clear hc hf hz hz1 hz2 hn1 hn2 HB); simp_all [okBody, errIf, partR])), by (repeat (first | (with_reducible exact Below.refl _ _) | (with_reducible refine Below.nset ?_ ?_ _) | (with_reducible refine Below.nalloc ?_ _) | (with_reducible refine Below.ndrew ?_) | (with_reducible refine Below.ndrewN ?_ _) | (with_reducible refine Below.next ?_ (by assumption)) | (with_reducible refine Below.next ?_ (OldAs.below (by assumption))) | (focus (first | (simp; done) | (simp; omega)))))⟩)
theorem down_any (n : Int) (w : World) (h0 : 0 ≤ n) (h1 : n ≤ 1000000000000) :
    Calls Try.prog 63 #[.int .i64 n] w fun e w' => e = .returned (.int .i64 (n / 1000)) ∧ w = w' := by
  go_enter Try.func63, Try.ntmps63
  go_wp2
  go_ret
  exact ⟨rfl, rfl⟩
theorem up_any (n : Int) (w : World) (h0 : 0 ≤ n) (h1 : n ≤ 1000000000000) :
    Calls Try.prog 90 #[.int .i64 n] w fun e w' => e = .returned (.int .i64 ((n + 999) / 1000)) ∧ w = w' := by
  go_enter Try.func90, Try.ntmps90
  go_wp2
  go_ret
  exact ⟨rfl, rfl⟩
theorem becomes1_any (n : Int) (b : Nat) (hi : Int) (w : World) (h : w.cell? ⟨b, 1, none⟩ = some (.int .i64 hi)) (h0 : 0 ≤ n) (h1 : n ≤ 100000) (h2 : 0 ≤ hi) (h3 : hi ≤ 1000) :
    Calls Try.prog 88 #[.int .i64 n, .pointer (some ⟨b, 0, none⟩)] w fun e w' => e = .returned (.int .i64 (turnLo n hi)) ∧ w = w' := by
  obtain ⟨m1, m2⟩ := mul_bound h0 h1 h2 h3
  go_enter Try.func88, Try.ntmps88
  go_wp2_with (first | (go_at_call 63; refine Calls.mono (down_any _ _ m1 (by omega)) ?_; rintro e w' ⟨rfl, rfl⟩))
  go_ret
  exact ⟨rfl, rfl⟩
theorem becomes2_any (n : Int) (b : Nat) (lo : Int) (w : World) (h : w.cell? ⟨b, 0, none⟩ = some (.int .i64 lo)) (h0 : 0 ≤ n) (h1 : n ≤ 100000) (h2 : 0 ≤ lo) (h3 : lo ≤ 1000) :
    Calls Try.prog 89 #[.int .i64 n, .pointer (some ⟨b, 0, none⟩)] w fun e w' => e = .returned (.int .i64 (turnHi n lo)) ∧ w = w' := by
  obtain ⟨m1, m2⟩ := mul_bound h0 h1 h2 h3
  go_enter Try.func89, Try.ntmps89
  go_wp2_with (first | (go_at_call 90; refine Calls.mono (up_any _ _ m1 (by omega)) ?_; rintro e w' ⟨rfl, rfl⟩))
  go_ret
  exact ⟨rfl, rfl⟩
theorem turned_any (lo hi x y : Int) (k1 k2 : Nat) (c1 c2 : Array Value) (w : World)
    (e1 : ∀ a w, (callFunc k1 a).run Try.prog w = .ok (.enter k1 a) w) (e2 : ∀ a w, (callFunc k2 a).run Try.prog w = .ok (.enter k2 a) w)
    (h1 : ∀ w1, Below w.heap.size w w1 → Calls Try.prog k1 (#[.int .i64 lo] ++ c1) w1 fun e w2 => e = .returned (.int .i64 x) ∧ Below w1.heap.size w1 w2)
    (h2 : ∀ w1, Below w.heap.size w w1 → Calls Try.prog k2 (#[.int .i64 hi] ++ c2) w1 fun e w2 => e = .returned (.int .i64 y) ∧ Below w1.heap.size w1 w2) :
    Calls Try.prog 52 #[.agg #[.int .i64 lo, .int .i64 hi], .func (.func k1) #[] c1, .func (.func k2) #[] c2] w fun e w' => e = .returned (.agg #[.int .i64 x, .int .i64 y]) ∧ Below w.heap.size w w' := by
  have H1 := hidI h1
  have H2 := hidI h2
  clear h1 h2
  go_enter Try.func52, Try.ntmps52
  go_wp2_with fail
  refine lin_begin 9 (by kernel_rfl) (by kernel_rfl) ?_
  (refine lin_take 0 (v := ?_) (by decide) rfl (by kernel_rfl) (by kernel_rfl) (by kernel_rfl) (fun _ _ _ h => h) (by rfl) (by (intro w hS hcl; first | (go_simp; done) | (go_simp; rfl))) ?_)
  (refine lin_take 1 (v := ?_) (by decide) rfl (by kernel_rfl) (by kernel_rfl) (by kernel_rfl) (fun _ _ _ h => h) (by rfl) (by (intro w hS hcl; first | (go_simp; done) | (go_simp; rfl))) ?_)
  (refine lin_take 2 (v := ?_) (by decide) rfl (by kernel_rfl) (by kernel_rfl) (by kernel_rfl) (fun _ _ _ h => h) (by rfl) (by (intro w hS hcl; first | (go_simp; done) | (go_simp; rfl))) ?_)
  (refine lin_call 3 (by decide) rfl (by kernel_rfl) (by kernel_rfl) (by kernel_rfl) (fun _ _ _ h => h) (by rfl) (by (intro w; first | (go_simp; done) | (go_simp; rfl))) (fun w1 hS _ => H1.out w1 (Below.next (Below.nalloc (Below.nalloc (Below.refl _ _) _) _) hS)) ?_)
  (refine lin_take 4 (v := ?_) (by decide) rfl (by kernel_rfl) (by kernel_rfl) (by kernel_rfl) (fun _ _ _ h => h) (by rfl) (by (intro w hS hcl; first | (go_simp; done) | (go_simp; rfl))) ?_)
  (refine lin_take 5 (v := ?_) (by decide) rfl (by kernel_rfl) (by kernel_rfl) (by kernel_rfl) (fun _ _ _ h => h) (by rfl) (by (intro w hS hcl; first | (go_simp; done) | (go_simp; rfl))) ?_)
  (refine lin_take 6 (v := ?_) (by decide) rfl (by kernel_rfl) (by kernel_rfl) (by kernel_rfl) (fun _ _ _ h => h) (by rfl) (by (intro w hS hcl; first | (go_simp; done) | (go_simp; rfl))) ?_)
  (refine lin_call 7 (by decide) rfl (by kernel_rfl) (by kernel_rfl) (by kernel_rfl) (fun _ _ _ h => h) (by rfl) (by (intro w; first | (go_simp; done) | (go_simp; rfl))) (fun w1 hS _ => H2.out w1 (Below.next (Below.nalloc (Below.nalloc (Below.refl _ _) _) _) hS)) ?_)
  (refine lin_take 8 (v := ?_) (by decide) rfl (by kernel_rfl) (by kernel_rfl) (by kernel_rfl) (fun _ _ _ h => h) (by rfl) (by (intro w hS hcl; first | (go_simp; done) | (go_simp; rfl))) ?_)
  refine lin_last rfl (by kernel_rfl) (by kernel_rfl) (by rfl) (fun w1 hS hcl hfr K hK => ?_)
  go_wp2
  exact (bodyPost_ret (v := .agg #[.int .i64 x, .int .i64 y]) (by simp [results, Try.results52, go_sem, hcl]) rfl) ⟨rfl, by (repeat (first | (with_reducible exact Below.refl _ _) | (with_reducible refine Below.nset ?_ ?_ _) | (with_reducible refine Below.nalloc ?_ _) | (with_reducible refine Below.ndrew ?_) | (with_reducible refine Below.ndrewN ?_ _) | (with_reducible refine Below.next ?_ (by assumption)) | (with_reducible refine Below.next ?_ (OldAs.below (by assumption))) | (focus (first | (simp; done) | (simp; omega)))))⟩
theorem becomes_any (wet by_ : Rng) (w : World) (h0 : 0 ≤ wet.lo) (h1 : wet.lo ≤ wet.hi) (h2 : wet.hi ≤ 100000) (h3 : 0 ≤ by_.lo) (h4 : by_.lo ≤ by_.hi) (h5 : by_.hi ≤ 1000) :
    Calls Try.prog 62 #[.agg #[.int .i64 wet.lo, .int .i64 wet.hi], .agg #[.int .i64 by_.lo, .int .i64 by_.hi]] w fun e w' => e = .returned (.agg #[.int .i64 (turnLo wet.lo by_.hi), .int .i64 (turnHi wet.hi by_.lo)]) ∧ Below w.heap.size w w' := by
  go_enter Try.func62, Try.ntmps62
  go_wp2_with fail
  refine Calls.mono (turned_any _ _ (turnLo wet.lo by_.hi) (turnHi wet.hi by_.lo) _ _ _ _ _ (ent _ Try.func88 (by kernel_rfl) rfl) (ent _ Try.func89 (by kernel_rfl) rfl) ?_ ?_) ?_
  · (intro w1 hB; simp only [List.append_toArray, List.cons_append, List.nil_append]; obtain ⟨hc, hf, hz, hz1, hz2, hn1, hn2⟩ := bcell3 hB; exact calls_eq (becomes1_any _ _ by_.hi _ (by go_simp) h0 (by omega) (by omega) h5))
  · (intro w1 hB; simp only [List.append_toArray, List.cons_append, List.nil_append]; obtain ⟨hc, hf, hz, hz1, hz2, hn1, hn2⟩ := bcell3 hB; exact calls_eq (becomes2_any _ _ by_.lo _ (by go_simp) (by omega) h2 h3 (by omega)))
  rintro e w' ⟨rfl, hb⟩
  ((first | (with_reducible have HB2 := Below.next HB hb) | (with_reducible have HB2 := Below.next (Below.nalloc HB _) hb) | have HB2 := hb); (try clear hc hf hz hz1 hz2 hn1 hn2); obtain ⟨hc, hf, hz, hz1, hz2, hn1, hn2⟩ := bcell3 HB2; (try clear HB); have HB := HB2; clear HB2; have hbk := hb; clear hb)
  go_wp2
  exact (bodyPost_ret (v := .agg #[.int .i64 (turnLo wet.lo by_.hi), .int .i64 (turnHi wet.hi by_.lo)]) (by simp [results, Try.results62, go_sem, hc]) rfl) ⟨rfl, by (repeat (first | (with_reducible exact Below.refl _ _) | (with_reducible refine Below.nset ?_ ?_ _) | (with_reducible refine Below.nalloc ?_ _) | (with_reducible refine Below.ndrew ?_) | (with_reducible refine Below.ndrewN ?_ _) | (with_reducible refine Below.next ?_ (by assumption)) | (with_reducible refine Below.next ?_ (OldAs.below (by assumption))) | (focus (first | (simp; done) | (simp; omega)))))⟩
end Go.Proofs.Ytcgokimagimamaa
