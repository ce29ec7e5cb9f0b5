
/- Layer 1, the law of moulds: it returns true, whatever it is given. -/
import Derived.Test.YtcgokimagimamaaSane
import Derived.Test.YtcgokimagimamaaMadeB
import Derived.Test.YtcgokimagimamaaPlainB
namespace Go.Proofs.Ytcgokimagimamaa
open Go.RowKit
attribute [local go_sem] errIf_true errIf_false
set_option maxHeartbeats 2000000
set_option maxRecDepth 100000
set_option linter.unusedSimpArgs false
set_option linter.unusedVariables false
theorem MadeBody_x {id : Int} {xs : List Int} {b : Body} (hx : madeBody id xs = b) {v : Value} (w : World) (h : Rd 1 (fun x => [.int .i64 x]) w v xs) (hl : xs.length ≤ 140737488355328) :
    Calls Try.prog 23 #[.int .i64 id, v] w fun e w' => e = .returned (.agg #[.int .i64 b.id, .int .i64 b.shrink.lo, .int .i64 b.shrink.hi, .int .i64 b.loss.lo, .int .i64 b.loss.hi, .int .i64 b.heat.lo, .int .i64 b.heat.hi]) ∧ Below w.heap.size w w' := hx ▸ MadeBody_any id xs v w h hl
theorem Mould_x {b : Body} {dry m : Rng} {e : Int} (h : mouldS b dry = (m, e)) (w : World) : Calls Try.prog 28 #[.agg #[.int .i64 b.id, .int .i64 b.shrink.lo, .int .i64 b.shrink.hi, .int .i64 b.loss.lo, .int .i64 b.loss.hi, .int .i64 b.heat.lo, .int .i64 b.heat.hi], .agg #[.int .i64 dry.lo, .int .i64 dry.hi]] w fun r w' => r = .returned (.tuple #[.agg #[.int .i64 m.lo, .int .i64 m.hi], .int .i64 e]) ∧ Below w.heap.size w w' := by
  have := Mould_any b dry w
  rw [h] at this
  exact this
theorem Shrunk_x {b : Body} {wet m : Rng} {e : Int} (h : firedS b wet 2000 b.shrink = (m, e)) (w : World) : Calls Try.prog 25 #[.agg #[.int .i64 b.id, .int .i64 b.shrink.lo, .int .i64 b.shrink.hi, .int .i64 b.loss.lo, .int .i64 b.loss.hi, .int .i64 b.heat.lo, .int .i64 b.heat.hi], .agg #[.int .i64 wet.lo, .int .i64 wet.hi]] w fun r w' => r = .returned (.tuple #[.agg #[.int .i64 m.lo, .int .i64 m.hi], .int .i64 e]) ∧ Below w.heap.size w w' := by
  have := Shrunk_any b wet w
  rw [h] at this
  exact this
theorem fired_one {b : Body} (ho : BodyOk b) {n : Int} (h0 : 0 ≤ n) (h1 : n ≤ 2000) : firedS b ⟨n, n⟩ 2000 b.shrink = (⟨turnLo n b.shrink.hi, turnHi n b.shrink.lo⟩, 0) := by
  have : partR ⟨n, n⟩ 0 2000 = true := partB_iff.2 ⟨h0, Int.le_refl _, h1⟩
  simp [firedS, okBody_iff.2 ho, this, becomesR]
theorem WareMoulds_none (xs : List Int) (v : Value) (d0 d1 n : Int) (w : World) (h : Rd 1 (fun x => [.int .i64 x]) w v xs) (hl : xs.length ≤ 140737488355328)
    (hm : mouldLo (madeBody 1 xs) (spanS d0 d1 0 60 2000) > mouldHi (madeBody 1 xs) (spanS d0 d1 0 60 2000)) :
    Calls Try.prog 6 #[v, .agg #[.int .i64 d0, .int .i64 d1], .int .i64 n] w fun e w' => e = .returned (.bool true) ∧ Below w.heap.size w w' := by
  have ho := madeBody_ok 1 (by omega) (by omega) xs
  obtain ⟨p1, p2, p3⟩ := span_ok (a := d0) (b := d1) (l0 := 0) (l1 := 60) (l2 := 2000) (by omega) (by omega) (by omega)
  have n1 := Int.emod_nonneg n (by omega : (2001 : Int) ≠ 0)
  have n2 := Int.emod_lt_of_pos n (by omega : (0 : Int) < 2001)
  generalize hb : madeBody 1 xs = b at *
  generalize hd : spanS d0 d1 0 60 2000 = dry at *
  generalize hk : n % 2001 = k at *
  have HM := hidI (show mouldS b dry = (zR, 3) by rw [mouldS_eq b dry (okBody_iff.2 ho) (partB_iff.2 ⟨p1, p2, p3⟩), if_pos hm])
  have HF := hidI (fired_one ho n1 (by omega : k ≤ 2000))
  have key := mould_none ho hm (by omega : k ≤ 2000)
  generalize turnLo k b.shrink.hi = x at *
  generalize turnHi k b.shrink.lo = y at *
  have HB := hidI hb; have HD := hidI hd; have HK := hidI hk
  clear hb hd hk hm ho
  go_enter Try.func6, Try.ntmps6
  go_wp2_with fail
  (refine Calls.mono (MadeBody_x HB.out _ (h.alloc _) hl) ?_; rintro e w1 ⟨rfl, hb⟩; have hd := (bcell3 hb).1; have hg := (bcell3 hb).2.1; have : w.heap.size < w1.heap.size := (by (have hq := hb.size; (try simp only [World.size_alloc, World.size_setCell] at hq); omega)); have hbk := hb; clear hb; go_wp2_with fail)
  (refine Calls.mono (Span_x HD.out _ (by omega) (by omega) (by omega) (by omega) (by omega)) ?_; rintro e w2 ⟨rfl, hb⟩; have hd := (bcell3 hb).1; have hg := (bcell3 hb).2.1; have : w.heap.size < w2.heap.size := (by (have hq := hb.size; (try simp only [World.size_alloc, World.size_setCell] at hq); omega)); have : w1.heap.size < w2.heap.size := (by (have hq := hb.size; (try simp only [World.size_alloc, World.size_setCell] at hq); omega)); have hbk := hb; clear hb; go_wp2_with fail)
  (refine Calls.mono (Mould_x HM.out _) ?_; rintro e w3 ⟨rfl, hb⟩; have hd := (bcell3 hb).1; have hg := (bcell3 hb).2.1; have : w.heap.size < w3.heap.size := (by (have hq := hb.size; (try simp only [World.size_alloc, World.size_setCell] at hq); omega)); have : w1.heap.size < w3.heap.size := (by (have hq := hb.size; (try simp only [World.size_alloc, World.size_setCell] at hq); omega)); have : w2.heap.size < w3.heap.size := (by (have hq := hb.size; (try simp only [World.size_alloc, World.size_setCell] at hq); omega)); have hbk := hb; clear hb; go_wp2_with fail)
  (refine Calls.mono (Mod_x HK.out _ (by omega) (by omega)) ?_; rintro e w' ⟨rfl, rfl⟩; go_wp2_with fail)
  (refine Calls.mono (Shrunk_x HF.out _) ?_; rintro e w4 ⟨rfl, hb⟩; have hd := (bcell3 hb).1; have hg := (bcell3 hb).2.1; have : w.heap.size < w4.heap.size := (by (have hq := hb.size; (try simp only [World.size_alloc, World.size_setCell] at hq); omega)); have : w1.heap.size < w4.heap.size := (by (have hq := hb.size; (try simp only [World.size_alloc, World.size_setCell] at hq); omega)); have : w2.heap.size < w4.heap.size := (by (have hq := hb.size; (try simp only [World.size_alloc, World.size_setCell] at hq); omega)); have : w3.heap.size < w4.heap.size := (by (have hq := hb.size; (try simp only [World.size_alloc, World.size_setCell] at hq); omega)); have hbk := hb; clear hb; go_wp2_with fail)
  all_goals
    (refine Calls.mono (sane_any _) ?_; rintro e w5 ⟨rfl, hb⟩; go_wp2_with fail; go_ret; exact ⟨congrArg (fun q => Ending.returned (.bool q)) (by first | rfl | (simp only [Bool.or_eq_true, decide_eq_true_eq]; omega)), by (repeat (first | (with_reducible exact Below.refl _ _) | (with_reducible refine Below.nset ?_ ?_ _) | (with_reducible refine Below.nalloc ?_ _) | (with_reducible refine Below.ndrew ?_) | (with_reducible refine Below.ndrewN ?_ _) | (with_reducible refine Below.next ?_ (by assumption)) | (with_reducible refine Below.next ?_ (OldAs.below (by assumption))) | (focus (first | (simp; done) | (simp; omega)))))⟩)
theorem WareMoulds_some (xs : List Int) (v : Value) (d0 d1 n : Int) (w : World) (h : Rd 1 (fun x => [.int .i64 x]) w v xs) (hl : xs.length ≤ 140737488355328)
    (hm : ¬ mouldLo (madeBody 1 xs) (spanS d0 d1 0 60 2000) > mouldHi (madeBody 1 xs) (spanS d0 d1 0 60 2000)) :
    Calls Try.prog 6 #[v, .agg #[.int .i64 d0, .int .i64 d1], .int .i64 n] w fun e w' => e = .returned (.bool true) ∧ Below w.heap.size w w' := by
  have ho := madeBody_ok 1 (by omega) (by omega) xs
  obtain ⟨p1, p2, p3⟩ := span_ok (a := d0) (b := d1) (l0 := 0) (l1 := 60) (l2 := 2000) (by omega) (by omega) (by omega)
  generalize hb : madeBody 1 xs = b at *
  generalize hd : spanS d0 d1 0 60 2000 = dry at *
  have HM := hidI (show mouldS b dry = (⟨mouldLo b dry, mouldHi b dry⟩, 0) by rw [mouldS_eq b dry (okBody_iff.2 ho) (partB_iff.2 ⟨p1, p2, p3⟩), if_neg hm])
  have m1 := mould_nonneg ho p1
  have m2 := mould_most (b := b) (dry := dry)
  have m3 := mould_below (dry := dry) ho
  have m4 := mould_above (dry := dry) ho
  have n1 := Int.emod_nonneg n (by omega : mouldHi b dry - mouldLo b dry + 1 ≠ 0)
  have n2 := Int.emod_lt_of_pos n (by omega : 0 < mouldHi b dry - mouldLo b dry + 1)
  have key := mould_in (dry := dry) ho (n := mouldLo b dry + n % (mouldHi b dry - mouldLo b dry + 1)) (by omega) (by omega)
  have HF := hidI (fired_one ho (n := mouldLo b dry + n % (mouldHi b dry - mouldLo b dry + 1)) (by omega) (by omega))
  have s1 := ho.s1
  have s2 := ho.s2
  have s3 := ho.s3
  generalize mouldLo b dry = lo at *
  generalize mouldHi b dry = hi at *
  have q1 := mul_bound (n := hi + 1) (h := b.shrink.lo) (N := 2001) (by omega) (by omega) s1 (by omega)
  have q2 : lo > 0 → 0 ≤ (lo - 1) * (1000 - b.shrink.hi) := fun hl0 => Int.mul_nonneg (by omega) (by omega)
  have q3 : lo = 0 → (lo - 1) * (1000 - b.shrink.hi) = -(1000 - b.shrink.hi) := fun hl0 => by subst hl0; omega
  generalize hk : n % (hi - lo + 1) = k at *
  generalize hP1 : (lo - 1) * (1000 - b.shrink.hi) = P1 at *
  generalize hP2 : (hi + 1) * (1000 - b.shrink.lo) = P2 at *
  generalize turnLo (lo + k) b.shrink.hi = x at *
  generalize turnHi (lo + k) b.shrink.lo = y at *
  have W1 : IntKind.i64.wrap (hi - lo) = hi - lo := wrapI (by omega) (by omega)
  have W2 : IntKind.i64.wrap (hi - lo + 1) = hi - lo + 1 := wrapI (by omega) (by omega)
  have W3 : IntKind.i64.wrap (lo + k) = lo + k := wrapI (by omega) (by omega)
  have HB := hidI hb; have HD := hidI hd; have HK := hidI hk
  clear hb hd hk ho
  go_enter Try.func6, Try.ntmps6
  go_wp2_with fail
  (refine Calls.mono (MadeBody_x HB.out _ (h.alloc _) hl) ?_; rintro e w1 ⟨rfl, hb⟩; have hd := (bcell3 hb).1; have hg := (bcell3 hb).2.1; have : w.heap.size < w1.heap.size := (by (have hq := hb.size; (try simp only [World.size_alloc, World.size_setCell] at hq); omega)); have hbk := hb; clear hb; go_wp2_with fail)
  (refine Calls.mono (Span_x HD.out _ (by omega) (by omega) (by omega) (by omega) (by omega)) ?_; rintro e w2 ⟨rfl, hb⟩; have hd := (bcell3 hb).1; have hg := (bcell3 hb).2.1; have : w.heap.size < w2.heap.size := (by (have hq := hb.size; (try simp only [World.size_alloc, World.size_setCell] at hq); omega)); have : w1.heap.size < w2.heap.size := (by (have hq := hb.size; (try simp only [World.size_alloc, World.size_setCell] at hq); omega)); have hbk := hb; clear hb; go_wp2_with fail)
  (refine Calls.mono (Mould_x HM.out _) ?_; rintro e w3 ⟨rfl, hb⟩; have hd := (bcell3 hb).1; have hg := (bcell3 hb).2.1; have : w.heap.size < w3.heap.size := (by (have hq := hb.size; (try simp only [World.size_alloc, World.size_setCell] at hq); omega)); have : w1.heap.size < w3.heap.size := (by (have hq := hb.size; (try simp only [World.size_alloc, World.size_setCell] at hq); omega)); have : w2.heap.size < w3.heap.size := (by (have hq := hb.size; (try simp only [World.size_alloc, World.size_setCell] at hq); omega)); have hbk := hb; clear hb; go_wp2_with fail)
  refine wp_gen (fun W => (Below w.heap.size w W ∧ w.heap.size < W.heap.size ∧ w1.heap.size < W.heap.size ∧ w2.heap.size < W.heap.size ∧ w3.heap.size < W.heap.size) ∧ (W.cell? ⟨w1.heap.size, 0, none⟩ = some (.int .i64 (b.id)) ∧ W.cell? ⟨w1.heap.size, 1, none⟩ = some (.int .i64 (b.shrink.lo)) ∧ W.cell? ⟨w1.heap.size, 2, none⟩ = some (.int .i64 (b.shrink.hi)) ∧ W.cell? ⟨w1.heap.size, 3, none⟩ = some (.int .i64 (b.loss.lo)) ∧ W.cell? ⟨w1.heap.size, 4, none⟩ = some (.int .i64 (b.loss.hi)) ∧ W.cell? ⟨w1.heap.size, 5, none⟩ = some (.int .i64 (b.heat.lo)) ∧ W.cell? ⟨w1.heap.size, 6, none⟩ = some (.int .i64 (b.heat.hi))) ∧ (W.cell? ⟨w2.heap.size, 0, none⟩ = some (.int .i64 (dry.lo)) ∧ W.cell? ⟨w2.heap.size, 1, none⟩ = some (.int .i64 (dry.hi))) ∧ (W.cell? ⟨w3.heap.size, 0, none⟩ = some (.int .i64 (lo)) ∧ W.cell? ⟨w3.heap.size, 1, none⟩ = some (.int .i64 (hi))))
    ⟨⟨by (repeat (first | (with_reducible exact Below.refl _ _) | (with_reducible refine Below.nset ?_ ?_ _) | (with_reducible refine Below.nalloc ?_ _) | (with_reducible refine Below.ndrew ?_) | (with_reducible refine Below.ndrewN ?_ _) | (with_reducible refine Below.next ?_ (by assumption)) | (with_reducible refine Below.next ?_ (OldAs.below (by assumption))) | (focus (first | (simp; done) | (simp; omega))))), by (simp only [World.size_alloc, World.size_setCell]; omega), by (simp only [World.size_alloc, World.size_setCell]; omega), by (simp only [World.size_alloc, World.size_setCell]; omega), by (simp only [World.size_alloc, World.size_setCell]; omega)⟩, by (refine ⟨?_, ?_, ?_, ?_, ?_, ?_, ?_⟩ <;> (go_simp; done)), by (refine ⟨?_, ?_⟩ <;> (go_simp; done)), by (refine ⟨?_, ?_⟩ <;> (go_simp; done))⟩ ?_
  rintro W ⟨⟨HBW, z0, z1, z2, z3⟩, ⟨c0, c1, c2, c3, c4, c5, c6⟩, ⟨e0, e1⟩, ⟨f0, f1⟩⟩
  go_wp2_with fail
  refine lin_begin 11 (by kernel_rfl) (by kernel_rfl) ?_
  (refine lin_take 0 (v := ?_) (by decide) rfl (by kernel_rfl) (by kernel_rfl) (by kernel_rfl) (fun _ _ _ h => h) (by rfl) (by (intro w hS hcl; first | (go_simp; done) | (go_simp; rfl))) ?_)
  (refine lin_take 1 (v := ?_) (by decide) rfl (by kernel_rfl) (by kernel_rfl) (by kernel_rfl) (fun _ _ _ h => h) (by rfl) (by (intro w hS hcl; first | (go_simp; done) | (go_simp; rfl))) ?_)
  (refine lin_take 2 (v := ?_) (by decide) rfl (by kernel_rfl) (by kernel_rfl) (by kernel_rfl) (fun _ _ _ h => h) (by rfl) (by (intro w hS hcl; first | (go_simp; done) | (go_simp; rfl))) ?_)
  (refine lin_take 3 (v := ?_) (by decide) rfl (by kernel_rfl) (by kernel_rfl) (by kernel_rfl) (fun _ _ _ h => h) (by rfl) (by (intro w hS hcl; first | (go_simp; done) | (go_simp; rfl))) ?_)
  (refine lin_take 4 (v := ?_) (by decide) rfl (by kernel_rfl) (by kernel_rfl) (by kernel_rfl) (fun _ _ _ h => h) (by rfl) (by (intro w hS hcl; first | (go_simp; done) | (go_simp; rfl))) ?_)
  (refine lin_take 5 (v := ?_) (by decide) rfl (by kernel_rfl) (by kernel_rfl) (by kernel_rfl) (fun _ _ _ h => h) (by rfl) (by (intro w hS hcl; first | (go_simp; done) | (go_simp; rfl))) ?_)
  (refine lin_take 6 (v := ?_) (by decide) rfl (by kernel_rfl) (by kernel_rfl) (by kernel_rfl) (fun _ _ _ h => h) (by rfl) (by (intro w hS hcl; first | (go_simp; done) | (go_simp; rfl))) ?_)
  (refine lin_take 7 (v := ?_) (by decide) rfl (by kernel_rfl) (by kernel_rfl) (by kernel_rfl) (fun _ _ _ h => h) (by rfl) (by (intro w hS hcl; first | (go_simp; done) | (go_simp; rfl))) ?_)
  (refine lin_take 8 (v := ?_) (by decide) rfl (by kernel_rfl) (by kernel_rfl) (by kernel_rfl) (fun _ _ _ h => h) (by rfl) (by (intro w hS hcl; first | (go_simp; done) | (go_simp; rfl))) ?_)
  (refine lin_call 9 (by decide) rfl (by kernel_rfl) (by kernel_rfl) (by kernel_rfl) (fun _ _ _ h => h) (by rfl) (by (intro w; first | (go_simp; done) | (go_simp; rfl))) (fun w1 hS _ => calls_eq (Mod_x HK.out _ (by omega) (by omega))) ?_)
  (refine lin_take 10 (v := ?_) (by decide) rfl (by kernel_rfl) (by kernel_rfl) (by kernel_rfl) (fun _ _ _ h => h) (by rfl) (by (intro w hS hcl; first | (go_simp; done) | (go_simp; rfl))) ?_)
  refine lin_final rfl (by kernel_rfl) (by kernel_rfl) (by rfl) (fun wl hS hcl hfr => ?_)
  have HBl : Below w.heap.size w wl := Below.next HBW hS.below
  have hsz := hS.below.size
  have D : (wl.cell? ⟨w1.heap.size, 0, none⟩ = some (.int .i64 (b.id)) ∧ wl.cell? ⟨w1.heap.size, 1, none⟩ = some (.int .i64 (b.shrink.lo)) ∧ wl.cell? ⟨w1.heap.size, 2, none⟩ = some (.int .i64 (b.shrink.hi)) ∧ wl.cell? ⟨w1.heap.size, 3, none⟩ = some (.int .i64 (b.loss.lo)) ∧ wl.cell? ⟨w1.heap.size, 4, none⟩ = some (.int .i64 (b.loss.hi)) ∧ wl.cell? ⟨w1.heap.size, 5, none⟩ = some (.int .i64 (b.heat.lo)) ∧ wl.cell? ⟨w1.heap.size, 6, none⟩ = some (.int .i64 (b.heat.hi))) ∧ (wl.cell? ⟨w2.heap.size, 0, none⟩ = some (.int .i64 (dry.lo)) ∧ wl.cell? ⟨w2.heap.size, 1, none⟩ = some (.int .i64 (dry.hi))) ∧ (wl.cell? ⟨w3.heap.size, 0, none⟩ = some (.int .i64 (lo)) ∧ wl.cell? ⟨w3.heap.size, 1, none⟩ = some (.int .i64 (hi))) := ⟨⟨(hcl _ z1).trans c0, (hcl _ z1).trans c1, (hcl _ z1).trans c2, (hcl _ z1).trans c3, (hcl _ z1).trans c4, (hcl _ z1).trans c5, (hcl _ z1).trans c6⟩, ⟨(hcl _ z2).trans e0, (hcl _ z2).trans e1⟩, ⟨(hcl _ z3).trans f0, (hcl _ z3).trans f1⟩⟩
  clear hcl hfr c0 c1 c2 c3 c4 c5 c6 e0 e1 f0 f1
  obtain ⟨⟨c0, c1, c2, c3, c4, c5, c6⟩, ⟨e0, e1⟩, ⟨f0, f1⟩⟩ := D
  have y1 : w1.heap.size < wl.heap.size := by omega
  have y2 : w2.heap.size < wl.heap.size := by omega
  have y3 : w3.heap.size < wl.heap.size := by omega
  clear hsz z0 z1 z2 z3 HBW
  go_wp2_with fail
  (refine Calls.mono (Shrunk_x HF.out _) ?_; rintro e w4 ⟨rfl, hb⟩; have hd := (bcell3 hb).1; have hg := (bcell3 hb).2.1; have : w1.heap.size < w4.heap.size := (by (have hq := hb.size; (try simp only [World.size_alloc, World.size_setCell] at hq); omega)); have : w2.heap.size < w4.heap.size := (by (have hq := hb.size; (try simp only [World.size_alloc, World.size_setCell] at hq); omega)); have : w3.heap.size < w4.heap.size := (by (have hq := hb.size; (try simp only [World.size_alloc, World.size_setCell] at hq); omega)); have hbk := hb; clear hb; go_wp2_with fail)
  all_goals
    (refine Calls.mono (sane_any _) ?_; rintro e w5 ⟨rfl, hb⟩; go_wp2_with fail; go_ret; exact ⟨rfl, by (repeat (first | (with_reducible exact Below.refl _ _) | (with_reducible refine Below.nset ?_ ?_ _) | (with_reducible refine Below.nalloc ?_ _) | (with_reducible refine Below.ndrew ?_) | (with_reducible refine Below.ndrewN ?_ _) | (with_reducible refine Below.next ?_ (by assumption)) | (with_reducible refine Below.next ?_ (OldAs.below (by assumption))) | (focus (first | (simp; done) | (simp; omega)))))⟩)
theorem WareMoulds_any (xs : List Int) (v : Value) (d0 d1 n : Int) (w : World) (h : Rd 1 (fun x => [.int .i64 x]) w v xs) (hl : xs.length ≤ 140737488355328) :
    Calls Try.prog 6 #[v, .agg #[.int .i64 d0, .int .i64 d1], .int .i64 n] w fun e w' => e = .returned (.bool true) ∧ Below w.heap.size w w' := by
  by_cases hm : mouldLo (madeBody 1 xs) (spanS d0 d1 0 60 2000) > mouldHi (madeBody 1 xs) (spanS d0 d1 0 60 2000)
  · exact WareMoulds_none xs v d0 d1 n w h hl hm
  · exact WareMoulds_some xs v d0 d1 n w h hl hm
end Go.Proofs.Ytcgokimagimamaa
