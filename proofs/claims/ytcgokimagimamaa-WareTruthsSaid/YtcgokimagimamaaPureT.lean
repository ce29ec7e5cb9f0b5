
/- Layer 1, the law of truths in plain Lean. -/
import Derived.Test.YtcgokimagimamaaPureA
import Derived.Test.YtcgokimagimamaaF5
namespace Go.Proofs.Ytcgokimagimamaa.F
open Go.RowKit Go.Proofs.YtcgokimagimamaaW.PrintWords
set_option linter.unusedVariables false
set_option linter.unusedSimpArgs false
set_option maxRecDepth 100000
theorem turn_order {n m a b : Int} (h0 : 0 ≤ n) (h1 : n ≤ m) (h2 : a ≤ b) (h3 : 0 ≤ a) (h4 : b ≤ 1000) : turnLo n b ≤ turnHi m a := by
  unfold turnLo turnHi
  have q : n * (1000 - b) ≤ m * (1000 - a) := Int.mul_le_mul h1 (by omega) (by omega) (by omega)
  omega
theorem turnLo_bound {n N b : Int} (h0 : 0 ≤ n) (h1 : n ≤ N) (h3 : 0 ≤ b) (h4 : b ≤ 1000) : 0 ≤ turnLo n b ∧ turnLo n b ≤ N := by
  obtain ⟨m1, m2⟩ := mul_bound h0 h1 h3 h4
  unfold turnLo; omega
theorem turnHi_bound {n N a : Int} (h0 : 0 ≤ n) (h1 : n ≤ N) (h3 : 0 ≤ a) (h4 : a ≤ 1000) : 0 ≤ turnHi n a ∧ turnHi n a ≤ N := by
  obtain ⟨m1, m2⟩ := mul_bound h0 h1 h3 h4
  unfold turnHi; omega
theorem turnLo_mono {n m b : Int} (h1 : n ≤ m) (h4 : b ≤ 1000) : turnLo n b ≤ turnLo m b := by
  unfold turnLo
  have q : n * (1000 - b) ≤ m * (1000 - b) := Int.mul_le_mul_of_nonneg_right h1 (by omega)
  omega
theorem firedShape_ok {s : Shape} {b : Body} (o : ShapeOk s) (ho : BodyOk b) : ShapeOk (firedShape s b) := by
  obtain ⟨id1, id2, w1, w2, w3, d1, d2, d3, h1, h2, h3, n1, n2, g1, g2, g3, b1, b2⟩ := o
  obtain ⟨i1, i2, s1, s2, s3, l1, l2, l3, t1, t2, t3⟩ := ho
  exact ⟨id1, id2, (turnLo_bound w1 (Int.le_refl _) (by omega) (by omega)).1, turn_order w1 w2 s2 s1 (by omega), (turnHi_bound (by omega) w3 s1 (by omega)).2,
    (turnLo_bound d1 (Int.le_refl _) (by omega) (by omega)).1, turn_order d1 d2 s2 s1 (by omega), (turnHi_bound (by omega) d3 s1 (by omega)).2,
    (turnLo_bound h1 (Int.le_refl _) (by omega) (by omega)).1, turn_order h1 h2 s2 s1 (by omega), (turnHi_bound (by omega) h3 s1 (by omega)).2,
    (turnLo_bound n1 (Int.le_refl _) (by omega) (by omega)).1, turnLo_mono n2 (by omega),
    (turnLo_bound g1 (Int.le_refl _) (by omega) (by omega)).1, turn_order g1 g2 l2 l1 (by omega), (turnHi_bound (by omega) g3 l1 (by omega)).2, b1, b2⟩
theorem truths_f (l : List Int) (a b n m : Int) (hl : l.length ≤ 140737488355328) : potbanklaw01_WareTruths.f l a b n m = some true := by
  have ho := madeBody_ok 1 (by omega) (by omega) l
  have so := madeShape_ok 1 (by omega) (by omega) l
  obtain ⟨p1, p2, p3⟩ := span_ok (a := a) (b := b) (l0 := 0) (l1 := 40) (l2 := 2000) (by omega) (by omega) (by omega)
  unfold potbanklaw01_WareTruths.f
  rw [body_f hl]; simp only [Option.bind_some]
  rw [shape_f hl]; simp only [Option.bind_some]
  rw [span_f (by omega) (by omega) (by omega) (by omega) (by omega)]; simp only [Option.bind_some, outB, tupS]
  generalize madeBody 1 l = bd at *
  generalize madeShape 1 l = s at *
  generalize spanS a b 0 40 2000 = r at *
  have fo := firedShape_ok so ho
  obtain ⟨i1, i2, s1, s2, s3, l1, l2, l3, t1, t2, t3⟩ := ho
  have e1 := Int.emod_nonneg n (by omega : r.hi - r.lo + 1 ≠ 0)
  have e2 := Int.emod_lt_of_pos n (by omega : 0 < r.hi - r.lo + 1)
  have e3 := Int.emod_nonneg m (by omega : bd.shrink.hi - bd.shrink.lo + 1 ≠ 0)
  have e4 := Int.emod_lt_of_pos m (by omega : 0 < bd.shrink.hi - bd.shrink.lo + 1)
  rw [wrap_id (x := r.hi - r.lo) (by omega) (by omega), wrap_id (x := r.hi - r.lo + 1) (by omega) (by omega), mod_f (by omega) (by omega)]; simp only [Option.bind_some]
  rw [wrap_id (x := bd.shrink.hi - bd.shrink.lo) (by omega) (by omega), wrap_id (x := bd.shrink.hi - bd.shrink.lo + 1) (by omega) (by omega), mod_f (by omega) (by omega)]; simp only [Option.bind_some]
  have hb : okBody bd = true := okBody_iff.2 ⟨i1, i2, s1, s2, s3, l1, l2, l3, t1, t2, t3⟩
  have hf : firedS bd r 2000 bd.shrink = (becomesR r bd.shrink, 0) := by
    unfold firedS; rw [if_pos hb, if_pos (show partR r 0 2000 = true from partB_iff.2 ⟨p1, p2, p3⟩)]
  have hh : firedS bd s.high 2000 bd.shrink = (becomesR s.high bd.shrink, 0) := by
    unfold firedS; rw [if_pos hb, if_pos (show partR s.high 0 2000 = true from partB_iff.2 ⟨so.h1, so.h2, so.h3⟩)]
  have hs : firedSS s bd = (firedShape s bd, 0) := by
    unfold firedSS; rw [if_pos (okShape_iff.2 so), if_pos hb]
  rw [shrunk_f, fired_f, hf, hs]; simp only [Option.bind_some, outR, outS, if_true]
  have f1 : (firedShape s bd).id = s.id := rfl
  have f2 : (firedShape s bd).bears = s.bears := rfl
  have f3 : (firedShape s bd).high = becomesR s.high bd.shrink := rfl
  generalize firedShape s bd = f at *
  rw [checkShape_f, okShape_iff.2 fo]; simp only [errIf_true, Option.bind_some, if_true]
  rw [if_pos f1, if_pos f2]
  generalize n % (r.hi - r.lo + 1) = u at *
  generalize m % (bd.shrink.hi - bd.shrink.lo + 1) = v at *
  have k1 : r.lo * (1000 - bd.shrink.hi) ≤ (r.lo + u) * (1000 - (bd.shrink.lo + v)) := Int.mul_le_mul (by omega) (by omega) (by omega) (by omega)
  have k2 : (r.lo + u) * (1000 - (bd.shrink.lo + v)) ≤ r.hi * (1000 - bd.shrink.lo) := Int.mul_le_mul (by omega) (by omega) (by omega) (by omega)
  obtain ⟨m1, m2⟩ := mul_bound (n := r.lo) (N := 2000) p1 (by omega) (by omega : 0 ≤ bd.shrink.hi) (by omega)
  obtain ⟨m3, m4⟩ := mul_bound (n := r.hi) (N := 2000) (by omega) (by omega) s1 (by omega)
  have q1 : 1000 * turnLo r.lo bd.shrink.hi ≤ r.lo * (1000 - bd.shrink.hi) ∧ r.lo * (1000 - bd.shrink.hi) < 1000 * (turnLo r.lo bd.shrink.hi + 1) := by unfold turnLo; omega
  have q2 : r.hi * (1000 - bd.shrink.lo) ≤ 1000 * turnHi r.hi bd.shrink.lo ∧ 1000 * (turnHi r.hi bd.shrink.lo - 1) < r.hi * (1000 - bd.shrink.lo) := by unfold turnHi; omega
  simp only [becomesR]
  simp only [wrap_id (x := r.lo + u) (by omega) (by omega), wrap_id (x := bd.shrink.lo + v) (by omega) (by omega), wrap_id (x := 1000 - (bd.shrink.lo + v)) (by omega) (by omega), wrap_id (x := 1000 - bd.shrink.hi) (by omega) (by omega), wrap_id (x := 1000 - bd.shrink.lo) (by omega) (by omega)]
  generalize (r.lo + u) * (1000 - (bd.shrink.lo + v)) = w1 at *
  generalize r.lo * (1000 - bd.shrink.hi) = w2 at *
  generalize r.hi * (1000 - bd.shrink.lo) = w3 at *
  simp only [wrap_id (x := w1) (by omega) (by omega), wrap_id (x := w2) (by omega) (by omega), wrap_id (x := w3) (by omega) (by omega), wrap_id (x := turnLo r.lo bd.shrink.hi + 1) (by omega) (by omega), wrap_id (x := turnHi r.hi bd.shrink.lo - 1) (by omega) (by omega), wrap_id (x := 1000 * turnLo r.lo bd.shrink.hi) (by omega) (by omega), wrap_id (x := 1000 * turnHi r.hi bd.shrink.lo) (by omega) (by omega), wrap_id (x := 1000 * (turnLo r.lo bd.shrink.hi + 1)) (by omega) (by omega), wrap_id (x := 1000 * (turnHi r.hi bd.shrink.lo - 1)) (by omega) (by omega)]
  rw [if_neg (by omega), if_neg (by omega)]
  have hr := shrunk_f (b := bd) (r := s.high)
  rw [hr, hh]; simp only [Option.bind_some, outR, becomesR, if_true]
  rw [if_pos (by omega), if_pos (by omega), f3]
  simp [becomesR, sane_f]
end Go.Proofs.Ytcgokimagimamaa.F
