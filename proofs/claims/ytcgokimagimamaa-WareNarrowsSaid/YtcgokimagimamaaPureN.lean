
/- Layer 1, the law of narrowing in plain Lean. -/
import Derived.Test.YtcgokimagimamaaPureA
import Derived.Test.YtcgokimagimamaaGA
import Derived.Test.YtcgokimagimamaaGH
import Derived.Test.YtcgokimagimamaaF8
import Derived.Test.YtcgokimagimamaaF36
import Derived.Test.YtcgokimagimamaaF37
import Derived.Test.YtcgokimagimamaaF67
import Derived.Test.YtcgokimagimamaaGJ
namespace Go.Proofs.Ytcgokimagimamaa.F
open Go.RowKit Go.Proofs.YtcgokimagimamaaW.PrintWords
set_option linter.unusedVariables false
set_option linter.unusedSimpArgs false
set_option maxRecDepth 100000
theorem down_f {n d : Int} (hd : 0 < d) (h0 : -100000000000000000 ≤ n) (h1 : n ≤ 100000000000000000) : potbankref01_Down.f n d = some (n / d) := by
  unfold potbankref01_Down.f
  rw [if_neg (by omega)]
  have h := tdiv_down (n := n) hd
  obtain ⟨b1, b2⟩ := tdiv_bound (n := n) (N := 100000000000000000) hd h0 h1 (by omega)
  by_cases hm : n.tmod d < 0
  · rw [if_pos hm] at h ⊢
    rw [wrap_id (x := n.tdiv d) (by omega) (by omega), wrap_id (by omega) (by omega), h]
  · rw [if_neg hm] at h ⊢
    rw [wrap_id (by omega) (by omega), h]
theorem ediv_bound {n d N : Int} (hd : 0 < d) (h0 : -N ≤ n) (h1 : n ≤ N) (hN : 0 ≤ N) : -N ≤ n / d ∧ n / d ≤ N := by
  constructor
  · rw [Int.le_ediv_iff_mul_le hd]
    have : N * 1 ≤ N * d := Int.mul_le_mul_of_nonneg_left (by omega) hN
    rw [Int.neg_mul]; omega
  · have := Int.ediv_le_ediv hd h1
    have := Int.ediv_le_self (a := N) d hN
    omega
theorem up_f {n d : Int} (hd : 0 < d) (h0 : -100000000000000000 ≤ n) (h1 : n ≤ 100000000000000000) : potbankref01_Up.f n d = some (upDiv n d) := by
  unfold potbankref01_Up.f
  obtain ⟨b1, b2⟩ := ediv_bound (n := -n) (N := 100000000000000000) hd (by omega) (by omega) (by omega)
  rw [wrap_id (by omega) (by omega), down_f hd (by omega) (by omega)]; simp only [Option.bind_some]
  rw [wrap_id (by omega) (by omega)]; rfl
theorem within_f {n lo hi : Int} (h0 : lo ≤ n) (h1 : n ≤ hi) : ware_isWithin.f n lo hi = some true := by unfold ware_isWithin.f; rw [if_pos h0]; simp [h1]
theorem asked_f {b : Body} {l : List S57} (ho : BodyOk b) (hl : l.length ≤ 30) (ht : (l.map trialOf).all okTrial = true) :
    ware_asked.f b.id b.shrink.lo b.shrink.hi b.loss.lo b.loss.hi b.heat.lo b.heat.hi l = some 0 := by
  unfold ware_asked.f
  have h1 : ware_CheckBody.f b.id b.shrink.lo b.shrink.hi b.loss.lo b.loss.hi b.heat.lo b.heat.hi = some 0 := by
    show some (errIf (okBody b) 11) = some 0
    rw [okBody_iff.2 ho]; rfl
  have h2 : ware_CheckTrials.f l = some 0 := by
    unfold ware_CheckTrials.f checkTrials
    rw [if_pos (by omega), if_neg (by simp; omega), if_neg]
    intro h
    obtain ⟨t, h3, h4⟩ := List.any_eq_true.1 h
    have := List.all_eq_true.1 ht t h3
    rw [this] at h4; simp at h4
  rw [h1]; simp only [Option.bind_some, if_true]
  rw [h2]; rfl
theorem narrow_f {b : Body} {l : List S57} {a c : Int} (ho : BodyOk b) (hl : l.length ≤ 30) (ht : (l.map trialOf).all okTrial = true) (hL : leftS b.shrink (l.map trialOf) = (⟨a, c⟩, true)) :
    ware_Narrow.f b.id b.shrink.lo b.shrink.hi b.loss.lo b.loss.hi b.heat.lo b.heat.hi l = some (b.id, a, c, b.loss.lo, b.loss.hi, b.heat.lo, b.heat.hi, 0) := by
  have hleft : ware_left.f b.shrink.lo b.shrink.hi l = some (a, c, true) := by
    unfold ware_left.f
    have := ho.s1; have := ho.s2; have := ho.s3
    rw [if_pos ⟨by omega, by omega, by omega, ht, by omega⟩, show (⟨b.shrink.lo, b.shrink.hi⟩ : Rng) = b.shrink from rfl, hL]
  unfold ware_Narrow.f
  rw [asked_f ho hl ht]; simp only [Option.bind_some, if_true]
  rw [hleft]; rfl
theorem bar_f {b : Body} {src wet : Int} (ho : BodyOk b) (h1 : 1 ≤ wet) (h2 : wet ≤ 2000) (h3 : 1 ≤ src) (h4 : src ≤ 99999) :
    ware_Bar.f b.id b.shrink.lo b.shrink.hi b.loss.lo b.loss.hi b.heat.lo b.heat.hi src wet = some (src, wet, wet, turnLo wet b.shrink.hi, turnHi wet b.shrink.lo, 0) ∧ okTrial ⟨src, ⟨wet, wet⟩, ⟨turnLo wet b.shrink.hi, turnHi wet b.shrink.lo⟩⟩ = true := by
  have hc : ware_CheckBody.f b.id b.shrink.lo b.shrink.hi b.loss.lo b.loss.hi b.heat.lo b.heat.hi = some 0 := by
    show some (errIf (okBody b) 11) = some 0
    rw [okBody_iff.2 ho]; rfl
  have q1 := ho.s1
  have q2 := ho.s2
  have q3 := ho.s3
  have hbe : ware_becomes.f wet wet b.shrink.lo b.shrink.hi = some (turnLo wet b.shrink.hi, turnHi wet b.shrink.lo) := by
    unfold ware_becomes.f; rw [if_pos ⟨by omega, by omega, by omega, by omega, by omega, by omega⟩]
  have hok : okTrial ⟨src, ⟨wet, wet⟩, ⟨turnLo wet b.shrink.hi, turnHi wet b.shrink.lo⟩⟩ = true :=
    okTrial_iff.2 ⟨h3, h4, h1, Int.le_refl _, h2, (turnLo_bound (by omega) (Int.le_refl _) (by omega) (by omega)).1, turn_order (by omega) (Int.le_refl _) q2 q1 (by omega), (turnHi_bound (by omega) h2 q1 (by omega)).2⟩
  refine ⟨?_, hok⟩
  unfold ware_Bar.f
  rw [hc]; simp only [Option.bind_some, if_true]
  rw [within_f h1 h2]; simp only [Option.bind_some, if_true]
  rw [hbe]; simp only [Option.bind_some]
  rw [show ware_isTrial.f src wet wet (turnLo wet b.shrink.hi) (turnHi wet b.shrink.lo) = some true from congrArg some hok]; rfl
theorem allowsB_iff {t : Trial} {x : Int} : allowsB t x = true ↔ t.wet.lo * (1000 - x) ≤ 1000 * t.dry.hi ∧ 1000 * t.dry.lo ≤ t.wet.hi * (1000 - x) := by simp [allowsB]
theorem bar_allows {wet lo hi by_ : Int} {src : Int} (h1 : 1 ≤ wet) (h3 : lo ≤ by_) (h4 : by_ ≤ hi) (h5 : hi ≤ 1000) : allowsB ⟨src, ⟨wet, wet⟩, ⟨turnLo wet hi, turnHi wet lo⟩⟩ by_ = true := by
  have k1 : wet * (1000 - hi) ≤ wet * (1000 - by_) := Int.mul_le_mul_of_nonneg_left (by omega) (by omega)
  have k2 : wet * (1000 - by_) ≤ wet * (1000 - lo) := Int.mul_le_mul_of_nonneg_left (by omega) (by omega)
  refine allowsB_iff.2 ⟨?_, ?_⟩
  · show wet * (1000 - by_) ≤ 1000 * turnHi wet lo; unfold turnHi; omega
  · show 1000 * turnLo wet hi ≤ wet * (1000 - by_); unfold turnLo; omega
theorem left_all {r : Rng} {t : Trial} (h : r.lo ≤ r.hi) (ha : ∀ x, r.lo ≤ x → x ≤ r.hi → allowsB t x = true) : leftS r [t] = (r, true) := by
  obtain ⟨a, b, e, e1, e2, e3, e4, e5⟩ := left_some (r := r) (l := [t]) (s := r.lo) (Int.le_refl _) h (by rw [okBy_one]; exact ha _ (Int.le_refl _) h)
  have h1 := e5 r.lo (Int.le_refl _) h (by rw [okBy_one]; exact ha _ (Int.le_refl _) h)
  have h2 := e5 r.hi h (Int.le_refl _) (by rw [okBy_one]; exact ha _ h (Int.le_refl _))
  rw [e]
  have : a = r.lo ∧ b = r.hi := by omega
  rw [this.1, this.2]
theorem upDiv_1000 (n : Int) : n ≤ 1000 * upDiv n 1000 ∧ 1000 * upDiv n 1000 < n + 1000 := by unfold upDiv; omega
section
variable {bd : Body} (ho : BodyOk bd) {s : Int} (s1 : bd.shrink.lo ≤ s) (s2 : s ≤ bd.shrink.hi)
theorem narrows_j2 (l2 : List S46) (K : Nat) (t : List S57) (i wet a c : Int) (ho2 : BodyOk ⟨bd.id, ⟨a, c⟩, bd.loss, bd.heat⟩) (w1 : 1 ≤ wet) (w2 : wet ≤ 2000) (i0 : 0 ≤ i) (i1 : i ≤ 100)
    (h : potbanklaw01_WareNarrows.l0 K l2 s t (i + 1) bd.id bd.shrink.lo bd.shrink.hi bd.loss.lo bd.loss.hi bd.heat.lo bd.heat.hi a c = some true) :
    potbanklaw01_WareNarrows.j2 (K + 1) l2 s t i wet false bd.id bd.shrink.lo bd.shrink.hi bd.loss.lo bd.loss.hi bd.heat.lo bd.heat.hi bd.id a c bd.loss.lo bd.loss.hi bd.heat.lo bd.heat.hi = some true := by
  have hbar := bar_f (src := 99) (wet := wet) ho2 w1 w2 (by omega) (by omega)
  have q2 : a ≤ c := ho2.s2
  have q3 : c ≤ 200 := ho2.s3
  have hnar := narrow_f (b := ⟨bd.id, ⟨a, c⟩, bd.loss, bd.heat⟩) (l := [⟨99, ⟨wet, wet⟩, ⟨turnLo wet c, turnHi wet a⟩⟩]) ho2 (by simp) (by simpa [trialOf] using hbar.2)
    (left_all (r := ⟨a, c⟩) q2 (fun y y1 y2 => bar_allows (wet := wet) (lo := a) (hi := c) (src := 99) (by_ := y) w1 y1 y2 (by omega)))
  have hbar1 := hbar.1
  dsimp only at hbar1 hnar
  clear hbar
  simp only [potbanklaw01_WareNarrows.j2]
  rw [if_neg (by simp), hbar1]; simp only [Option.bind_some]
  rw [hnar]; simp only [Option.bind_some, if_true]
  rw [if_neg (by simp), wrap_id (by omega) (by omega)]
  exact h
include ho s1 s2
theorem narrows_j1 (l2 : List S46) (hl2 : l2.length ≤ 140737488355328) (K : Nat) (t : List S57) (wlo whi : Int) (ht : t.length < 12) (hlt : t.length < l2.length) (hok : (t.map trialOf).all okTrial = true) (hs : okBy (t.map trialOf) s = true)
    (w1 : wlo ≤ s) (w2 : s ≤ whi) (hw : ∀ x, bd.shrink.lo ≤ x → x ≤ bd.shrink.hi → okBy (t.map trialOf) x = true → wlo ≤ x ∧ x ≤ whi)
    (h : ∀ (x : S57) (a c : Int), ((t ++ [x]).map trialOf).all okTrial = true → okBy ((t ++ [x]).map trialOf) s = true → a ≤ s → s ≤ c → (∀ y, bd.shrink.lo ≤ y → y ≤ bd.shrink.hi → okBy ((t ++ [x]).map trialOf) y = true → a ≤ y ∧ y ≤ c) →
      potbanklaw01_WareNarrows.l0 K l2 s (t ++ [x]) (t.length + 1) bd.id bd.shrink.lo bd.shrink.hi bd.loss.lo bd.loss.hi bd.heat.lo bd.heat.hi a c = some true) :
    potbanklaw01_WareNarrows.j1 (K + 1 + 1) l2 s t t.length true bd.id bd.shrink.lo bd.shrink.hi bd.loss.lo bd.loss.hi bd.heat.lo bd.heat.hi wlo whi = some true := by
  simp only [potbanklaw01_WareNarrows.j1, if_true]
  rw [if_pos (by omega), if_pos (by omega)]
  generalize rd_T46 l2 (t.length : Int) = q
  have b1 := ho.s1
  have b2 := ho.s2
  have b3 := ho.s3
  have e1 := Int.emod_nonneg q.f0 (by omega : (900 : Int) ≠ 0)
  have e2 := Int.emod_lt_of_pos q.f0 (by omega : (0 : Int) < 900)
  have e3 := Int.emod_nonneg q.f1 (by omega : (4 : Int) ≠ 0)
  have e4 := Int.emod_lt_of_pos q.f1 (by omega : (0 : Int) < 4)
  have e5 := Int.emod_nonneg q.f2 (by omega : (3 : Int) ≠ 0)
  have e6 := Int.emod_lt_of_pos q.f2 (by omega : (0 : Int) < 3)
  rw [mod_f (by omega) (by omega)]; simp only [Option.bind_some]
  rw [mod_f (by omega) (by omega)]; simp only [Option.bind_some]
  generalize q.f0 % 900 = u at *
  generalize q.f1 % 4 = v at *
  obtain ⟨m1, m2⟩ := mul_bound (n := 1 + u) (N := 900) (h := s) (by omega) (by omega) (by omega) (by omega)
  simp only [wrap_id (x := 1 + u) (by omega) (by omega), wrap_id (x := 1000 - s) (by omega) (by omega), wrap_id (x := (1 + u) * (1000 - s)) (by omega) (by omega)]
  generalize hd : (1 + u) * (1000 - s) = dry at *
  rw [down_f (by omega) (by omega) (by omega)]; simp only [Option.bind_some]
  rw [mod_f (by omega) (by omega)]; simp only [Option.bind_some]
  rw [up_f (by omega) (by omega) (by omega)]; simp only [Option.bind_some]
  generalize q.f2 % 3 = z at *
  obtain ⟨k1, k2⟩ := upDiv_1000 dry
  simp only [wrap_id (x := 1 + (t.length : Int)) (by omega) (by omega), wrap_id (x := 1 + u - v) (by omega) (by omega), wrap_id (x := 1 + u + v) (by omega) (by omega), wrap_id (x := dry / 1000 - z) (by omega) (by omega)]
  have hbig : t.length < 3518437208883 := Nat.lt_of_lt_of_le ht (by omega)
  rw [if_pos hbig]
  clear hbig
  generalize hx : (⟨1 + (t.length : Int), ⟨mx (1 + u - v) 1, 1 + u + v⟩, ⟨mx (dry / 1000 - z) 0, upDiv dry 1000⟩⟩ : S57) = x
  have hxo : okTrial (trialOf x) = true := by
    subst hx
    refine okTrial_iff.2 ⟨?_, ?_, ?_, ?_, ?_, ?_, ?_, ?_⟩ <;> simp only [trialOf, mx] <;> (try split) <;> omega
  have hxs : allowsB (trialOf x) s = true := by
    subst hx
    have l1 : mx (1 + u - v) 1 * (1000 - s) ≤ (1 + u) * (1000 - s) := Int.mul_le_mul_of_nonneg_right (by unfold mx; split <;> omega) (by omega)
    have l2 : (1 + u) * (1000 - s) ≤ (1 + u + v) * (1000 - s) := Int.mul_le_mul_of_nonneg_right (by omega) (by omega)
    rw [hd] at l1 l2
    refine allowsB_iff.2 ⟨?_, ?_⟩
    · show mx (1 + u - v) 1 * (1000 - s) ≤ 1000 * upDiv dry 1000; omega
    · show 1000 * mx (dry / 1000 - z) 0 ≤ (1 + u + v) * (1000 - s); unfold mx; split <;> omega
  clear hx
  have hmap : (t ++ [x]).map trialOf = t.map trialOf ++ [trialOf x] := by simp
  have hok' : ((t ++ [x]).map trialOf).all okTrial = true := by rw [hmap, List.all_append, hok]; simp [hxo]
  have hs' : okBy ((t ++ [x]).map trialOf) s = true := by rw [hmap, okBy_append, okBy_one, hs, hxs]; rfl
  have hlen : (t ++ [x]).length = t.length + 1 := by simp
  obtain ⟨a, c, g1, g2, g3, g4, g5, g6⟩ := left_some s1 s2 hs'
  have sub : ∀ y, okBy ((t ++ [x]).map trialOf) y = true → okBy (t.map trialOf) y = true := fun y hy => by
    rw [hmap, okBy_append, Bool.and_eq_true] at hy; exact hy.1
  have ga := g6 s s1 s2 hs'
  have wa := hw a g4 (by omega) (sub a g2)
  have wc := hw c (by omega) g5 (sub c g3)
  have hfin := narrows_j2 (bd := bd) (s := s) l2 K (t ++ [x]) t.length (1 + u) a c ⟨ho.id1, ho.id2, by show 0 ≤ a; omega, by show a ≤ c; omega, by show c ≤ 200; omega, ho.l1, ho.l2, ho.l3, ho.t1, ho.t2, ho.t3⟩ (by omega) (by omega) (by omega) (by omega)
    (h x a c hok' hs' ga.1 ga.2 g6)
  rw [narrow_f ho (by omega) hok' g1]; simp only [Option.bind_some, if_true]
  rw [if_neg (by omega), if_neg (by omega), if_neg (by omega), if_neg (by omega), if_neg (by simp)]
  simpa using hfin
theorem narrows_l0 (l2 : List S46) (hl2 : l2.length ≤ 140737488355328) (m : Nat) : ∀ (t : List S57) (wlo whi : Int), t.length ≤ 12 → (t.length : Int) + m = min (l2.length : Int) 12 → (t.map trialOf).all okTrial = true → okBy (t.map trialOf) s = true →
    wlo ≤ s → s ≤ whi → (∀ x, bd.shrink.lo ≤ x → x ≤ bd.shrink.hi → okBy (t.map trialOf) x = true → wlo ≤ x ∧ x ≤ whi) →
    potbanklaw01_WareNarrows.l0 (3 * m + 2) l2 s t t.length bd.id bd.shrink.lo bd.shrink.hi bd.loss.lo bd.loss.hi bd.heat.lo bd.heat.hi wlo whi = some true := by
  induction m with
  | zero =>
    intro t wlo whi ht hm hok hs w1 w2 hw
    have hj : ∀ c, c = false → potbanklaw01_WareNarrows.j1 1 l2 s t t.length c bd.id bd.shrink.lo bd.shrink.hi bd.loss.lo bd.loss.hi bd.heat.lo bd.heat.hi wlo whi = some true := by
      rintro c rfl
      simp only [potbanklaw01_WareNarrows.j1]
      rw [if_neg (by simp)]; rfl
    simp only [Nat.mul_zero, Nat.zero_add, potbanklaw01_WareNarrows.l0]
    by_cases h : (t.length : Int) < (l2.length : Int)
    · rw [if_pos h]; exact hj _ (decide_eq_false (by omega))
    · rw [if_neg h]; exact hj _ rfl
  | succ m ih =>
    intro t wlo whi ht hm hok hs w1 w2 hw
    rw [show 3 * (m + 1) + 2 = 3 * m + 2 + 1 + 1 + 1 by omega]
    simp only [potbanklaw01_WareNarrows.l0]
    rw [if_pos (by omega), decide_eq_true (by omega : (t.length : Int) < 12)]
    refine narrows_j1 ho s1 s2 l2 hl2 (3 * m + 2) t wlo whi (by omega) (by omega) hok hs w1 w2 hw (fun x a c h1 h2 h3 h4 h5 => ?_)
    have := ih (t ++ [x]) a c (by simp; omega) (by simp; omega) h1 h2 h3 h4 h5
    simpa using this
end
theorem narrows_pure (l0 : List Int) (a1 : Int) (l2 : List S46) (hl0 : l0.length ≤ 140737488355328) (hl2 : l2.length ≤ 140737488355328) : ∃ k, potbanklaw01_WareNarrows.f k l0 a1 l2 = some true := by
  have ho := madeBody_ok 1 (by omega) (by omega) l0
  refine ⟨3 * (min l2.length 12) + 2, ?_⟩
  unfold potbanklaw01_WareNarrows.f
  rw [body_f hl0]; simp only [Option.bind_some, outB]
  generalize madeBody 1 l0 = bd at *
  have b1 := ho.s1
  have b2 := ho.s2
  have b3 := ho.s3
  have e1 := Int.emod_nonneg a1 (by omega : bd.shrink.hi - bd.shrink.lo + 1 ≠ 0)
  have e2 := Int.emod_lt_of_pos a1 (by omega : 0 < bd.shrink.hi - bd.shrink.lo + 1)
  rw [wrap_id (x := bd.shrink.hi - bd.shrink.lo) (by omega) (by omega), wrap_id (x := bd.shrink.hi - bd.shrink.lo + 1) (by omega) (by omega), mod_f (by omega) (by omega)]; simp only [Option.bind_some]
  rw [wrap_id (by omega) (by omega)]
  exact narrows_l0 ho (by omega) (by omega) l2 hl2 (min l2.length 12) [] bd.shrink.lo bd.shrink.hi (by simp) (by simp; omega) rfl rfl (by omega) (by omega) (fun x h1 h2 _ => ⟨h1, h2⟩)
end Go.Proofs.Ytcgokimagimamaa.F
