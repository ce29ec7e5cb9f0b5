/- Layer 1, the program: trials. What each call answers. -/
import Derived.Test.YtcgokimagimamaaMRowCh0
import Derived.Test.YtcgokimagimamaaGB
import Derived.OwnWalkIn
import Derived.TacticsInMore
import Derived.LoopIn
import Derived.LoopNIn
import Derived.RangeFuncLeaves
import Derived.IntWalk
namespace Go.Proofs.Ytcgokimagimamaa
open Go.RowKit
attribute [local go_sem] errIf_true errIf_false add_none
set_option maxHeartbeats 400000
set_option linter.unusedSimpArgs false
set_option linter.unusedVariables false
def Trial.cells (t : Trial) : List Value := [.int .i64 t.source, .int .i64 t.wet.lo, .int .i64 t.wet.hi, .int .i64 t.dry.lo, .int .i64 t.dry.hi]
theorem IndexFuncTrial (xs : List Trial) (v : Value) (p : Trial → Bool) (kf : Nat) (cap : Array Value) (w : World) (hR : Rd 5 Trial.cells w v xs) (hlen : xs.length ≤ 1000000000000000000)
    (e1 : ∀ a w, (callFunc kf a).run Try.prog w = .ok (.enter kf a) w)
    (hp : ∀ x ∈ xs, ∀ w1, Below w.heap.size w w1 → Calls Try.prog kf (#[.agg #[.int .i64 x.source, .int .i64 x.wet.lo, .int .i64 x.wet.hi, .int .i64 x.dry.lo, .int .i64 x.dry.hi]] ++ cap) w1 fun e w2 => e = .returned (.bool (p x)) ∧ Below w1.heap.size w1 w2) :
    Calls Try.prog 119 #[v, .func (.func kf) #[] cap] w fun e w' => e = .returned (.int .i64 (firstI p xs)) ∧ Below w.heap.size w w' := by
  obtain ⟨A0, c0, rfl, hc0⟩ := hR.form
  have HP := hidI hp
  have HR := hidI hR
  clear hp hR
  go_enter Try.func119, Try.ntmps119
  go_wp2
  go_loopw [8] (fun n wr => ∃ k : Nat, k ≤ xs.length ∧ n = .int .i64 k ∧ Hid (∀ j x, j < k → xs[j]? = some x → p x = false) ∧ Below w.heap.size w wr) (fun n _ => xs.length - (intOf n).toNat)
  case atStart => exact ⟨0, by omega, rfl, fun j x hj => absurd hj (by omega), Below.refl _ _⟩
  case round =>
    obtain ⟨k, hk, rfl, hF, hR⟩ := hrel
    by_cases hlt : k < xs.length
    · obtain ⟨b, o, c, hv, hc, hbw, hcell⟩ := (HR.out.below hR).at_ hlt
      obtain ⟨rfl, rfl⟩ : A0 = some ⟨b, o, none⟩ ∧ c0 = c := by injection hv with h1 h2 h3; exact ⟨h1, h3⟩
      have hx : xs[k]? = some xs[k] := List.getElem?_eq_getElem hlt
      have HX := hidI hx
      have hmem : xs[k] ∈ xs := List.getElem_mem hlt
      have HC := hidI (fun w1 hb => HP.out xs[k] hmem w1 hb)
      clear hv hx hmem
      generalize xs[k] = x at *
      have q0 := hcell 0 _ rfl; have q1 := hcell 1 _ rfl; have q2 := hcell 2 _ rfl; have q3 := hcell 3 _ rfl; have q4 := hcell 4 _ rfl; simp only [Nat.add_zero] at q0
      clear hcell
      have hkc : (k : Int) < (xs.length : Int) := by omega
      have hk0 : (0 : Int) ≤ (k : Int) := by omega
      have HK := hidI hR
      cases hpx : p x with
      | true =>
        have HV : Hid (firstI p xs = k) := firstI_found hF HX.out hpx
        go_wp2_with fail
        refine Calls.mono (HC.out _ hR) ?_
        rintro e w' ⟨rfl, hb⟩
        rw [hpx]
        go_wp2
        go_ret
        exact ⟨by rw [HV.out]; rfl, by (repeat (first | (with_reducible exact Below.refl _ _) | (with_reducible refine Below.nset ?_ ?_ _) | (with_reducible refine Below.nalloc ?_ _) | (with_reducible refine Below.ndrew ?_) | (with_reducible refine Below.ndrewN ?_ _) | (with_reducible refine Below.next ?_ (by assumption)) | (with_reducible refine Below.next ?_ (OldAs.below (by assumption))) | (focus (first | (simp; done) | (simp; omega)))))⟩
      | false =>
        have HF2 : Hid (∀ j y, j < k + 1 → xs[j]? = some y → p y = false) := fun j y hj hy => by
          by_cases e : j = k
          · subst e; rw [HX.out] at hy; injection hy with hy; rw [← hy]; exact hpx
          · exact hF j y (by omega) hy
        go_wp2_with fail
        refine Calls.mono (HC.out _ hR) ?_
        rintro e w' ⟨rfl, hb⟩
        rw [hpx]
        go_wp2
        go_roundw
        case rel => exact ⟨k + 1, by omega, by go_num, HF2, by (repeat (first | (with_reducible exact Below.refl _ _) | (with_reducible refine Below.nset ?_ ?_ _) | (with_reducible refine Below.nalloc ?_ _) | (with_reducible refine Below.ndrew ?_) | (with_reducible refine Below.ndrewN ?_ _) | (with_reducible refine Below.next ?_ (by assumption)) | (with_reducible refine Below.next ?_ (OldAs.below (by assumption))) | (focus (first | (simp; done) | (simp; omega)))))⟩
        case measure => first | (simp [intOf]; done) | (simp [intOf]; omega)
    · obtain rfl : k = xs.length := by omega
      have HV : Hid (firstI p xs = -1) := firstI_none (fun x hx => by
        obtain ⟨j, hj, rfl⟩ := List.mem_iff_getElem.1 hx
        exact hF j _ hj (List.getElem?_eq_getElem hj))
      go_wp2
      go_ret
      exact ⟨by rw [HV.out]; rfl, by (repeat (first | (with_reducible exact Below.refl _ _) | (with_reducible refine Below.nset ?_ ?_ _) | (with_reducible refine Below.nalloc ?_ _) | (with_reducible refine Below.ndrew ?_) | (with_reducible refine Below.ndrewN ?_ _) | (with_reducible refine Below.next ?_ (by assumption)) | (with_reducible refine Below.next ?_ (OldAs.below (by assumption))) | (focus (first | (simp; done) | (simp; omega)))))⟩
theorem ContainsFuncTrial (xs : List Trial) (v : Value) (p : Trial → Bool) (kf : Nat) (cap : Array Value) (w : World) (hR : Rd 5 Trial.cells w v xs) (hlen : xs.length ≤ 1000000000000000000)
    (e1 : ∀ a w, (callFunc kf a).run Try.prog w = .ok (.enter kf a) w)
    (hp : ∀ x ∈ xs, ∀ w1, Below w.heap.size w w1 → Calls Try.prog kf (#[.agg #[.int .i64 x.source, .int .i64 x.wet.lo, .int .i64 x.wet.hi, .int .i64 x.dry.lo, .int .i64 x.dry.hi]] ++ cap) w1 fun e w2 => e = .returned (.bool (p x)) ∧ Below w1.heap.size w1 w2) :
    Calls Try.prog 111 #[v, .func (.func kf) #[] cap] w fun e w' => e = .returned (.bool (xs.any p)) ∧ Below w.heap.size w w' := by
  have HC := hidI (IndexFuncTrial xs v p kf cap w hR hlen e1 hp)
  obtain ⟨A0, c0, rfl, hc0⟩ := hR.form
  clear hp hR
  have HA := hidI (firstI_any (p := p) (xs := xs))
  generalize firstI p xs = r at *
  go_enter Try.func111, Try.ntmps111
  go_wp2_with fail
  refine Calls.mono HC.out ?_
  rintro e w' ⟨rfl, hb⟩
  go_wp2
  go_ret
  exact ⟨by rw [← HA.out]; rfl, by (repeat (first | (with_reducible exact Below.refl _ _) | (with_reducible refine Below.nset ?_ ?_ _) | (with_reducible refine Below.nalloc ?_ _) | (with_reducible refine Below.ndrew ?_) | (with_reducible refine Below.ndrewN ?_ _) | (with_reducible refine Below.next ?_ (by assumption)) | (with_reducible refine Below.next ?_ (OldAs.below (by assumption))) | (focus (first | (simp; done) | (simp; omega)))))⟩


theorem isTrial_any (s : Trial) (w : World) :
    Calls Try.prog 69 #[.agg #[.int .i64 s.source, .int .i64 s.wet.lo, .int .i64 s.wet.hi, .int .i64 s.dry.lo, .int .i64 s.dry.hi]] w fun e w' => e = .returned (.bool (okTrial s)) ∧ Below w.heap.size w w' := by
  go_enter Try.func69, Try.ntmps69
  go_wp2_with (first | (go_at_call 55; refine Calls.mono (isWithin_any _ _ _ _) ?_; rintro e w' ⟨rfl, rfl⟩) | (go_at_call 64; refine Calls.mono (isPart_any _ _ _ _ _) ?_; rintro e w' ⟨rfl, hb⟩; ((first | (with_reducible have HB2 := Below.next HB hb) | (with_reducible have HB2 := Below.next (Below.nalloc HB _) hb) | have HB2 := hb); (try clear hc hf hz hz1 hz2 hn1 hn2); obtain ⟨hc, hf, hz, hz1, hz2, hn1, hn2⟩ := bcell3 HB2; (try clear HB); have HB := HB2; clear HB2; have hbk := hb; clear hb)))
  all_goals (go_ret; exact ⟨by (first | rfl | ((try clear hc hf hz hz1 hz2 hn1 hn2 HB); simp_all [okTrial, partR])), by (repeat (first | (with_reducible exact Below.refl _ _) | (with_reducible refine Below.nset ?_ ?_ _) | (with_reducible refine Below.nalloc ?_ _) | (with_reducible refine Below.ndrew ?_) | (with_reducible refine Below.ndrewN ?_ _) | (with_reducible refine Below.next ?_ (by assumption)) | (with_reducible refine Below.next ?_ (OldAs.below (by assumption))) | (focus (first | (simp; done) | (simp; omega)))))⟩)
theorem allows_any (t : Trial) (by_ : Int) (w : World) (ho : TrialOk t) (b0 : 0 ≤ by_) (b1 : by_ ≤ 1000) :
    Calls Try.prog 116 #[.agg #[.int .i64 t.source, .int .i64 t.wet.lo, .int .i64 t.wet.hi, .int .i64 t.dry.lo, .int .i64 t.dry.hi], .int .i64 by_] w fun e w' => e = .returned (.bool (allowsB t by_)) ∧ Below w.heap.size w w' := by
  obtain ⟨s1, s2, w1, w2, w3, d1, d2, d3⟩ := ho
  obtain ⟨m1, m2⟩ := mul_bound (by omega : 0 ≤ t.wet.lo) (by omega : t.wet.lo ≤ 2000) b0 b1
  obtain ⟨m3, m4⟩ := mul_bound (by omega : 0 ≤ t.wet.hi) w3 b0 b1
  have HV : Hid (allowsB t by_ = (decide (t.wet.lo * (1000 - by_) ≤ 1000 * t.dry.hi) && decide (1000 * t.dry.lo ≤ t.wet.hi * (1000 - by_)))) := rfl
  by_cases h1 : t.wet.lo * (1000 - by_) ≤ 1000 * t.dry.hi
  · by_cases h2 : 1000 * t.dry.lo ≤ t.wet.hi * (1000 - by_)
    · go_enter Try.func116, Try.ntmps116
      go_wp2
      go_ret
      exact ⟨by rw [HV.out]; simp [h1, h2], by (repeat (first | (with_reducible exact Below.refl _ _) | (with_reducible refine Below.nset ?_ ?_ _) | (with_reducible refine Below.nalloc ?_ _) | (with_reducible refine Below.ndrew ?_) | (with_reducible refine Below.ndrewN ?_ _) | (with_reducible refine Below.next ?_ (by assumption)) | (with_reducible refine Below.next ?_ (OldAs.below (by assumption))) | (focus (first | (simp; done) | (simp; omega)))))⟩
    · go_enter Try.func116, Try.ntmps116
      go_wp2
      go_ret
      exact ⟨by rw [HV.out]; simp [h1, h2], by (repeat (first | (with_reducible exact Below.refl _ _) | (with_reducible refine Below.nset ?_ ?_ _) | (with_reducible refine Below.nalloc ?_ _) | (with_reducible refine Below.ndrew ?_) | (with_reducible refine Below.ndrewN ?_ _) | (with_reducible refine Below.next ?_ (by assumption)) | (with_reducible refine Below.next ?_ (OldAs.below (by assumption))) | (focus (first | (simp; done) | (simp; omega)))))⟩
  · go_enter Try.func116, Try.ntmps116
    go_wp2
    go_ret
    exact ⟨by rw [HV.out]; simp; omega, by (repeat (first | (with_reducible exact Below.refl _ _) | (with_reducible refine Below.nset ?_ ?_ _) | (with_reducible refine Below.nalloc ?_ _) | (with_reducible refine Below.ndrew ?_) | (with_reducible refine Below.ndrewN ?_ _) | (with_reducible refine Below.next ?_ (by assumption)) | (with_reducible refine Below.next ?_ (OldAs.below (by assumption))) | (focus (first | (simp; done) | (simp; omega)))))⟩
theorem allowed11_any (t : Trial) (by_ : Int) (b : Nat) (w : World) (ho : TrialOk t) (b0 : 0 ≤ by_) (b1 : by_ ≤ 1000) (hb : w.cell? ⟨b, 0, none⟩ = some (.int .i64 by_)) :
    Calls Try.prog 115 #[.agg #[.int .i64 t.source, .int .i64 t.wet.lo, .int .i64 t.wet.hi, .int .i64 t.dry.lo, .int .i64 t.dry.hi], .pointer (some ⟨b, 0, none⟩)] w fun e w' => e = .returned (.bool (!allowsB t by_)) ∧ Below w.heap.size w w' := by
  have hb2 : b < w.heap.size := World.block_lt_of_cell? w _ hb
  have HC := hidI (fun W : World => allows_any t by_ W ho b0 b1)
  go_enter Try.func115, Try.ntmps115
  go_wp2_with (first | (go_at_call 116; refine Calls.mono (HC.out _) ?_; rintro e w' ⟨rfl, hb⟩; ((first | (with_reducible have HB2 := Below.next HB hb) | (with_reducible have HB2 := Below.next (Below.nalloc HB _) hb) | have HB2 := hb); (try clear hc hf hz hz1 hz2 hn1 hn2); obtain ⟨hc, hf, hz, hz1, hz2, hn1, hn2⟩ := bcell3 HB2; (try clear HB); have HB := HB2; clear HB2; have hbk := hb; clear hb)))
  go_ret
  exact ⟨rfl, by (repeat (first | (with_reducible exact Below.refl _ _) | (with_reducible refine Below.nset ?_ ?_ _) | (with_reducible refine Below.nalloc ?_ _) | (with_reducible refine Below.ndrew ?_) | (with_reducible refine Below.ndrewN ?_ _) | (with_reducible refine Below.next ?_ (by assumption)) | (with_reducible refine Below.next ?_ (OldAs.below (by assumption))) | (focus (first | (simp; done) | (simp; omega)))))⟩
end Go.Proofs.Ytcgokimagimamaa
/- Layer 1, the program: the numbers that trials allow, yielded one after the other. -/
namespace Go.Proofs.Ytcgokimagimamaa
open Go.RowKit
attribute [local go_sem] errIf_true errIf_false add_none
set_option maxHeartbeats 1000000
set_option maxRecDepth 100000
set_option linter.unusedSimpArgs false
set_option linter.unusedVariables false
theorem allowedL_succ (l : List Trial) (n : Nat) (lo : Int) : allowedL l (n + 1) lo = if okBy l lo then lo :: allowedL l n (lo + 1) else allowedL l n (lo + 1) := rfl
theorem add_one_int (a : Int) (k : Nat) : a + ((k + 1 : Nat) : Int) = a + k + 1 := by omega
theorem allowed_iter (r : Rng) (l : List Trial) (br bl : Nat) (v : Value) (w0 : World) (hr0 : w0.cell? ⟨br, 0, none⟩ = some (.int .i64 r.lo)) (hr1 : w0.cell? ⟨br, 1, none⟩ = some (.int .i64 r.hi))
    (hbl : w0.cell? ⟨bl, 0, none⟩ = some v) (hR : Rd 5 Trial.cells w0 v l) (hok : ∀ t ∈ l, TrialOk t) (hlen : l.length ≤ 1000000000000000000) (b0 : 0 ≤ r.lo) (b1 : r.hi ≤ 1000) (b2 : r.lo ≤ r.hi + 1) :
    IterC Try.prog 114 #[.pointer (some ⟨br, 0, none⟩), .pointer (some ⟨bl, 0, none⟩)] (fun x : Int => #[.int .i64 x]) (fun k => k < w0.heap.size) (leftL r l) w0 := by
  intro lp n J Jx S0 W hF hFS hS0 hJ hJx hY h0
  have kr : br < w0.heap.size := World.block_lt_of_cell? w0 _ hr0
  have kl : bl < w0.heap.size := World.block_lt_of_cell? w0 _ hbl
  have HFB := hidI (hF.below (n := w0.heap.size) (fun k hk => hk))
  have hWs : w0.heap.size ≤ W.heap.size := hF.size
  have cr0 : W.cell? ⟨br, 0, none⟩ = some (.int .i64 r.lo) := by rw [HFB.out.cell (p := ⟨br, 0, none⟩) kr]; exact hr0
  have cr1 : W.cell? ⟨br, 1, none⟩ = some (.int .i64 r.hi) := by rw [HFB.out.cell (p := ⟨br, 1, none⟩) kr]; exact hr1
  have cl0 : W.cell? ⟨bl, 0, none⟩ = some v := by rw [HFB.out.cell (p := ⟨bl, 0, none⟩) kl]; exact hbl
  have HY := hidI hY
  have HJ := hidI hJ
  have H0 := hidI h0
  have HFS := hidI hFS
  have HS0 := hidI hS0
  have HL : Hid (leftL r l = allowedL l (r.hi - r.lo + 1).toNat r.lo) := rfl
  generalize leftL r l = xs at *
  clear hY hJ hJx h0 hFS hS0 hF hr0 hr1 hbl
  obtain ⟨N, hN⟩ : ∃ N : Nat, (N : Int) = r.hi - r.lo + 1 := ⟨(r.hi - r.lo + 1).toNat, by omega⟩
  have HL2 : Hid (xs = allowedL l N r.lo) := by unfold Hid at *; rw [HL]; congr 1; omega
  clear HL
  have hN2 : r.hi = r.lo + N - 1 := by omega
  have HN := hidI hN2
  clear hN hN2
  refine callsIn_of_wp Try.func114 rfl trivial ?_ rfl
  simp only [Try.ntmps114, List.size_toArray, List.length_cons, List.length_nil, Nat.reduceAdd, Nat.reduceSub, Array.replicate_succ, Array.replicate_zero, List.push_toArray, List.append_toArray, List.nil_append, List.cons_append]
  gi_wp2
  gi_loopw [4] (fun p wr => ∃ (b k i : Nat) (S : Nat → Prop), p = .pointer (some ⟨b, 0, none⟩) ∧ k ≤ N ∧ Hid (J i S wr) ∧ Hid (xs.drop i = allowedL l (N - k) (r.lo + k)) ∧ Hid (i ≤ xs.length) ∧ W.heap.size ≤ b ∧ b < wr.heap.size ∧ Hid (¬ S b) ∧ Hid (∀ j, S j → j < wr.heap.size) ∧ Hid (∀ j, j < w0.heap.size → ¬ S j) ∧
      wr.cell? ⟨b, 0, none⟩ = some (.int .i64 (r.lo + k)) ∧ wr.frozen? ⟨b, 0, none⟩ = false ∧ Hid (Below w0.heap.size w0 wr)) (fun p wr => N - (intOf ((wr.cell? (match p with | .pointer (some a) => a | _ => ⟨0, 0, none⟩)).getD undef) - r.lo).toNat)
  case atStart =>
    refine ⟨W.heap.size, 0, 0, S0, rfl, by omega, ?_, ?_, ?_, Nat.le_refl _, by simp, ?_, ?_, ?_, by go_simp, by go_simp, ?_⟩
    · exact HJ.out _ _ _ _ H0.out (Keep.alloc _ _ _ (fun k hk => hk.elim id (HS0.out k)))
    · unfold Hid; rw [HL2.out]; simp
    · exact Nat.zero_le _
    · intro h; exact absurd (HS0.out _ h) (Nat.lt_irrefl _)
    · intro j hj; have := HS0.out j hj; simp; omega
    · intro j hj; exact (HFS.out j hj).2
    · exact HFB.out.trans (((Below.refl _ W).alloc (Nat.le_refl _) _).mono hWs)
  case round =>
    obtain ⟨b, k, i, S, rfl, hk, hJi, hD, hi, hbW, hbr, hSb, hSl, hSF, cb, fb, hB⟩ := hrel
    have kr2 : br < wr.heap.size := by omega
    have cr0 : wr.cell? ⟨br, 0, none⟩ = some (.int .i64 r.lo) := by rw [hB.out.cell (p := ⟨br, 0, none⟩) kr, ← HFB.out.cell (p := ⟨br, 0, none⟩) kr]; exact cr0
    have cr1 : wr.cell? ⟨br, 1, none⟩ = some (.int .i64 r.hi) := by rw [hB.out.cell (p := ⟨br, 1, none⟩) kr, ← HFB.out.cell (p := ⟨br, 1, none⟩) kr]; exact cr1
    have cl0 : wr.cell? ⟨bl, 0, none⟩ = some v := by rw [hB.out.cell (p := ⟨bl, 0, none⟩) kl, ← HFB.out.cell (p := ⟨bl, 0, none⟩) kl]; exact cl0
    by_cases hlt : k < N
    · have hle : r.lo + (k : Int) ≤ r.hi := by have := HN.out; omega
      have hC := ContainsFuncTrial l v (fun t => !allowsB t (r.lo + k)) 115 #[.pointer (some ⟨b, 0, none⟩)] wr (hR.below hB.out) hlen (ent _ Try.func115 (by kernel_rfl) rfl)
        (fun t ht w1 hb1 => by
          simp only [List.append_toArray, List.cons_append, List.nil_append]
          exact allowed11_any t (r.lo + k) b w1 (hok t ht) (by omega) (by omega) (by rw [hb1.cell (p := ⟨b, 0, none⟩) hbr]; exact cb))
      rw [not_okBy] at hC
      have HC := hidI hC
      clear hC
      have HD : Hid (xs.drop i = if okBy l (r.lo + k) then (r.lo + k) :: allowedL l (N - (k + 1)) (r.lo + k + 1) else allowedL l (N - (k + 1)) (r.lo + k + 1)) := by
        unfold Hid at *; rw [hD, show N - k = N - (k + 1) + 1 by omega, allowedL_succ]
      cases hby : okBy l (r.lo + k) with
      | false =>
        gi_wp2_with fail
        refine ⟨trivial, (fun h => by simp [Fence.wide] at h), ?_⟩
        refine (callsIn_wide.2 HC.out).mono ?_
        rintro e w1 ⟨rfl, hb1⟩
        rw [hby]
        have hd := (bcell3 hb1).1
        have hg := (bcell3 hb1).2.1
        have hbr1 : b < w1.heap.size := Nat.lt_of_lt_of_le hbr hb1.size
        have hne : ¬ w1.heap.size = b ∧ ¬ b = w1.heap.size := by omega
        obtain ⟨hne1, hne2⟩ := hne
        gi_wp2_with ((with_reducible refine And.intro ?_ ?_); (focus (intro _ _; exact True.intro)))
        go_roundw
        case rel =>
          refine ⟨w1.heap.size, k + 1, i, S, rfl, by omega, ?_, ?_, hi, ?_, by simp, ?_, ?_, hSF, by rw [← add_one_int]; go_simp, by go_simp, ?_⟩
          · exact HJ.out _ _ _ _ hJi.out ((Keep.of_below hb1 (fun j hj => hj.elim (fun h => by omega) (hSl.out j))).trans (Keep.alloc _ _ _ (fun j hj => hj.elim (fun h => by have := hb1.size; omega) (fun h => by have := hSl.out j h; have := hb1.size; omega))))
          · unfold Hid at *; rw [HD, hby, add_one_int]; rfl
          · have := hb1.size; omega
          · intro h; have := hSl.out _ h; have := hb1.size; omega
          · intro j hj; have := hSl.out j hj; have := hb1.size; simp; omega
          · exact hB.out.trans ((hb1.mono (by omega)).trans ((Below.refl _ _).alloc (by have := hb1.size; omega) _))
        case measure => first | (go_simp; done) | (go_simp; simp [intOf]; omega)
      | true =>
        have hxi : xs[i]? = some (r.lo + k) := by
          have := HD.out
          rw [hby, if_pos rfl] at this
          have h2 := congrArg (fun l : List Int => l.head?) this
          simpa [List.head?_drop] using h2
        have hil : i < xs.length := (List.getElem?_eq_some_iff.1 hxi).1
        gi_wp2_with fail
        refine ⟨trivial, (fun h => by simp [Fence.wide] at h), ?_⟩
        refine (callsIn_wide.2 HC.out).mono ?_
        rintro e w1 ⟨rfl, hb1⟩
        rw [hby]
        have hd := (bcell3 hb1).1
        have hg := (bcell3 hb1).2.1
        have hbr1 : b < w1.heap.size := Nat.lt_of_lt_of_le hbr hb1.size
        have cb1 : w1.cell? ⟨b, 0, none⟩ = some (.int .i64 (r.lo + k)) := by rw [hd ⟨b, 0, none⟩ hbr]; exact cb
        have fb1 : w1.frozen? ⟨b, 0, none⟩ = false := by rw [hg ⟨b, 0, none⟩ hbr]; exact fb
        clear hd hg
        have hJ1 : J i S w1 := HJ.out _ _ _ _ hJi.out (Keep.of_below hb1 (fun j hj => hj.elim (fun h => by omega) (hSl.out j)))
        have hS1 : ∀ j, S j → j < w1.heap.size := fun j hj => by have := hSl.out j hj; have := hb1.size; omega
        obtain ⟨fn, tmps, assign, body, hy, hYR⟩ := HY.out i (r.lo + k) S w1 hJ1 hxi (by have := hb1.size; omega) hS1 (n - 1)
        have HYR := hidI hYR
        have HJ1 := hidI hJ1
        have HS1 := hidI hS1
        clear hYR hJ1 hS1
        gi_wp2_with ((with_reducible refine And.intro ?_ ?_); (focus (intro _ _; exact True.intro)))
        refine ⟨(fun h => by simp [Fence.wide] at h), HYR.out.mono ?_⟩
        rintro e w2 ⟨S2, hrk, hJ2⟩
        have hbS : (fun j => j < w1.heap.size ∧ ¬ S j) b := ⟨hbr1, hSb.out⟩
        have cb2 : w2.cell? ⟨b, 0, none⟩ = some (.int .i64 (r.lo + k)) := by rw [hrk.keep.cell (p := ⟨b, 0, none⟩) hbS]; exact cb1
        have fb2 : w2.frozen? ⟨b, 0, none⟩ = false := by rw [hrk.keep.frozen (p := ⟨b, 0, none⟩) hbS]; exact fb1
        have hz2 : w1.heap.size ≤ w2.heap.size := hrk.keep.size
        have hbr2 : b < w2.heap.size := by omega
        have hne : ¬ w2.heap.size = b ∧ ¬ b = w2.heap.size := by omega
        obtain ⟨hne1, hne2⟩ := hne
        have hwr1 : wr.heap.size ≤ w1.heap.size := hb1.size
        have HS2 : Hid (∀ j, S2 j → j < w2.heap.size) := fun j hj => by
          rcases hrk.grow j hj with h | h
          · have := HS1.out j h; omega
          · exact h.2
        have HF2 : Hid (∀ j, j < w0.heap.size → ¬ S2 j) := fun j hj h2 => by
          rcases hrk.grow j h2 with h | h
          · exact hSF.out j hj h
          · omega
        have HB2 : Hid (Below w0.heap.size w0 w2) := (hB.out.trans (hb1.mono (by omega))).trans (hrk.keep.below (fun j hj => ⟨by omega, hSF.out j hj⟩))
        clear hrk
        rcases hJ2 with ⟨rfl, hJ2⟩ | ⟨rfl, hJ2⟩
        · have HJ2 := hidI hJ2
          clear hJ2
          gi_wp2_with ((with_reducible refine And.intro ?_ ?_); (focus (intro _ _; exact True.intro)))
          go_roundw
          case rel =>
            refine ⟨w2.heap.size, k + 1, i + 1, S2, rfl, by omega, ?_, ?_, by show i + 1 ≤ xs.length; omega, by omega, by simp, ?_, ?_, HF2, by rw [← add_one_int]; go_simp, by go_simp, ?_⟩
            · exact HJ.out _ _ _ _ HJ2.out (Keep.alloc _ _ _ (fun j hj => hj.elim (fun h => by omega) (fun h => HS2.out j h)))
            · unfold Hid at *
              rw [hby, if_pos rfl] at HD
              have h3 := congrArg List.tail HD
              rw [List.tail_drop] at h3
              rw [h3, add_one_int]; rfl
            · intro h; exact absurd (HS2.out _ h) (Nat.lt_irrefl _)
            · intro j hj; have := HS2.out j hj; simp; omega
            · exact HB2.out.trans ((Below.refl _ _).alloc (by omega) _)
          case measure => first | (go_simp; done) | (go_simp; simp [intOf]; omega)
        · have HJ2 := hidI hJ2
          clear hJ2
          gi_wp2_with ((with_reducible refine And.intro ?_ ?_); (focus (intro _ _; exact True.intro)))
          ((try simp only [Exit.inBlock, Exit.then]); refine bodyPost_ret (results_none rfl _ _ _) rfl ?_)
          exact ⟨⟨_, rfl⟩, .inr ⟨i, S2, hil, HJ2.out⟩⟩
    · obtain rfl : k = N := by omega
      have hi2 : i = xs.length := by
        have h1 := hD.out
        rw [Nat.sub_self] at h1
        have h2 := congrArg List.length h1
        simp [allowedL] at h2
        have := hi.out
        omega
      have hle : ¬ r.lo + (k : Int) ≤ r.hi := by have := HN.out; omega
      have HJ3 := hidI hJi.out
      rw [hi2] at HJ3
      clear hi2
      gi_wp2_with ((with_reducible refine And.intro ?_ ?_); (focus (intro _ _; exact True.intro)))
      go_end0
      exact ⟨⟨_, rfl⟩, .inl ⟨S, HJ3.out⟩⟩
end Go.Proofs.Ytcgokimagimamaa
/- Layer 1, the program: what trials tell. What each call answers. -/
namespace Go.Proofs.Ytcgokimagimamaa
open Go.RowKit
attribute [local go_sem] errIf_true errIf_false add_none
set_option maxHeartbeats 1000000
set_option maxRecDepth 100000
set_option linter.unusedSimpArgs false
set_option linter.unusedVariables false
theorem allowed_any (r : Rng) (A : Option Addr) (m c : Nat) (w : World) :
    Calls Try.prog 93 #[.agg #[.int .i64 r.lo, .int .i64 r.hi], .slice A m c] w fun e w' => e = .returned (.func (.func 114) #[] #[.pointer (some ⟨w.heap.size, 0, none⟩), .pointer (some ⟨w.heap.size + 1, 0, none⟩)]) ∧
      (w.alloc (.cells #[.int .i64 r.lo, .int .i64 r.hi] 23)).alloc (.cells #[.slice A m c] 55) = w' := by
  go_enter Try.func93, Try.ntmps93
  go_wp2
  go_ret
  exact ⟨rfl, rfl⟩
theorem left_any (r : Rng) (l : List Trial) (v : Value) (w : World) (hR : Rd 5 Trial.cells w v l) (hok : ∀ t ∈ l, TrialOk t) (hlen : l.length ≤ 1000000000000000000) (b0 : 0 ≤ r.lo) (b1 : r.hi ≤ 1000) (b2 : r.lo ≤ r.hi + 1) (hlen2 : (leftL r l).length ≤ 1000000000) :
    Calls Try.prog 68 #[.agg #[.int .i64 r.lo, .int .i64 r.hi], v] w fun e w' => e = .returned (.tuple #[.agg #[.int .i64 ((leftS r l).1.lo), .int .i64 ((leftS r l).1.hi)], .bool (leftS r l).2]) ∧ Below w.heap.size w w' := by
  obtain ⟨A0, c0, rfl, hc0⟩ := hR.form
  have HR := hidI hR
  clear hR
  go_enter Try.func68, Try.ntmps68
  go_wp2_with (first | (go_at_call 93; refine Calls.mono (allowed_any _ _ _ _ _) ?_; rintro e w' ⟨rfl, rfl⟩))
  refine Calls.mono (CollectI _ _ (fun k => k < _) _ _ _ (allowed_iter r l _ _ (.slice A0 l.length c0) _ ?ga ?gb ?gc ?gd hok hlen b0 b1 b2) (Keep.refl _ _) (fun k h => h) hlen2 (ent _ Try.func114 (by kernel_rfl) rfl)) ?_
  case ga => go_simp
  case gb => go_simp
  case gc => go_simp
  case gd => exact HR.out.below (by (repeat (first | (with_reducible exact Below.refl _ _) | (with_reducible refine Below.nset ?_ ?_ _) | (with_reducible refine Below.nalloc ?_ _) | (with_reducible refine Below.ndrew ?_) | (with_reducible refine Below.ndrewN ?_ _) | (with_reducible refine Below.next ?_ (by assumption)) | (with_reducible refine Below.next ?_ (OldAs.below (by assumption))) | (focus (first | (simp; done) | (simp; omega))))))
  rintro e w3 ⟨v, rfl, ho, hb⟩
  have HO := hidI ho
  obtain ⟨A1, c1, rfl, hc1⟩ := ho.form
  clear ho
  ((first | (with_reducible have HB2 := Below.next HB hb) | (with_reducible have HB2 := Below.next (Below.nalloc HB _) hb) | have HB2 := hb); (try clear hc hf hz hz1 hz2 hn1 hn2); obtain ⟨hc, hf, hz, hz1, hz2, hn1, hn2⟩ := bcell3 HB2; (try clear HB); have HB := HB2; clear HB2; have hbk := hb; clear hb)
  have HRD := hidI (HO.out.rd (fun _ => rfl))
  have HSL : Hid (leftS r l = match leftL r l with | [] => (zR, false) | x :: t => (⟨x, (x :: t).getLast (by simp)⟩, true)) := rfl
  generalize leftL r l = xs at *
  cases xs with
  | nil =>
    have HV : Hid (leftS r l = (zR, false)) := HSL.out
    go_wp2
    exact (bodyPost_ret (v := .tuple #[.agg #[.int .i64 0, .int .i64 0], .bool false]) (by simp [results, Try.results68, go_sem, hc, hf]) rfl) ⟨by rw [HV.out]; rfl, by (repeat (first | (with_reducible exact Below.refl _ _) | (with_reducible refine Below.nset ?_ ?_ _) | (with_reducible refine Below.nalloc ?_ _) | (with_reducible refine Below.ndrew ?_) | (with_reducible refine Below.ndrewN ?_ _) | (with_reducible refine Below.next ?_ (by assumption)) | (with_reducible refine Below.next ?_ (OldAs.below (by assumption))) | (focus (first | (simp; done) | (simp; omega)))))⟩
  | cons x t =>
    have HV : Hid (leftS r l = (⟨x, (x :: t).getLast (by simp)⟩, true)) := HSL.out
    obtain ⟨bb, oo, cc, hv, hcc, hbb, hcell⟩ := HRD.out.at_ (k := 0) (by simp)
    obtain ⟨bb2, oo2, cc2, hv2, hcc2, hbb2, hcell2⟩ := HRD.out.at_ (k := (x :: t).length - 1) (by simp)
    injection hv with hv _ _
    injection hv2 with hv2 _ _
    subst hv
    injection hv2 with hv2
    injection hv2 with e1 e2
    subst e1 e2
    have q0 := hcell 0 _ rfl
    have q1 := hcell2 0 _ rfl
    rw [← List.getLast_eq_getElem (by simp)] at q1
    simp only [List.getElem_cons_zero, Nat.zero_mul, Nat.mul_one, Nat.add_zero] at q0 q1
    generalize (x :: t).getLast (by simp) = y at *
    clear hcell hcell2 HSL
    simp only [List.length_cons, Nat.add_sub_cancel] at q1 hlen2
    have WL : IntKind.i64.wrap (t.length : Int) = (t.length : Int) := IntWalk.i64_in _ (by omega)
    have WN : ((t.length : Int)).toNat = t.length := by omega
    have W0 : (0 : Int) ≤ (t.length : Int) := by omega
    have hcc3 : t.length + 1 ≤ cc := by simpa using hcc
    go_wp2_with fail
    go_region
    go_wp2
    exact (bodyPost_ret (v := .tuple #[.agg #[.int .i64 x, .int .i64 y], .bool true]) (by simp only [results, Try.results68]; go_simp; (repeat' constructor)) rfl) ⟨by rw [HV.out], by (repeat (first | (with_reducible exact Below.refl _ _) | (with_reducible refine Below.nset ?_ ?_ _) | (with_reducible refine Below.nalloc ?_ _) | (with_reducible refine Below.ndrew ?_) | (with_reducible refine Below.ndrewN ?_ _) | (with_reducible refine Below.next ?_ (by assumption)) | (with_reducible refine Below.next ?_ (OldAs.below (by assumption))) | (focus (first | (simp; done) | (simp; omega)))))⟩
theorem leftL_len (l : List Trial) : ∀ (n : Nat) (lo : Int), (allowedL l n lo).length ≤ n
  | 0, _ => by simp [allowedL]
  | n + 1, lo => by
    have := leftL_len l n (lo + 1)
    rw [allowedL_succ]; split <;> simp <;> omega
theorem Told_any (t : Trial) (w : World) :
    Calls Try.prog 60 #[.agg #[.int .i64 t.source, .int .i64 t.wet.lo, .int .i64 t.wet.hi, .int .i64 t.dry.lo, .int .i64 t.dry.hi]] w fun e w' => e = .returned (.tuple #[.agg #[.int .i64 ((toldS t).1.lo), .int .i64 ((toldS t).1.hi)], .int .i64 ((toldS t).2)]) ∧ Below w.heap.size w w' := by
  by_cases ho : okTrial t = true
  · have hok := okTrial_iff.1 ho
    have hll : (leftL ⟨0, 200⟩ [t]).length ≤ 1000000000 := Nat.le_trans (leftL_len _ _ _) (by decide)
    have HL := hidI (fun (v : Value) (W : World) (h : Rd 5 Trial.cells W v [t]) => left_any ⟨0, 200⟩ [t] v W h (by intro x hx; simp at hx; subst hx; exact hok) (by simp) (by simp) (by simp) (by simp) hll)
    have HV : Hid (toldS t = if (leftS ⟨0, 200⟩ [t]).2 then ((leftS ⟨0, 200⟩ [t]).1, 0) else (zR, 3)) := by unfold Hid; simp [toldS, ho]
    clear hok hll
    generalize leftS ⟨0, 200⟩ [t] = q at *
    obtain ⟨⟨qa, qb⟩, qc⟩ := q
    dsimp only at HV
    have HL2 : Hid (∀ (v : Value) (W : World), Rd 5 Trial.cells W v [t] → Calls Try.prog 68 #[.agg #[.int .i64 0, .int .i64 200], v] W fun e w' => e = .returned (.tuple #[.agg #[.int .i64 qa, .int .i64 qb], .bool qc]) ∧ Below W.heap.size W w') := HL.out
    clear HL
    go_enter Try.func60, Try.ntmps60
    go_wp2_with (first | (go_at_call 69; refine Calls.mono (isTrial_any t _) ?_; rintro e w' ⟨rfl, hb⟩; ((first | (with_reducible have HB2 := Below.next HB hb) | (with_reducible have HB2 := Below.next (Below.nalloc HB _) hb) | have HB2 := hb); (try clear hc hf hz hz1 hz2 hn1 hn2); obtain ⟨hc, hf, hz, hz1, hz2, hn1, hn2⟩ := bcell3 HB2; (try clear HB); have HB := HB2; clear HB2; have hbk := hb; clear hb)))
    refine Calls.mono (HL2.out _ _ ?_) ?_
    · refine ⟨_, 1, rfl, Nat.le_refl _, fun _ => ⟨w'.heap.size, 0, rfl, by simp, fun i x hi j u hu => ?_⟩⟩
      have hi0 : i = 0 := by have := (List.getElem?_eq_some_iff.1 hi).1; simp at this; omega
      subst hi0
      simp at hi; subst hi
      have hj : j < 5 := (List.getElem?_eq_some_iff.1 hu).1
      have : j = 0 ∨ j = 1 ∨ j = 2 ∨ j = 3 ∨ j = 4 := by omega
      rcases this with rfl | rfl | rfl | rfl | rfl <;> (simp [Trial.cells] at hu; subst hu; go_simp)
    rintro e w' ⟨rfl, hb⟩
    ((first | (with_reducible have HB2 := Below.next HB hb) | (with_reducible have HB2 := Below.next (Below.nalloc HB _) hb) | have HB2 := hb); (try clear hc hf hz hz1 hz2 hn1 hn2); obtain ⟨hc, hf, hz, hz1, hz2, hn1, hn2⟩ := bcell3 HB2; (try clear HB); have HB := HB2; clear HB2; have hbk := hb; clear hb)
    cases qc with
    | true =>
      go_wp2
      exact (bodyPost_ret (v := .tuple #[.agg #[.int .i64 qa, .int .i64 qb], .int .i64 0]) (by simp [results, Try.results60, go_sem, hc, hf, hz, hz1, hz2]) rfl) ⟨by rw [HV.out]; rfl, by (repeat (first | (with_reducible exact Below.refl _ _) | (with_reducible refine Below.nset ?_ ?_ _) | (with_reducible refine Below.nalloc ?_ _) | (with_reducible refine Below.ndrew ?_) | (with_reducible refine Below.ndrewN ?_ _) | (with_reducible refine Below.next ?_ (by assumption)) | (with_reducible refine Below.next ?_ (OldAs.below (by assumption))) | (focus (first | (simp; done) | (simp; omega)))))⟩
    | false =>
      go_wp2
      exact (bodyPost_ret (v := .tuple #[.agg #[.int .i64 0, .int .i64 0], .int .i64 3]) (by simp [results, Try.results60, go_sem, hc, hf, hz, hz1, hz2]) rfl) ⟨by rw [HV.out]; rfl, by (repeat (first | (with_reducible exact Below.refl _ _) | (with_reducible refine Below.nset ?_ ?_ _) | (with_reducible refine Below.nalloc ?_ _) | (with_reducible refine Below.ndrew ?_) | (with_reducible refine Below.ndrewN ?_ _) | (with_reducible refine Below.next ?_ (by assumption)) | (with_reducible refine Below.next ?_ (OldAs.below (by assumption))) | (focus (first | (simp; done) | (simp; omega)))))⟩
  · have ho' : okTrial t = false := by simpa using ho
    have HV : Hid (toldS t = (zR, 13)) := by unfold Hid; simp [toldS, ho']
    clear ho
    go_enter Try.func60, Try.ntmps60
    go_wp2_with (first | (go_at_call 69; refine Calls.mono (isTrial_any t _) ?_; rintro e w' ⟨rfl, hb⟩; ((first | (with_reducible have HB2 := Below.next HB hb) | (with_reducible have HB2 := Below.next (Below.nalloc HB _) hb) | have HB2 := hb); (try clear hc hf hz hz1 hz2 hn1 hn2); obtain ⟨hc, hf, hz, hz1, hz2, hn1, hn2⟩ := bcell3 HB2; (try clear HB); have HB := HB2; clear HB2; have hbk := hb; clear hb)))
    exact (bodyPost_ret (v := .tuple #[.agg #[.int .i64 0, .int .i64 0], .int .i64 13]) (by simp [results, Try.results60, go_sem, hc, hf]) rfl) ⟨by rw [HV.out]; rfl, by (repeat (first | (with_reducible exact Below.refl _ _) | (with_reducible refine Below.nset ?_ ?_ _) | (with_reducible refine Below.nalloc ?_ _) | (with_reducible refine Below.ndrew ?_) | (with_reducible refine Below.ndrewN ?_ _) | (with_reducible refine Below.next ?_ (by assumption)) | (with_reducible refine Below.next ?_ (OldAs.below (by assumption))) | (focus (first | (simp; done) | (simp; omega)))))⟩
end Go.Proofs.Ytcgokimagimamaa
