
/- Layer 1, the program: trials. What each call answers. -/
import Derived.Test.YtcgokimagimamaaWareE
import Derived.Test.YtcgokimagimamaaRange
import Derived.OwnWalkIn
import Derived.TacticsInMore
import Derived.LoopIn
import Derived.LoopNIn
import Derived.RangeFuncLeaves
import Derived.IntWalk
namespace Go.Proofs.Ytcgokimagimamaa
open Go.RowKit
attribute [local go_sem] errIf_true errIf_false add_none
set_option maxHeartbeats 400000
set_option linter.unusedSimpArgs false
set_option linter.unusedVariables false
def Trial.cells (t : Trial) : List Value := [.int .i64 t.source, .int .i64 t.wet.lo, .int .i64 t.wet.hi, .int .i64 t.dry.lo, .int .i64 t.dry.hi]
theorem IndexFuncTrial (xs : List Trial) (v : Value) (p : Trial → Bool) (kf : Nat) (cap : Array Value) (w : World) (hR : Rd 5 Trial.cells w v xs) (hlen : xs.length ≤ 1000000000000000000)
    (e1 : ∀ a w, (callFunc kf a).run Try.prog w = .ok (.enter kf a) w)
    (hp : ∀ x ∈ xs, ∀ w1, Below w.heap.size w w1 → Calls Try.prog kf (#[.agg #[.int .i64 x.source, .int .i64 x.wet.lo, .int .i64 x.wet.hi, .int .i64 x.dry.lo, .int .i64 x.dry.hi]] ++ cap) w1 fun e w2 => e = .returned (.bool (p x)) ∧ Below w1.heap.size w1 w2) :
    Calls Try.prog 119 #[v, .func (.func kf) #[] cap] w fun e w' => e = .returned (.int .i64 (firstI p xs)) ∧ Below w.heap.size w w' := by
  obtain ⟨A0, c0, rfl, hc0⟩ := hR.form
  have HP := hidI hp
  have HR := hidI hR
  clear hp hR
  go_enter Try.func119, Try.ntmps119
  go_wp2
  go_loopw [8] (fun n wr => ∃ k : Nat, k ≤ xs.length ∧ n = .int .i64 k ∧ Hid (∀ j x, j < k → xs[j]? = some x → p x = false) ∧ Below w.heap.size w wr) (fun n _ => xs.length - (intOf n).toNat)
  case atStart => exact ⟨0, by omega, rfl, fun j x hj => absurd hj (by omega), Below.refl _ _⟩
  case round =>
    obtain ⟨k, hk, rfl, hF, hR⟩ := hrel
    by_cases hlt : k < xs.length
    · obtain ⟨b, o, c, hv, hc, hbw, hcell⟩ := (HR.out.below hR).at_ hlt
      obtain ⟨rfl, rfl⟩ : A0 = some ⟨b, o, none⟩ ∧ c0 = c := by injection hv with h1 h2 h3; exact ⟨h1, h3⟩
      have hx : xs[k]? = some xs[k] := List.getElem?_eq_getElem hlt
      have HX := hidI hx
      have hmem : xs[k] ∈ xs := List.getElem_mem hlt
      have HC := hidI (fun w1 hb => HP.out xs[k] hmem w1 hb)
      clear hv hx hmem
      generalize xs[k] = x at *
      have q0 := hcell 0 _ rfl; have q1 := hcell 1 _ rfl; have q2 := hcell 2 _ rfl; have q3 := hcell 3 _ rfl; have q4 := hcell 4 _ rfl; simp only [Nat.add_zero] at q0
      clear hcell
      have hkc : (k : Int) < (xs.length : Int) := by omega
      have hk0 : (0 : Int) ≤ (k : Int) := by omega
      have HK := hidI hR
      cases hpx : p x with
      | true =>
        have HV : Hid (firstI p xs = k) := firstI_found hF HX.out hpx
        go_wp2_with fail
        refine Calls.mono (HC.out _ hR) ?_
        rintro e w' ⟨rfl, hb⟩
        rw [hpx]
        go_wp2
        go_ret
        exact ⟨by rw [HV.out]; rfl, by (repeat (first | (with_reducible exact Below.refl _ _) | (with_reducible refine Below.nset ?_ ?_ _) | (with_reducible refine Below.nalloc ?_ _) | (with_reducible refine Below.ndrew ?_) | (with_reducible refine Below.ndrewN ?_ _) | (with_reducible refine Below.next ?_ (by assumption)) | (with_reducible refine Below.next ?_ (OldAs.below (by assumption))) | (focus (first | (simp; done) | (simp; omega)))))⟩
      | false =>
        have HF2 : Hid (∀ j y, j < k + 1 → xs[j]? = some y → p y = false) := fun j y hj hy => by
          by_cases e : j = k
          · subst e; rw [HX.out] at hy; injection hy with hy; rw [← hy]; exact hpx
          · exact hF j y (by omega) hy
        go_wp2_with fail
        refine Calls.mono (HC.out _ hR) ?_
        rintro e w' ⟨rfl, hb⟩
        rw [hpx]
        go_wp2
        go_roundw
        case rel => exact ⟨k + 1, by omega, by go_num, HF2, by (repeat (first | (with_reducible exact Below.refl _ _) | (with_reducible refine Below.nset ?_ ?_ _) | (with_reducible refine Below.nalloc ?_ _) | (with_reducible refine Below.ndrew ?_) | (with_reducible refine Below.ndrewN ?_ _) | (with_reducible refine Below.next ?_ (by assumption)) | (with_reducible refine Below.next ?_ (OldAs.below (by assumption))) | (focus (first | (simp; done) | (simp; omega)))))⟩
        case measure => first | (simp [intOf]; done) | (simp [intOf]; omega)
    · obtain rfl : k = xs.length := by omega
      have HV : Hid (firstI p xs = -1) := firstI_none (fun x hx => by
        obtain ⟨j, hj, rfl⟩ := List.mem_iff_getElem.1 hx
        exact hF j _ hj (List.getElem?_eq_getElem hj))
      go_wp2
      go_ret
      exact ⟨by rw [HV.out]; rfl, by (repeat (first | (with_reducible exact Below.refl _ _) | (with_reducible refine Below.nset ?_ ?_ _) | (with_reducible refine Below.nalloc ?_ _) | (with_reducible refine Below.ndrew ?_) | (with_reducible refine Below.ndrewN ?_ _) | (with_reducible refine Below.next ?_ (by assumption)) | (with_reducible refine Below.next ?_ (OldAs.below (by assumption))) | (focus (first | (simp; done) | (simp; omega)))))⟩
theorem ContainsFuncTrial (xs : List Trial) (v : Value) (p : Trial → Bool) (kf : Nat) (cap : Array Value) (w : World) (hR : Rd 5 Trial.cells w v xs) (hlen : xs.length ≤ 1000000000000000000)
    (e1 : ∀ a w, (callFunc kf a).run Try.prog w = .ok (.enter kf a) w)
    (hp : ∀ x ∈ xs, ∀ w1, Below w.heap.size w w1 → Calls Try.prog kf (#[.agg #[.int .i64 x.source, .int .i64 x.wet.lo, .int .i64 x.wet.hi, .int .i64 x.dry.lo, .int .i64 x.dry.hi]] ++ cap) w1 fun e w2 => e = .returned (.bool (p x)) ∧ Below w1.heap.size w1 w2) :
    Calls Try.prog 111 #[v, .func (.func kf) #[] cap] w fun e w' => e = .returned (.bool (xs.any p)) ∧ Below w.heap.size w w' := by
  have HC := hidI (IndexFuncTrial xs v p kf cap w hR hlen e1 hp)
  obtain ⟨A0, c0, rfl, hc0⟩ := hR.form
  clear hp hR
  have HA := hidI (firstI_any (p := p) (xs := xs))
  generalize firstI p xs = r at *
  go_enter Try.func111, Try.ntmps111
  go_wp2_with fail
  refine Calls.mono HC.out ?_
  rintro e w' ⟨rfl, hb⟩
  go_wp2
  go_ret
  exact ⟨by rw [← HA.out]; rfl, by (repeat (first | (with_reducible exact Below.refl _ _) | (with_reducible refine Below.nset ?_ ?_ _) | (with_reducible refine Below.nalloc ?_ _) | (with_reducible refine Below.ndrew ?_) | (with_reducible refine Below.ndrewN ?_ _) | (with_reducible refine Below.next ?_ (by assumption)) | (with_reducible refine Below.next ?_ (OldAs.below (by assumption))) | (focus (first | (simp; done) | (simp; omega)))))⟩


theorem isTrial_any (s : Trial) (w : World) :
    Calls Try.prog 69 #[.agg #[.int .i64 s.source, .int .i64 s.wet.lo, .int .i64 s.wet.hi, .int .i64 s.dry.lo, .int .i64 s.dry.hi]] w fun e w' => e = .returned (.bool (okTrial s)) ∧ Below w.heap.size w w' := by
  go_enter Try.func69, Try.ntmps69
  go_wp2_with (first | (go_at_call 55; refine Calls.mono (isWithin_any _ _ _ _) ?_; rintro e w' ⟨rfl, rfl⟩) | (go_at_call 64; refine Calls.mono (isPart_any _ _ _ _ _) ?_; rintro e w' ⟨rfl, hb⟩; ((first | (with_reducible have HB2 := Below.next HB hb) | (with_reducible have HB2 := Below.next (Below.nalloc HB _) hb) | have HB2 := hb); (try clear hc hf hz hz1 hz2 hn1 hn2); obtain ⟨hc, hf, hz, hz1, hz2, hn1, hn2⟩ := bcell3 HB2; (try clear HB); have HB := HB2; clear HB2; have hbk := hb; clear hb)))
  all_goals (go_ret; exact ⟨by (first | rfl | ((try clear hc hf hz hz1 hz2 hn1 hn2 HB); simp_all [okTrial, partR])), by (repeat (first | (with_reducible exact Below.refl _ _) | (with_reducible refine Below.nset ?_ ?_ _) | (with_reducible refine Below.nalloc ?_ _) | (with_reducible refine Below.ndrew ?_) | (with_reducible refine Below.ndrewN ?_ _) | (with_reducible refine Below.next ?_ (by assumption)) | (with_reducible refine Below.next ?_ (OldAs.below (by assumption))) | (focus (first | (simp; done) | (simp; omega)))))⟩)
theorem allows_any (t : Trial) (by_ : Int) (w : World) (ho : TrialOk t) (b0 : 0 ≤ by_) (b1 : by_ ≤ 1000) :
    Calls Try.prog 116 #[.agg #[.int .i64 t.source, .int .i64 t.wet.lo, .int .i64 t.wet.hi, .int .i64 t.dry.lo, .int .i64 t.dry.hi], .int .i64 by_] w fun e w' => e = .returned (.bool (allowsB t by_)) ∧ Below w.heap.size w w' := by
  obtain ⟨s1, s2, w1, w2, w3, d1, d2, d3⟩ := ho
  obtain ⟨m1, m2⟩ := mul_bound (by omega : 0 ≤ t.wet.lo) (by omega : t.wet.lo ≤ 2000) b0 b1
  obtain ⟨m3, m4⟩ := mul_bound (by omega : 0 ≤ t.wet.hi) w3 b0 b1
  have HV : Hid (allowsB t by_ = (decide (t.wet.lo * (1000 - by_) ≤ 1000 * t.dry.hi) && decide (1000 * t.dry.lo ≤ t.wet.hi * (1000 - by_)))) := rfl
  by_cases h1 : t.wet.lo * (1000 - by_) ≤ 1000 * t.dry.hi
  · by_cases h2 : 1000 * t.dry.lo ≤ t.wet.hi * (1000 - by_)
    · go_enter Try.func116, Try.ntmps116
      go_wp2
      go_ret
      exact ⟨by rw [HV.out]; simp [h1, h2], by (repeat (first | (with_reducible exact Below.refl _ _) | (with_reducible refine Below.nset ?_ ?_ _) | (with_reducible refine Below.nalloc ?_ _) | (with_reducible refine Below.ndrew ?_) | (with_reducible refine Below.ndrewN ?_ _) | (with_reducible refine Below.next ?_ (by assumption)) | (with_reducible refine Below.next ?_ (OldAs.below (by assumption))) | (focus (first | (simp; done) | (simp; omega)))))⟩
    · go_enter Try.func116, Try.ntmps116
      go_wp2
      go_ret
      exact ⟨by rw [HV.out]; simp [h1, h2], by (repeat (first | (with_reducible exact Below.refl _ _) | (with_reducible refine Below.nset ?_ ?_ _) | (with_reducible refine Below.nalloc ?_ _) | (with_reducible refine Below.ndrew ?_) | (with_reducible refine Below.ndrewN ?_ _) | (with_reducible refine Below.next ?_ (by assumption)) | (with_reducible refine Below.next ?_ (OldAs.below (by assumption))) | (focus (first | (simp; done) | (simp; omega)))))⟩
  · go_enter Try.func116, Try.ntmps116
    go_wp2
    go_ret
    exact ⟨by rw [HV.out]; simp; omega, by (repeat (first | (with_reducible exact Below.refl _ _) | (with_reducible refine Below.nset ?_ ?_ _) | (with_reducible refine Below.nalloc ?_ _) | (with_reducible refine Below.ndrew ?_) | (with_reducible refine Below.ndrewN ?_ _) | (with_reducible refine Below.next ?_ (by assumption)) | (with_reducible refine Below.next ?_ (OldAs.below (by assumption))) | (focus (first | (simp; done) | (simp; omega)))))⟩
theorem allowed11_any (t : Trial) (by_ : Int) (b : Nat) (w : World) (ho : TrialOk t) (b0 : 0 ≤ by_) (b1 : by_ ≤ 1000) (hb : w.cell? ⟨b, 0, none⟩ = some (.int .i64 by_)) :
    Calls Try.prog 115 #[.agg #[.int .i64 t.source, .int .i64 t.wet.lo, .int .i64 t.wet.hi, .int .i64 t.dry.lo, .int .i64 t.dry.hi], .pointer (some ⟨b, 0, none⟩)] w fun e w' => e = .returned (.bool (!allowsB t by_)) ∧ Below w.heap.size w w' := by
  have hb2 : b < w.heap.size := World.block_lt_of_cell? w _ hb
  have HC := hidI (fun W : World => allows_any t by_ W ho b0 b1)
  go_enter Try.func115, Try.ntmps115
  go_wp2_with (first | (go_at_call 116; refine Calls.mono (HC.out _) ?_; rintro e w' ⟨rfl, hb⟩; ((first | (with_reducible have HB2 := Below.next HB hb) | (with_reducible have HB2 := Below.next (Below.nalloc HB _) hb) | have HB2 := hb); (try clear hc hf hz hz1 hz2 hn1 hn2); obtain ⟨hc, hf, hz, hz1, hz2, hn1, hn2⟩ := bcell3 HB2; (try clear HB); have HB := HB2; clear HB2; have hbk := hb; clear hb)))
  go_ret
  exact ⟨rfl, by (repeat (first | (with_reducible exact Below.refl _ _) | (with_reducible refine Below.nset ?_ ?_ _) | (with_reducible refine Below.nalloc ?_ _) | (with_reducible refine Below.ndrew ?_) | (with_reducible refine Below.ndrewN ?_ _) | (with_reducible refine Below.next ?_ (by assumption)) | (with_reducible refine Below.next ?_ (OldAs.below (by assumption))) | (focus (first | (simp; done) | (simp; omega)))))⟩
end Go.Proofs.Ytcgokimagimamaa
