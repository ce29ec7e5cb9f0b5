
/- Layer 1, the program: what trials tell. What each call answers. -/
import Derived.Test.YtcgokimagimamaaWareG
import Derived.Test.YtcgokimagimamaaSeqI
namespace Go.Proofs.Ytcgokimagimamaa
open Go.RowKit
attribute [local go_sem] errIf_true errIf_false add_none
set_option maxHeartbeats 1000000
set_option maxRecDepth 100000
set_option linter.unusedSimpArgs false
set_option linter.unusedVariables false
theorem allowed_any (r : Rng) (A : Option Addr) (m c : Nat) (w : World) :
    Calls Try.prog 93 #[.agg #[.int .i64 r.lo, .int .i64 r.hi], .slice A m c] w fun e w' => e = .returned (.func (.func 114) #[] #[.pointer (some ⟨w.heap.size, 0, none⟩), .pointer (some ⟨w.heap.size + 1, 0, none⟩)]) ∧
      (w.alloc (.cells #[.int .i64 r.lo, .int .i64 r.hi] 23)).alloc (.cells #[.slice A m c] 55) = w' := by
  go_enter Try.func93, Try.ntmps93
  go_wp2
  go_ret
  exact ⟨rfl, rfl⟩
theorem left_any (r : Rng) (l : List Trial) (v : Value) (w : World) (hR : Rd 5 Trial.cells w v l) (hok : ∀ t ∈ l, TrialOk t) (hlen : l.length ≤ 1000000000000000000) (b0 : 0 ≤ r.lo) (b1 : r.hi ≤ 1000) (b2 : r.lo ≤ r.hi + 1) (hlen2 : (leftL r l).length ≤ 1000000000) :
    Calls Try.prog 68 #[.agg #[.int .i64 r.lo, .int .i64 r.hi], v] w fun e w' => e = .returned (.tuple #[.agg #[.int .i64 ((leftS r l).1.lo), .int .i64 ((leftS r l).1.hi)], .bool (leftS r l).2]) ∧ Below w.heap.size w w' := by
  obtain ⟨A0, c0, rfl, hc0⟩ := hR.form
  have HR := hidI hR
  clear hR
  go_enter Try.func68, Try.ntmps68
  go_wp2_with (first | (go_at_call 93; refine Calls.mono (allowed_any _ _ _ _ _) ?_; rintro e w' ⟨rfl, rfl⟩))
  refine Calls.mono (CollectI _ _ (fun k => k < _) _ _ _ (allowed_iter r l _ _ (.slice A0 l.length c0) _ ?ga ?gb ?gc ?gd hok hlen b0 b1 b2) (Keep.refl _ _) (fun k h => h) hlen2 (ent _ Try.func114 (by kernel_rfl) rfl)) ?_
  case ga => go_simp
  case gb => go_simp
  case gc => go_simp
  case gd => exact HR.out.below (by (repeat (first | (with_reducible exact Below.refl _ _) | (with_reducible refine Below.nset ?_ ?_ _) | (with_reducible refine Below.nalloc ?_ _) | (with_reducible refine Below.ndrew ?_) | (with_reducible refine Below.ndrewN ?_ _) | (with_reducible refine Below.next ?_ (by assumption)) | (with_reducible refine Below.next ?_ (OldAs.below (by assumption))) | (focus (first | (simp; done) | (simp; omega))))))
  rintro e w3 ⟨v, rfl, ho, hb⟩
  have HO := hidI ho
  obtain ⟨A1, c1, rfl, hc1⟩ := ho.form
  clear ho
  ((first | (with_reducible have HB2 := Below.next HB hb) | (with_reducible have HB2 := Below.next (Below.nalloc HB _) hb) | have HB2 := hb); (try clear hc hf hz hz1 hz2 hn1 hn2); obtain ⟨hc, hf, hz, hz1, hz2, hn1, hn2⟩ := bcell3 HB2; (try clear HB); have HB := HB2; clear HB2; have hbk := hb; clear hb)
  have HRD := hidI (HO.out.rd (fun _ => rfl))
  have HSL : Hid (leftS r l = match leftL r l with | [] => (zR, false) | x :: t => (⟨x, (x :: t).getLast (by simp)⟩, true)) := rfl
  generalize leftL r l = xs at *
  cases xs with
  | nil =>
    have HV : Hid (leftS r l = (zR, false)) := HSL.out
    go_wp2
    exact (bodyPost_ret (v := .tuple #[.agg #[.int .i64 0, .int .i64 0], .bool false]) (by simp [results, Try.results68, go_sem, hc, hf]) rfl) ⟨by rw [HV.out]; rfl, by (repeat (first | (with_reducible exact Below.refl _ _) | (with_reducible refine Below.nset ?_ ?_ _) | (with_reducible refine Below.nalloc ?_ _) | (with_reducible refine Below.ndrew ?_) | (with_reducible refine Below.ndrewN ?_ _) | (with_reducible refine Below.next ?_ (by assumption)) | (with_reducible refine Below.next ?_ (OldAs.below (by assumption))) | (focus (first | (simp; done) | (simp; omega)))))⟩
  | cons x t =>
    have HV : Hid (leftS r l = (⟨x, (x :: t).getLast (by simp)⟩, true)) := HSL.out
    obtain ⟨bb, oo, cc, hv, hcc, hbb, hcell⟩ := HRD.out.at_ (k := 0) (by simp)
    obtain ⟨bb2, oo2, cc2, hv2, hcc2, hbb2, hcell2⟩ := HRD.out.at_ (k := (x :: t).length - 1) (by simp)
    injection hv with hv _ _
    injection hv2 with hv2 _ _
    subst hv
    injection hv2 with hv2
    injection hv2 with e1 e2
    subst e1 e2
    have q0 := hcell 0 _ rfl
    have q1 := hcell2 0 _ rfl
    rw [← List.getLast_eq_getElem (by simp)] at q1
    simp only [List.getElem_cons_zero, Nat.zero_mul, Nat.mul_one, Nat.add_zero] at q0 q1
    generalize (x :: t).getLast (by simp) = y at *
    clear hcell hcell2 HSL
    simp only [List.length_cons, Nat.add_sub_cancel] at q1 hlen2
    have WL : IntKind.i64.wrap (t.length : Int) = (t.length : Int) := IntWalk.i64_in _ (by omega)
    have WN : ((t.length : Int)).toNat = t.length := by omega
    have W0 : (0 : Int) ≤ (t.length : Int) := by omega
    have hcc3 : t.length + 1 ≤ cc := by simpa using hcc
    go_wp2_with fail
    go_region
    go_wp2
    exact (bodyPost_ret (v := .tuple #[.agg #[.int .i64 x, .int .i64 y], .bool true]) (by simp only [results, Try.results68]; go_simp; (repeat' constructor)) rfl) ⟨by rw [HV.out], by (repeat (first | (with_reducible exact Below.refl _ _) | (with_reducible refine Below.nset ?_ ?_ _) | (with_reducible refine Below.nalloc ?_ _) | (with_reducible refine Below.ndrew ?_) | (with_reducible refine Below.ndrewN ?_ _) | (with_reducible refine Below.next ?_ (by assumption)) | (with_reducible refine Below.next ?_ (OldAs.below (by assumption))) | (focus (first | (simp; done) | (simp; omega)))))⟩
theorem leftL_len (l : List Trial) : ∀ (n : Nat) (lo : Int), (allowedL l n lo).length ≤ n
  | 0, _ => by simp [allowedL]
  | n + 1, lo => by
    have := leftL_len l n (lo + 1)
    rw [allowedL_succ]; split <;> simp <;> omega
theorem Told_any (t : Trial) (w : World) :
    Calls Try.prog 60 #[.agg #[.int .i64 t.source, .int .i64 t.wet.lo, .int .i64 t.wet.hi, .int .i64 t.dry.lo, .int .i64 t.dry.hi]] w fun e w' => e = .returned (.tuple #[.agg #[.int .i64 ((toldS t).1.lo), .int .i64 ((toldS t).1.hi)], .int .i64 ((toldS t).2)]) ∧ Below w.heap.size w w' := by
  by_cases ho : okTrial t = true
  · have hok := okTrial_iff.1 ho
    have hll : (leftL ⟨0, 200⟩ [t]).length ≤ 1000000000 := Nat.le_trans (leftL_len _ _ _) (by decide)
    have HL := hidI (fun (v : Value) (W : World) (h : Rd 5 Trial.cells W v [t]) => left_any ⟨0, 200⟩ [t] v W h (by intro x hx; simp at hx; subst hx; exact hok) (by simp) (by simp) (by simp) (by simp) hll)
    have HV : Hid (toldS t = if (leftS ⟨0, 200⟩ [t]).2 then ((leftS ⟨0, 200⟩ [t]).1, 0) else (zR, 3)) := by unfold Hid; simp [toldS, ho]
    clear hok hll
    generalize leftS ⟨0, 200⟩ [t] = q at *
    obtain ⟨⟨qa, qb⟩, qc⟩ := q
    dsimp only at HV
    have HL2 : Hid (∀ (v : Value) (W : World), Rd 5 Trial.cells W v [t] → Calls Try.prog 68 #[.agg #[.int .i64 0, .int .i64 200], v] W fun e w' => e = .returned (.tuple #[.agg #[.int .i64 qa, .int .i64 qb], .bool qc]) ∧ Below W.heap.size W w') := HL.out
    clear HL
    go_enter Try.func60, Try.ntmps60
    go_wp2_with (first | (go_at_call 69; refine Calls.mono (isTrial_any t _) ?_; rintro e w' ⟨rfl, hb⟩; ((first | (with_reducible have HB2 := Below.next HB hb) | (with_reducible have HB2 := Below.next (Below.nalloc HB _) hb) | have HB2 := hb); (try clear hc hf hz hz1 hz2 hn1 hn2); obtain ⟨hc, hf, hz, hz1, hz2, hn1, hn2⟩ := bcell3 HB2; (try clear HB); have HB := HB2; clear HB2; have hbk := hb; clear hb)))
    refine Calls.mono (HL2.out _ _ ?_) ?_
    · refine ⟨_, 1, rfl, Nat.le_refl _, fun _ => ⟨w'.heap.size, 0, rfl, by simp, fun i x hi j u hu => ?_⟩⟩
      have hi0 : i = 0 := by have := (List.getElem?_eq_some_iff.1 hi).1; simp at this; omega
      subst hi0
      simp at hi; subst hi
      have hj : j < 5 := (List.getElem?_eq_some_iff.1 hu).1
      have : j = 0 ∨ j = 1 ∨ j = 2 ∨ j = 3 ∨ j = 4 := by omega
      rcases this with rfl | rfl | rfl | rfl | rfl <;> (simp [Trial.cells] at hu; subst hu; go_simp)
    rintro e w' ⟨rfl, hb⟩
    ((first | (with_reducible have HB2 := Below.next HB hb) | (with_reducible have HB2 := Below.next (Below.nalloc HB _) hb) | have HB2 := hb); (try clear hc hf hz hz1 hz2 hn1 hn2); obtain ⟨hc, hf, hz, hz1, hz2, hn1, hn2⟩ := bcell3 HB2; (try clear HB); have HB := HB2; clear HB2; have hbk := hb; clear hb)
    cases qc with
    | true =>
      go_wp2
      exact (bodyPost_ret (v := .tuple #[.agg #[.int .i64 qa, .int .i64 qb], .int .i64 0]) (by simp [results, Try.results60, go_sem, hc, hf, hz, hz1, hz2]) rfl) ⟨by rw [HV.out]; rfl, by (repeat (first | (with_reducible exact Below.refl _ _) | (with_reducible refine Below.nset ?_ ?_ _) | (with_reducible refine Below.nalloc ?_ _) | (with_reducible refine Below.ndrew ?_) | (with_reducible refine Below.ndrewN ?_ _) | (with_reducible refine Below.next ?_ (by assumption)) | (with_reducible refine Below.next ?_ (OldAs.below (by assumption))) | (focus (first | (simp; done) | (simp; omega)))))⟩
    | false =>
      go_wp2
      exact (bodyPost_ret (v := .tuple #[.agg #[.int .i64 0, .int .i64 0], .int .i64 3]) (by simp [results, Try.results60, go_sem, hc, hf, hz, hz1, hz2]) rfl) ⟨by rw [HV.out]; rfl, by (repeat (first | (with_reducible exact Below.refl _ _) | (with_reducible refine Below.nset ?_ ?_ _) | (with_reducible refine Below.nalloc ?_ _) | (with_reducible refine Below.ndrew ?_) | (with_reducible refine Below.ndrewN ?_ _) | (with_reducible refine Below.next ?_ (by assumption)) | (with_reducible refine Below.next ?_ (OldAs.below (by assumption))) | (focus (first | (simp; done) | (simp; omega)))))⟩
  · have ho' : okTrial t = false := by simpa using ho
    have HV : Hid (toldS t = (zR, 13)) := by unfold Hid; simp [toldS, ho']
    clear ho
    go_enter Try.func60, Try.ntmps60
    go_wp2_with (first | (go_at_call 69; refine Calls.mono (isTrial_any t _) ?_; rintro e w' ⟨rfl, hb⟩; ((first | (with_reducible have HB2 := Below.next HB hb) | (with_reducible have HB2 := Below.next (Below.nalloc HB _) hb) | have HB2 := hb); (try clear hc hf hz hz1 hz2 hn1 hn2); obtain ⟨hc, hf, hz, hz1, hz2, hn1, hn2⟩ := bcell3 HB2; (try clear HB); have HB := HB2; clear HB2; have hbk := hb; clear hb)))
    exact (bodyPost_ret (v := .tuple #[.agg #[.int .i64 0, .int .i64 0], .int .i64 13]) (by simp [results, Try.results60, go_sem, hc, hf]) rfl) ⟨by rw [HV.out]; rfl, by (repeat (first | (with_reducible exact Below.refl _ _) | (with_reducible refine Below.nset ?_ ?_ _) | (with_reducible refine Below.nalloc ?_ _) | (with_reducible refine Below.ndrew ?_) | (with_reducible refine Below.ndrewN ?_ _) | (with_reducible refine Below.next ?_ (by assumption)) | (with_reducible refine Below.next ?_ (OldAs.below (by assumption))) | (focus (first | (simp; done) | (simp; omega)))))⟩
end Go.Proofs.Ytcgokimagimamaa
