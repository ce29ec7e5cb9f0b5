/- Written by a program of mine out of the translation: what functions answer; Lean checks it. -/
import Derived.Test.YtcgokimagimamaaMRowCh1
import Derived.Test.YtcgokimagimamaaGH
namespace Go.Proofs.Ytcgokimagimamaa.F
open Go.RowKit Go.Proofs.YtcgokimagimamaaW.PrintWords Go.Proofs.YtcgokimagimamaaW.PrintLast Go.Proofs.YtcgokimagimamaaW.PrintMore
attribute [local go_sem] max2_int min2_int max_two min_two max_three min_three max_four min_four   -- for this text's walks alone
set_option linter.unusedVariables false
set_option linter.unusedSimpArgs false
/-! ### potbankref01_Check: function 44 -/
mutual
def potbankref01_Check.j0 : Nat → Bool → List (S25) → List (S43) → Option (Int)
  | 0, _, _, _ => none
  | k + 1, x14, x485000, x485001 => if x14 = true then (some 12) else (potbankref01_Check.l0 k 0 x485000 x485001)
def potbankref01_Check.l0 : Nat → Int → List (S25) → List (S43) → Option (Int)
  | 0, _, _, _ => none
  | k + 1, x3, x485000, x485001 => if x3 < (x485000.length : Int) then (if 0 ≤ x3 then ((potbankref01_CheckShape.f ((rd_T25 x485000 x3).f0) ((rd_T25 x485000 x3).f1.f0) ((rd_T25 x485000 x3).f1.f1) ((rd_T25 x485000 x3).f2.f0) ((rd_T25 x485000 x3).f2.f1) ((rd_T25 x485000 x3).f3.f0) ((rd_T25 x485000 x3).f3.f1) ((rd_T25 x485000 x3).f4) ((rd_T25 x485000 x3).f5.f0) ((rd_T25 x485000 x3).f5.f1) ((rd_T25 x485000 x3).f6)).bind fun t486 => (if t486 = 0 then (if x3 > 0 then (if 0 ≤ (wrap64 (x3 - 1)) then (if (wrap64 (x3 - 1)) < (x485000.length : Int) then (if ((rd_T25 x485000 (wrap64 (x3 - 1))).f0) ≥ ((rd_T25 x485000 x3).f0) then (some 12) else (potbankref01_Check.l0 k (wrap64 (x3 + 1)) x485000 x485001)) else (none)) else (none)) else (potbankref01_Check.l0 k (wrap64 (x3 + 1)) x485000 x485001)) else (some 12))) else (none)) else (potbankref01_Check.l1 k 0 x485000 x485001)
def potbankref01_Check.l1 : Nat → Int → List (S25) → List (S43) → Option (Int)
  | 0, _, _, _ => none
  | k + 1, x4, x485000, x485001 => if x4 < (x485001.length : Int) then (if 0 ≤ x4 then ((potbankref01_CheckBody.f ((rd_T43 x485001 x4).f0) ((rd_T43 x485001 x4).f1.f0) ((rd_T43 x485001 x4).f1.f1) ((rd_T43 x485001 x4).f2.f0) ((rd_T43 x485001 x4).f2.f1) ((rd_T43 x485001 x4).f3.f0) ((rd_T43 x485001 x4).f3.f1)).bind fun t490 => (if t490 = 0 then (if x4 > 0 then (if 0 ≤ (wrap64 (x4 - 1)) then (if (wrap64 (x4 - 1)) < (x485001.length : Int) then (if ((rd_T43 x485001 (wrap64 (x4 - 1))).f0) ≥ ((rd_T43 x485001 x4).f0) then (some 12) else (potbankref01_Check.l1 k (wrap64 (x4 + 1)) x485000 x485001)) else (none)) else (none)) else (potbankref01_Check.l1 k (wrap64 (x4 + 1)) x485000 x485001)) else (some 12))) else (none)) else (some 0)
end
def potbankref01_Check.f (k : Nat) (l0_0 : List (S25)) (l0_1 : List (S43)) : Option (Int) := if (l0_0.length : Int) > 40 then (potbankref01_Check.j0 k true l0_0 l0_1) else (potbankref01_Check.j0 k (decide ((l0_1.length : Int) > 12)) l0_0 l0_1)
theorem potbankref01_Check.mono_l : ∀ k, (∀ y0 y1 y2, LeO (potbankref01_Check.j0 k y0 y1 y2) (potbankref01_Check.j0 (k + 1) y0 y1 y2)) ∧ (∀ y0 y1 y2, LeO (potbankref01_Check.l0 k y0 y1 y2) (potbankref01_Check.l0 (k + 1) y0 y1 y2)) ∧ (∀ y0 y1 y2, LeO (potbankref01_Check.l1 k y0 y1 y2) (potbankref01_Check.l1 (k + 1) y0 y1 y2))
  | 0 => ⟨fun _ _ _ r h => by simp [potbankref01_Check.j0] at h, fun _ _ _ r h => by simp [potbankref01_Check.l0] at h, fun _ _ _ r h => by simp [potbankref01_Check.l1] at h⟩
  | k + 1 => by
    obtain ⟨ih0, ih1, ih2⟩ := potbankref01_Check.mono_l k
    refine ⟨?_, ?_, ?_⟩
    · intro y0 y1 y2
      unfold potbankref01_Check.j0
      repeat' first
      | (with_reducible exact ih0 _ _ _)
      | (with_reducible exact ih1 _ _ _)
      | (with_reducible exact ih2 _ _ _)
      | (with_reducible exact LeO.refl _)
      | (with_reducible exact LeO.none _)
      | (with_reducible refine LeO.ite ?_ ?_)
      | (with_reducible refine LeO.bind ?_ (fun _ => ?_))
      | exact ih0 _ _ _
      | exact ih1 _ _ _
      | exact ih2 _ _ _
      | exact LeO.none _
      | refine LeO.ite ?_ ?_
      | refine LeO.bind ?_ (fun _ => ?_)
    · intro y0 y1 y2
      unfold potbankref01_Check.l0
      repeat' first
      | (with_reducible exact ih0 _ _ _)
      | (with_reducible exact ih1 _ _ _)
      | (with_reducible exact ih2 _ _ _)
      | (with_reducible exact LeO.refl _)
      | (with_reducible exact LeO.none _)
      | (with_reducible refine LeO.ite ?_ ?_)
      | (with_reducible refine LeO.bind ?_ (fun _ => ?_))
      | exact ih0 _ _ _
      | exact ih1 _ _ _
      | exact ih2 _ _ _
      | exact LeO.none _
      | refine LeO.ite ?_ ?_
      | refine LeO.bind ?_ (fun _ => ?_)
    · intro y0 y1 y2
      unfold potbankref01_Check.l1
      repeat' first
      | (with_reducible exact ih0 _ _ _)
      | (with_reducible exact ih1 _ _ _)
      | (with_reducible exact ih2 _ _ _)
      | (with_reducible exact LeO.refl _)
      | (with_reducible exact LeO.none _)
      | (with_reducible refine LeO.ite ?_ ?_)
      | (with_reducible refine LeO.bind ?_ (fun _ => ?_))
      | exact ih0 _ _ _
      | exact ih1 _ _ _
      | exact ih2 _ _ _
      | exact LeO.none _
      | refine LeO.ite ?_ ?_
      | refine LeO.bind ?_ (fun _ => ?_)
theorem potbankref01_Check.mono : ∀ a0 a1 k, LeO (potbankref01_Check.f k a0 a1) (potbankref01_Check.f (k + 1) a0 a1) := by
  intro a0 a1 k
  obtain ⟨ih0, ih1, ih2⟩ := potbankref01_Check.mono_l k
  unfold potbankref01_Check.f
  repeat' first
      | (with_reducible exact ih0 _ _ _)
      | (with_reducible exact ih1 _ _ _)
      | (with_reducible exact ih2 _ _ _)
      | (with_reducible exact LeO.refl _)
      | (with_reducible exact LeO.none _)
      | (with_reducible refine LeO.ite ?_ ?_)
      | (with_reducible refine LeO.bind ?_ (fun _ => ?_))
      | exact ih0 _ _ _
      | exact ih1 _ _ _
      | exact ih2 _ _ _
      | exact LeO.none _
      | refine LeO.ite ?_ ?_
      | refine LeO.bind ?_ (fun _ => ?_)
def potbankref01_Check.T6 : Bool × List (List Nat × List Nat) := (true, [([], []), ([0], [0]), ([], []), ([1, 2], [1, 2]), ([3], [3]), ([4], [4]), ([5], [5]), ([6, 5], [6]), ([7], [7]), ([8, 7], [7, 8]), ([9, 7, 7], [7, 9]), ([10], [10]), ([11, 10], [10, 11]), ([10], [10]), ([13, 10], [10, 13]), ([12, 14, 10], [10, 12, 14]), ([15, 10], [10, 15]), ([16, 10], [10, 16]), ([10], [10]), ([18, 10], [10, 18]), ([10], [10]), ([19, 20, 10], [10, 19, 20]), ([21, 10], [10, 21]), ([22, 10], [10, 22]), ([17, 23, 10], [10, 17, 23]), ([10, 24, 7], [7, 10, 24]), ([7, 25], [7, 25])])
def potbankref01_Check.B6 : List Nat := [0, 1, 0, 7, 15, 31, 63, 127, 255, 511, 1023, 2047, 4095, 2047, 10239, 32767, 65535, 131071, 2047, 264191, 2047, 1837055, 3934207, 8128511, 16777215, 33554431, 67108863]
theorem potbankref01_Check.tab6 : rtab .any (opsOf Try.f44 6) = potbankref01_Check.T6 := by kernel_rfl
theorem potbankref01_Check.bits6 : waitsOk potbankref01_Check.T6.2 potbankref01_Check.B6 = true := by kernel_rfl
def potbankref01_Check.T11 : Bool × List (List Nat × List Nat) := (true, [([], []), ([0], [0]), ([], []), ([1, 2], [1, 2]), ([3], [3]), ([4], [4]), ([5], [5]), ([6, 5], [6]), ([7], [7]), ([8, 7], [7, 8]), ([9, 7, 7], [7, 9]), ([10], [10]), ([11, 10], [10, 11]), ([10], [10]), ([13, 10], [10, 13]), ([12, 14, 10], [10, 12, 14]), ([15, 10], [10, 15]), ([16, 10], [10, 16]), ([10], [10]), ([18, 10], [10, 18]), ([10], [10]), ([19, 20, 10], [10, 19, 20]), ([21, 10], [10, 21]), ([22, 10], [10, 22]), ([17, 23, 10], [10, 17, 23]), ([10, 24, 7], [7, 10, 24]), ([7, 25], [7, 25])])
def potbankref01_Check.B11 : List Nat := [0, 1, 0, 7, 15, 31, 63, 127, 255, 511, 1023, 2047, 4095, 2047, 10239, 32767, 65535, 131071, 2047, 264191, 2047, 1837055, 3934207, 8128511, 16777215, 33554431, 67108863]
theorem potbankref01_Check.tab11 : rtab .any (opsOf Try.f44 11) = potbankref01_Check.T11 := by kernel_rfl
theorem potbankref01_Check.bits11 : waitsOk potbankref01_Check.T11.2 potbankref01_Check.B11 = true := by kernel_rfl
set_option maxHeartbeats 8000000 in
set_option maxRecDepth 100000 in
theorem potbankref01_Check.calls (k : Nat) (A0_0 : Option Addr) (c0_0 : Nat) (l0_0 : List (S25)) (A0_1 : Option Addr) (c0_1 : Nat) (l0_1 : List (S43)) (r : Int) (w : World) (hr0_0 : Kd.C k25 w A0_0 l0_0.length l0_0) (hc0_0 : l0_0.length ≤ c0_0) (hr0_1 : Kd.C k43 w A0_1 l0_1.length l0_1) (hc0_1 : l0_1.length ≤ c0_1) (h : potbankref01_Check.f k l0_0 l0_1 = some r) :
    Calls Try.prog 44 #[.agg #[.slice A0_0 l0_0.length c0_0, .slice A0_1 l0_1.length c0_1]] w fun e w' => e = .returned (.int .i64 r) ∧ Below w.heap.size w w' := by
  have hu66 := Try.underlying66
  have hu25 := Try.underlying25
  have hu43 := Try.underlying43
  have HR0_0 := Aside0.mk hr0_0
  have HC0_0 := Aside0.mk hc0_0
  clear hr0_0 hc0_0
  have HR0_1 := Aside0.mk hr0_1
  have HC0_1 := Aside0.mk hc0_1
  clear hr0_1 hc0_1
  have HB := Aside0.mk (Below.refl w.heap.size w)
  have H : (if (l0_0.length : Int) > 40 then (potbankref01_Check.j0 k true l0_0 l0_1) else (potbankref01_Check.j0 k (decide ((l0_1.length : Int) > 12)) l0_0 l0_1)) = some r := h
  clear h
  have HC2 := Aside0.mk H
  clear H
  go_enter Try.func44, Try.ntmps44
  go_upto_region 1 with (first | ((with_reducible refine gate_dst (N := 1) rfl ?_); (try (refine gate_guard (by rfl) ?_; dsimp only)); refine box_event ?hg (N := 1) ?hd (cs := #[.slice A0_0 l0_0.length c0_0, .slice A0_1 l0_1.length c0_1]) (t := 66) ?hr ?_; (case hd => rfl); (case hg => rfl); (case hr => first | (go_simp; done) | (go_simp; rfl)); intro gb484 hg w3 hbox hb; have BK484 := Aside0.mk (hbox); have GW484 := Aside0.mk ((by rw [hg]; exact (below_size (by repeat (first | (with_reducible first | exact HB.out | apply below_alloc | apply pw_below_drewN | apply below_drew1) | exact HB.out))) : w.heap.size ≤ gb484)); have GE484 := Aside0.mk ((by rw [hg]; exact (below_size (by repeat (first | (with_reducible first | exact HB.out | apply below_alloc | apply pw_below_drewN | apply below_drew1) | exact HB.out))) : w.heap.size ≤ gb484)); replace HB := Aside0.mk (below_step (by repeat (first | (with_reducible first | exact HB.out | apply below_alloc | apply pw_below_drewN | apply below_drew1) | exact HB.out)) hb); clear hb hbox hg))
  (try simp only [Act.put, List.setIfInBounds_toArray, List.set_cons_zero, List.set_cons_succ])
  go_cut [14] (fun v14 wc => ∃ (kq : Nat) (x14_1 : Bool), v14 = .bool x14_1 ∧ Aside0 (potbankref01_Check.j0 kq x14_1 l0_0 l0_1 = some r) ∧ Aside0 (kq ≤ k) ∧ Aside0 (wc.heap[gb484]? = some (.cells #[(.slice A0_0 l0_0.length c0_0), (.slice A0_1 l0_1.length c0_1)] 66 (0, 0))) ∧ Aside0 (Below w.heap.size w wc))
  case first =>
    have H := HC2.out
    clear HC2
    by_cases c4 : (l0_0.length : Int) > 40
    · rw [if_pos c4] at H
      have c4b0 : decide (40 < (l0_0.length : Int)) = true := decide_eq_true c4
      have c4b1 : decide (40 < l0_0.length) = true := decide_eq_true (by omega)
      clear c4
      (first | rw [c4b0] | (simp only [i64_w, i32_w]; rw [c4b0]) | skip)
      have H' := Aside0.mk H
      clear H
      have hcz5_0 : w3.cell? ⟨gb484, 0, none⟩ = some (.slice A0_0 l0_0.length c0_0) := (blk_cell BK484.out 0).trans rfl
      have hcz5_1 : w3.cell? ⟨gb484, 1, none⟩ = some (.slice A0_1 l0_1.length c0_1) := (blk_cell BK484.out 1).trans rfl
      have hfz5_0 := blk_frozen BK484.out 0
      have hfz5_1 := blk_frozen BK484.out 1
      go_wp2
      go_meet
      case rel => exact ⟨_, (true), (by first | rfl | (simp; done) | (simp [*]; done)), H', ⟨by first | omega | exact Nat.le_refl _⟩, ⟨by (with_reducible repeat first | apply blk_drewN | apply blk_drew | apply blk_alloc); exact BK484.out⟩, ⟨by repeat (first | (with_reducible first | exact HB.out | apply below_alloc | apply pw_below_drewN | apply below_drew1 | refine below_set ?_ GE484.out) | exact HB.out)⟩⟩
    · rw [if_neg c4] at H
      have c4b0 : decide (40 < (l0_0.length : Int)) = false := decide_eq_false c4
      have c4b1 : decide (40 < l0_0.length) = false := decide_eq_false (by omega)
      clear c4
      (first | rw [c4b0] | (simp only [i64_w, i32_w]; rw [c4b0]) | skip)
      have H' := Aside0.mk H
      clear H
      have hcz6_0 : w3.cell? ⟨gb484, 0, none⟩ = some (.slice A0_0 l0_0.length c0_0) := (blk_cell BK484.out 0).trans rfl
      have hcz6_1 : w3.cell? ⟨gb484, 1, none⟩ = some (.slice A0_1 l0_1.length c0_1) := (blk_cell BK484.out 1).trans rfl
      have hfz6_0 := blk_frozen BK484.out 0
      have hfz6_1 := blk_frozen BK484.out 1
      go_wp2
      go_meet
      case rel => exact ⟨_, (decide ((l0_1.length : Int) > 12)), (by first | rfl | (simp; done) | (simp [*]; done)), H', ⟨by first | omega | exact Nat.le_refl _⟩, ⟨by (with_reducible repeat first | apply blk_drewN | apply blk_drew | apply blk_alloc); exact BK484.out⟩, ⟨by repeat (first | (with_reducible first | exact HB.out | apply below_alloc | apply pw_below_drewN | apply below_drew1 | refine below_set ?_ GE484.out) | exact HB.out)⟩⟩
  case rest =>
    clear HC2
    try clear p2
    try clear c4
    try clear c4b0
    try clear c4b1
    try clear hcz5_0
    try clear hcz5_1
    try clear hcz6_0
    try clear hcz6_1
    try clear hfz5_0
    try clear hfz5_1
    try clear hfz6_0
    try clear hfz6_1
    obtain ⟨kq, x14_1, rfl, HA, HJ1, BK484, HB⟩ := hcut
    cases kq with
    | zero => exact absurd HA.out (by simp [potbankref01_Check.j0])
    | succ kj1 =>
      have H := HA.out
      clear HA
      simp only [potbankref01_Check.j0] at H
      by_cases c7 : x14_1 = true
      · subst c7
        have H1 : (some 12) = some r := by rw [if_pos rfl] at H; exact H
        clear H
        have H := H1
        clear H1
        obtain rfl := Option.some.inj H
        go_wp2
        go_ret
        exact ⟨by first | rfl | (simp [errW_none, errW_some] <;> rfl) | (simp [*, errW_none, errW_some] <;> rfl), by repeat (first | (with_reducible first | exact HB.out | apply below_alloc | apply pw_below_drewN | apply below_drew1 | refine below_set ?_ GE484.out) | exact HB.out)⟩
      · replace c7 := Bool.eq_false_iff.mpr c7
        subst c7
        have H1 : (potbankref01_Check.l0 kj1 0 l0_0 l0_1) = some r := by rw [if_neg (show ¬ (false = true) by decide)] at H; exact H
        clear H
        have H := H1
        clear H1
        have H' := Aside0.mk H
        clear H
        go_wp2
        go_loopg [3] kj1 (fun kq v3 w' => ∃ (x3_2 : Int), v3 = .int .i64 x3_2 ∧ Aside0 (potbankref01_Check.l0 kq x3_2 l0_0 l0_1 = some r) ∧ Aside0 (kq ≤ kj1) ∧ Aside0 (w'.heap[gb484]? = some (.cells #[(.slice A0_0 l0_0.length c0_0), (.slice A0_1 l0_1.length c0_1)] 66 (0, 0))) ∧ Aside0 (Below w.heap.size w w'))
        case atStart => exact ⟨(0), (by first | rfl | (simp; done) | (simp [*]; done)), H', ⟨Nat.le_refl _⟩, ⟨by (with_reducible repeat first | apply blk_drewN | apply blk_drew | apply blk_alloc); exact BK484.out⟩, ⟨by repeat (first | (with_reducible first | exact HB.out | apply below_alloc | apply pw_below_drewN | apply below_drew1 | refine below_set ?_ GE484.out) | exact HB.out)⟩⟩
        case round =>
          clear H'
          try clear p2
          try clear c4
          try clear c4b0
          try clear c4b1
          try clear c7
          try clear hcz5_0
          try clear hcz5_1
          try clear hcz6_0
          try clear hcz6_1
          try clear hfz5_0
          try clear hfz5_1
          try clear hfz6_0
          try clear hfz6_1
          try clear p2
          obtain ⟨x3_2, rfl, HA, HK2, BK484, HB⟩ := hrel
          cases gk with
          | zero => exact absurd HA.out (by simp [potbankref01_Check.l0])
          | succ k2 =>
            have H := HA.out
            clear HA
            simp only [potbankref01_Check.l0] at H
            by_cases c8 : x3_2 < (l0_0.length : Int)
            · rw [if_pos c8] at H
              have c8b0 : decide (x3_2 < (l0_0.length : Int)) = true := decide_eq_true c8
              clear c8
              by_cases c9 : 0 ≤ x3_2
              · rw [if_pos c9] at H
                have c9b0 : decide (0 ≤ x3_2) = true := decide_eq_true c9
                clear c9
                replace H := Option.bind_eq_some_iff.mp H
                obtain ⟨t486, A100, H⟩ := H
                replace H : (if t486 = 0 then (if x3_2 > 0 then (if 0 ≤ (wrap64 (x3_2 - 1)) then (if (wrap64 (x3_2 - 1)) < (l0_0.length : Int) then (if ((rd_T25 l0_0 (wrap64 (x3_2 - 1))).f0) ≥ ((rd_T25 l0_0 x3_2).f0) then (some 12) else (potbankref01_Check.l0 k2 (wrap64 (x3_2 + 1)) l0_0 l0_1)) else (none)) else (none)) else (potbankref01_Check.l0 k2 (wrap64 (x3_2 + 1)) l0_0 l0_1)) else (some 12)) = some r := H
                have A10 := Aside0.mk A100
                clear A100
                by_cases c11 : t486 = 0
                · rw [if_pos c11] at H
                  have c11b0 : (t486 == 0) = true := beq_iff_eq.mpr c11
                  have c11b1 : (t486 != 0) = false := bne_eq_false_iff_eq.mpr c11
                  clear c11
                  by_cases c12 : x3_2 > 0
                  · rw [if_pos c12] at H
                    have c12b0 : decide (0 < x3_2) = true := decide_eq_true c12
                    clear c12
                    obtain ⟨ji13, hji13⟩ : ∃ j_ : Int, (wrap64 (x3_2 - 1)) = j_ := ⟨_, rfl⟩
                    replace H : (if 0 ≤ (ji13) then (if (ji13) < (l0_0.length : Int) then (if ((rd_T25 l0_0 (ji13)).f0) ≥ ((rd_T25 l0_0 x3_2).f0) then (some 12) else (potbankref01_Check.l0 k2 (wrap64 (x3_2 + 1)) l0_0 l0_1)) else (none)) else (none)) = some r := by first | (rw [hji13] at H; exact H) | (simp only [hji13] at H ⊢; exact H)
                    (try rw [hji13] at A10)
                    have hji13w : (IntKind.i64.wrap (x3_2 - 1)) = ji13 := (i64_w _).trans hji13
                    by_cases c14 : 0 ≤ (ji13)
                    · rw [if_pos c14] at H
                      have c14b0 : decide (0 ≤ (ji13)) = true := decide_eq_true c14
                      clear c14
                      by_cases c15 : (ji13) < (l0_0.length : Int)
                      · rw [if_pos c15] at H
                        have c15b0 : decide ((ji13) < (l0_0.length : Int)) = true := decide_eq_true c15
                        clear c15
                        by_cases c16 : ((rd_T25 l0_0 (ji13)).f0) ≥ ((rd_T25 l0_0 x3_2).f0)
                        · rw [if_pos c16] at H
                          have c16b0 : decide (((rd_T25 l0_0 x3_2).f0) ≤ ((rd_T25 l0_0 (ji13)).f0)) = true := decide_eq_true c16
                          clear c16
                          obtain rfl := Option.some.inj H
                          have hcz17_0 : wr.cell? ⟨gb484, 0, none⟩ = some (.slice A0_0 l0_0.length c0_0) := (blk_cell BK484.out 0).trans rfl
                          have hcz17_1 : wr.cell? ⟨gb484, 1, none⟩ = some (.slice A0_1 l0_1.length c0_1) := (blk_cell BK484.out 1).trans rfl
                          have hfz17_0 := blk_frozen BK484.out 0
                          have hfz17_1 := blk_frozen BK484.out 1
                          try go_wp2
                          have n0_ := Aside0.mk (blk_drew BK484.out)
                          have n1_ := Aside0.mk (below_drew1 HB.out)
                          clear BK484
                          clear HB
                          have BK484 := n0_
                          have HB := n1_
                          clear n0_ n1_
                          have p485 : 0 ≤ (x3_2 : Int) := of_decide_eq_true (by first | (with_reducible assumption) | assumption)
                          have q485 : x3_2 < (l0_0.length : Int) := of_decide_eq_true (by first | (with_reducible assumption) | assumption)
                          obtain ⟨ad485, e485, hx485_0, hx485_1, hx485_2, hx485_3, hx485_4, hx485_5, hx485_6, hx485_7, hx485_8, hx485_9, hx485_10⟩ := at_T25 HR0_0.out x3_2 p485 q485
                          have hw485_10 := hx485_10
                          have hw485_9 := hx485_9
                          have hw485_8 := hx485_8
                          have hw485_7 := hx485_7
                          have hw485_6 := hx485_6
                          have hw485_5 := hx485_5
                          have hw485_4 := hx485_4
                          have hw485_3 := hx485_3
                          have hw485_2 := hx485_2
                          have hw485_1 := hx485_1
                          have hw485_0 := hx485_0
                          cases e485
                          replace hx485_0 := (HB.out.cell (World.block_lt_of_cell? w _ hx485_0)).trans hx485_0
                          replace hx485_1 := (HB.out.cell (World.block_lt_of_cell? w _ hx485_1)).trans hx485_1
                          replace hx485_2 := (HB.out.cell (World.block_lt_of_cell? w _ hx485_2)).trans hx485_2
                          replace hx485_3 := (HB.out.cell (World.block_lt_of_cell? w _ hx485_3)).trans hx485_3
                          replace hx485_4 := (HB.out.cell (World.block_lt_of_cell? w _ hx485_4)).trans hx485_4
                          replace hx485_5 := (HB.out.cell (World.block_lt_of_cell? w _ hx485_5)).trans hx485_5
                          replace hx485_6 := (HB.out.cell (World.block_lt_of_cell? w _ hx485_6)).trans hx485_6
                          replace hx485_7 := (HB.out.cell (World.block_lt_of_cell? w _ hx485_7)).trans hx485_7
                          replace hx485_8 := (HB.out.cell (World.block_lt_of_cell? w _ hx485_8)).trans hx485_8
                          replace hx485_9 := (HB.out.cell (World.block_lt_of_cell? w _ hx485_9)).trans hx485_9
                          replace hx485_10 := (HB.out.cell (World.block_lt_of_cell? w _ hx485_10)).trans hx485_10
                          replace p485 := eq_true p485
                          replace q485 := eq_true q485
                          have p487 : 0 ≤ ((ji13) : Int) := of_decide_eq_true (by first | (with_reducible assumption) | assumption)
                          have q487 : (ji13) < (l0_0.length : Int) := of_decide_eq_true (by first | (with_reducible assumption) | assumption)
                          obtain ⟨ad487, e487, hx487_0, hx487_1, hx487_2, hx487_3, hx487_4, hx487_5, hx487_6, hx487_7, hx487_8, hx487_9, hx487_10⟩ := at_T25 HR0_0.out (ji13) p487 q487
                          have hw487_10 := hx487_10
                          have hw487_9 := hx487_9
                          have hw487_8 := hx487_8
                          have hw487_7 := hx487_7
                          have hw487_6 := hx487_6
                          have hw487_5 := hx487_5
                          have hw487_4 := hx487_4
                          have hw487_3 := hx487_3
                          have hw487_2 := hx487_2
                          have hw487_1 := hx487_1
                          have hw487_0 := hx487_0
                          obtain rfl : ad485 = ad487 := (by injection e487)
                          replace hx487_0 := (HB.out.cell (World.block_lt_of_cell? w _ hx487_0)).trans hx487_0
                          replace hx487_1 := (HB.out.cell (World.block_lt_of_cell? w _ hx487_1)).trans hx487_1
                          replace hx487_2 := (HB.out.cell (World.block_lt_of_cell? w _ hx487_2)).trans hx487_2
                          replace hx487_3 := (HB.out.cell (World.block_lt_of_cell? w _ hx487_3)).trans hx487_3
                          replace hx487_4 := (HB.out.cell (World.block_lt_of_cell? w _ hx487_4)).trans hx487_4
                          replace hx487_5 := (HB.out.cell (World.block_lt_of_cell? w _ hx487_5)).trans hx487_5
                          replace hx487_6 := (HB.out.cell (World.block_lt_of_cell? w _ hx487_6)).trans hx487_6
                          replace hx487_7 := (HB.out.cell (World.block_lt_of_cell? w _ hx487_7)).trans hx487_7
                          replace hx487_8 := (HB.out.cell (World.block_lt_of_cell? w _ hx487_8)).trans hx487_8
                          replace hx487_9 := (HB.out.cell (World.block_lt_of_cell? w _ hx487_9)).trans hx487_9
                          replace hx487_10 := (HB.out.cell (World.block_lt_of_cell? w _ hx487_10)).trans hx487_10
                          replace p487 := eq_true p487
                          replace q487 := eq_true q487
                          have p488 : 0 ≤ (x3_2 : Int) := of_decide_eq_true (by first | (with_reducible assumption) | assumption)
                          have q488 : x3_2 < (l0_0.length : Int) := of_decide_eq_true (by first | (with_reducible assumption) | assumption)
                          obtain ⟨ad488, e488, hx488_0, hx488_1, hx488_2, hx488_3, hx488_4, hx488_5, hx488_6, hx488_7, hx488_8, hx488_9, hx488_10⟩ := at_T25 HR0_0.out x3_2 p488 q488
                          have hw488_10 := hx488_10
                          have hw488_9 := hx488_9
                          have hw488_8 := hx488_8
                          have hw488_7 := hx488_7
                          have hw488_6 := hx488_6
                          have hw488_5 := hx488_5
                          have hw488_4 := hx488_4
                          have hw488_3 := hx488_3
                          have hw488_2 := hx488_2
                          have hw488_1 := hx488_1
                          have hw488_0 := hx488_0
                          obtain rfl : ad485 = ad488 := (by injection e488)
                          replace hx488_0 := (HB.out.cell (World.block_lt_of_cell? w _ hx488_0)).trans hx488_0
                          replace hx488_1 := (HB.out.cell (World.block_lt_of_cell? w _ hx488_1)).trans hx488_1
                          replace hx488_2 := (HB.out.cell (World.block_lt_of_cell? w _ hx488_2)).trans hx488_2
                          replace hx488_3 := (HB.out.cell (World.block_lt_of_cell? w _ hx488_3)).trans hx488_3
                          replace hx488_4 := (HB.out.cell (World.block_lt_of_cell? w _ hx488_4)).trans hx488_4
                          replace hx488_5 := (HB.out.cell (World.block_lt_of_cell? w _ hx488_5)).trans hx488_5
                          replace hx488_6 := (HB.out.cell (World.block_lt_of_cell? w _ hx488_6)).trans hx488_6
                          replace hx488_7 := (HB.out.cell (World.block_lt_of_cell? w _ hx488_7)).trans hx488_7
                          replace hx488_8 := (HB.out.cell (World.block_lt_of_cell? w _ hx488_8)).trans hx488_8
                          replace hx488_9 := (HB.out.cell (World.block_lt_of_cell? w _ hx488_9)).trans hx488_9
                          replace hx488_10 := (HB.out.cell (World.block_lt_of_cell? w _ hx488_10)).trans hx488_10
                          replace p488 := eq_true p488
                          replace q488 := eq_true q488
                          refine start_ (n := 27) (S := fun w' => w'.cell? ⟨gb484, 0, none⟩ = some (.slice (some ad485) l0_0.length c0_0) ∧ w'.cell? ⟨gb484, 1, none⟩ = some (.slice A0_1 l0_1.length c0_1) ∧ w'.cell? (ad485.add ((x3_2).toNat * 11)) = some (.int .i64 ((rd_T25 l0_0 x3_2).f0)) ∧ w'.cell? ⟨(ad485.add ((x3_2).toNat * 11)).block, (ad485.add ((x3_2).toNat * 11)).off + 1, none⟩ = some (.int .i64 ((rd_T25 l0_0 x3_2).f1.f0)) ∧ w'.cell? ⟨(ad485.add ((x3_2).toNat * 11)).block, (ad485.add ((x3_2).toNat * 11)).off + 2, none⟩ = some (.int .i64 ((rd_T25 l0_0 x3_2).f1.f1)) ∧ w'.cell? ⟨(ad485.add ((x3_2).toNat * 11)).block, (ad485.add ((x3_2).toNat * 11)).off + 3, none⟩ = some (.int .i64 ((rd_T25 l0_0 x3_2).f2.f0)) ∧ w'.cell? ⟨(ad485.add ((x3_2).toNat * 11)).block, (ad485.add ((x3_2).toNat * 11)).off + 4, none⟩ = some (.int .i64 ((rd_T25 l0_0 x3_2).f2.f1)) ∧ w'.cell? ⟨(ad485.add ((x3_2).toNat * 11)).block, (ad485.add ((x3_2).toNat * 11)).off + 5, none⟩ = some (.int .i64 ((rd_T25 l0_0 x3_2).f3.f0)) ∧ w'.cell? ⟨(ad485.add ((x3_2).toNat * 11)).block, (ad485.add ((x3_2).toNat * 11)).off + 6, none⟩ = some (.int .i64 ((rd_T25 l0_0 x3_2).f3.f1)) ∧ w'.cell? ⟨(ad485.add ((x3_2).toNat * 11)).block, (ad485.add ((x3_2).toNat * 11)).off + 7, none⟩ = some (.int .i64 ((rd_T25 l0_0 x3_2).f4)) ∧ w'.cell? ⟨(ad485.add ((x3_2).toNat * 11)).block, (ad485.add ((x3_2).toNat * 11)).off + 8, none⟩ = some (.int .i64 ((rd_T25 l0_0 x3_2).f5.f0)) ∧ w'.cell? ⟨(ad485.add ((x3_2).toNat * 11)).block, (ad485.add ((x3_2).toNat * 11)).off + 9, none⟩ = some (.int .i64 ((rd_T25 l0_0 x3_2).f5.f1)) ∧ w'.cell? ⟨(ad485.add ((x3_2).toNat * 11)).block, (ad485.add ((x3_2).toNat * 11)).off + 10, none⟩ = some (.int .i64 ((rd_T25 l0_0 x3_2).f6)) ∧ w'.cell? (ad485.add (((ji13)).toNat * 11)) = some (.int .i64 ((rd_T25 l0_0 (ji13)).f0)) ∧ w'.cell? ⟨(ad485.add (((ji13)).toNat * 11)).block, (ad485.add (((ji13)).toNat * 11)).off + 1, none⟩ = some (.int .i64 ((rd_T25 l0_0 (ji13)).f1.f0)) ∧ w'.cell? ⟨(ad485.add (((ji13)).toNat * 11)).block, (ad485.add (((ji13)).toNat * 11)).off + 2, none⟩ = some (.int .i64 ((rd_T25 l0_0 (ji13)).f1.f1)) ∧ w'.cell? ⟨(ad485.add (((ji13)).toNat * 11)).block, (ad485.add (((ji13)).toNat * 11)).off + 3, none⟩ = some (.int .i64 ((rd_T25 l0_0 (ji13)).f2.f0)) ∧ w'.cell? ⟨(ad485.add (((ji13)).toNat * 11)).block, (ad485.add (((ji13)).toNat * 11)).off + 4, none⟩ = some (.int .i64 ((rd_T25 l0_0 (ji13)).f2.f1)) ∧ w'.cell? ⟨(ad485.add (((ji13)).toNat * 11)).block, (ad485.add (((ji13)).toNat * 11)).off + 5, none⟩ = some (.int .i64 ((rd_T25 l0_0 (ji13)).f3.f0)) ∧ w'.cell? ⟨(ad485.add (((ji13)).toNat * 11)).block, (ad485.add (((ji13)).toNat * 11)).off + 6, none⟩ = some (.int .i64 ((rd_T25 l0_0 (ji13)).f3.f1)) ∧ w'.cell? ⟨(ad485.add (((ji13)).toNat * 11)).block, (ad485.add (((ji13)).toNat * 11)).off + 7, none⟩ = some (.int .i64 ((rd_T25 l0_0 (ji13)).f4)) ∧ w'.cell? ⟨(ad485.add (((ji13)).toNat * 11)).block, (ad485.add (((ji13)).toNat * 11)).off + 8, none⟩ = some (.int .i64 ((rd_T25 l0_0 (ji13)).f5.f0)) ∧ w'.cell? ⟨(ad485.add (((ji13)).toNat * 11)).block, (ad485.add (((ji13)).toNat * 11)).off + 9, none⟩ = some (.int .i64 ((rd_T25 l0_0 (ji13)).f5.f1)) ∧ w'.cell? ⟨(ad485.add (((ji13)).toNat * 11)).block, (ad485.add (((ji13)).toNat * 11)).off + 10, none⟩ = some (.int .i64 ((rd_T25 l0_0 (ji13)).f6)) ∧ w'.cell? (ad485.add ((x3_2).toNat * 11)) = some (.int .i64 ((rd_T25 l0_0 x3_2).f0)) ∧ w'.cell? ⟨(ad485.add ((x3_2).toNat * 11)).block, (ad485.add ((x3_2).toNat * 11)).off + 1, none⟩ = some (.int .i64 ((rd_T25 l0_0 x3_2).f1.f0)) ∧ w'.cell? ⟨(ad485.add ((x3_2).toNat * 11)).block, (ad485.add ((x3_2).toNat * 11)).off + 2, none⟩ = some (.int .i64 ((rd_T25 l0_0 x3_2).f1.f1)) ∧ w'.cell? ⟨(ad485.add ((x3_2).toNat * 11)).block, (ad485.add ((x3_2).toNat * 11)).off + 3, none⟩ = some (.int .i64 ((rd_T25 l0_0 x3_2).f2.f0)) ∧ w'.cell? ⟨(ad485.add ((x3_2).toNat * 11)).block, (ad485.add ((x3_2).toNat * 11)).off + 4, none⟩ = some (.int .i64 ((rd_T25 l0_0 x3_2).f2.f1)) ∧ w'.cell? ⟨(ad485.add ((x3_2).toNat * 11)).block, (ad485.add ((x3_2).toNat * 11)).off + 5, none⟩ = some (.int .i64 ((rd_T25 l0_0 x3_2).f3.f0)) ∧ w'.cell? ⟨(ad485.add ((x3_2).toNat * 11)).block, (ad485.add ((x3_2).toNat * 11)).off + 6, none⟩ = some (.int .i64 ((rd_T25 l0_0 x3_2).f3.f1)) ∧ w'.cell? ⟨(ad485.add ((x3_2).toNat * 11)).block, (ad485.add ((x3_2).toNat * 11)).off + 7, none⟩ = some (.int .i64 ((rd_T25 l0_0 x3_2).f4)) ∧ w'.cell? ⟨(ad485.add ((x3_2).toNat * 11)).block, (ad485.add ((x3_2).toNat * 11)).off + 8, none⟩ = some (.int .i64 ((rd_T25 l0_0 x3_2).f5.f0)) ∧ w'.cell? ⟨(ad485.add ((x3_2).toNat * 11)).block, (ad485.add ((x3_2).toNat * 11)).off + 9, none⟩ = some (.int .i64 ((rd_T25 l0_0 x3_2).f5.f1)) ∧ w'.cell? ⟨(ad485.add ((x3_2).toNat * 11)).block, (ad485.add ((x3_2).toNat * 11)).off + 10, none⟩ = some (.int .i64 ((rd_T25 l0_0 x3_2).f6))) (ds := []) #[false, false, false, false, false, false, false, false, false, false, false, false, false, false, false, false, false, false, false, false, false, false, false, false, false, false, false] (by kernel_rfl) rfl rfl ⟨(blk_cell BK484.out 0).trans rfl, (blk_cell BK484.out 1).trans rfl, ((HB.out.cell (World.block_lt_of_cell? w _ hw485_0)).trans hw485_0), ((HB.out.cell (World.block_lt_of_cell? w _ hw485_1)).trans hw485_1), ((HB.out.cell (World.block_lt_of_cell? w _ hw485_2)).trans hw485_2), ((HB.out.cell (World.block_lt_of_cell? w _ hw485_3)).trans hw485_3), ((HB.out.cell (World.block_lt_of_cell? w _ hw485_4)).trans hw485_4), ((HB.out.cell (World.block_lt_of_cell? w _ hw485_5)).trans hw485_5), ((HB.out.cell (World.block_lt_of_cell? w _ hw485_6)).trans hw485_6), ((HB.out.cell (World.block_lt_of_cell? w _ hw485_7)).trans hw485_7), ((HB.out.cell (World.block_lt_of_cell? w _ hw485_8)).trans hw485_8), ((HB.out.cell (World.block_lt_of_cell? w _ hw485_9)).trans hw485_9), ((HB.out.cell (World.block_lt_of_cell? w _ hw485_10)).trans hw485_10), ((HB.out.cell (World.block_lt_of_cell? w _ hw487_0)).trans hw487_0), ((HB.out.cell (World.block_lt_of_cell? w _ hw487_1)).trans hw487_1), ((HB.out.cell (World.block_lt_of_cell? w _ hw487_2)).trans hw487_2), ((HB.out.cell (World.block_lt_of_cell? w _ hw487_3)).trans hw487_3), ((HB.out.cell (World.block_lt_of_cell? w _ hw487_4)).trans hw487_4), ((HB.out.cell (World.block_lt_of_cell? w _ hw487_5)).trans hw487_5), ((HB.out.cell (World.block_lt_of_cell? w _ hw487_6)).trans hw487_6), ((HB.out.cell (World.block_lt_of_cell? w _ hw487_7)).trans hw487_7), ((HB.out.cell (World.block_lt_of_cell? w _ hw487_8)).trans hw487_8), ((HB.out.cell (World.block_lt_of_cell? w _ hw487_9)).trans hw487_9), ((HB.out.cell (World.block_lt_of_cell? w _ hw487_10)).trans hw487_10), ((HB.out.cell (World.block_lt_of_cell? w _ hw488_0)).trans hw488_0), ((HB.out.cell (World.block_lt_of_cell? w _ hw488_1)).trans hw488_1), ((HB.out.cell (World.block_lt_of_cell? w _ hw488_2)).trans hw488_2), ((HB.out.cell (World.block_lt_of_cell? w _ hw488_3)).trans hw488_3), ((HB.out.cell (World.block_lt_of_cell? w _ hw488_4)).trans hw488_4), ((HB.out.cell (World.block_lt_of_cell? w _ hw488_5)).trans hw488_5), ((HB.out.cell (World.block_lt_of_cell? w _ hw488_6)).trans hw488_6), ((HB.out.cell (World.block_lt_of_cell? w _ hw488_7)).trans hw488_7), ((HB.out.cell (World.block_lt_of_cell? w _ hw488_8)).trans hw488_8), ((HB.out.cell (World.block_lt_of_cell? w _ hw488_9)).trans hw488_9), ((HB.out.cell (World.block_lt_of_cell? w _ hw488_10)).trans hw488_10)⟩ (fun hHeld => ?_); refine with_tabW potbankref01_Check.tab6 potbankref01_Check.bits6 (fun HT_ HW_ => ?_)
                          generalize wr.drew = w18 at BK484 HB hx485_0 hx485_1 hx485_10 hx485_2 hx485_3 hx485_4 hx485_5 hx485_6 hx485_7 hx485_8 hx485_9 hx487_0 hx487_1 hx487_10 hx487_2 hx487_3 hx487_4 hx487_5 hx487_6 hx487_7 hx487_8 hx487_9 hx488_0 hx488_1 hx488_10 hx488_2 hx488_3 hx488_4 hx488_5 hx488_6 hx488_7 hx488_8 hx488_9 hHeld ⊢
                          refine pure_ (i := 0) (N := some 22) (v := ?_) (a' := ?_) #[true, false, false, false, false, false, false, false, false, false, false, false, false, false, false, false, false, false, false, false, false, false, false, false, false, false, false] rfl rfl (any_of HT_.out (by kernel_rfl)) (fun _ _ _ h => h) (Or.inl ⟨by rfl, ?_⟩) ?_ ?_
                          rotate_left
                          · intro w'
                            go_simp
                            with_reducible rfl
                          rotate_left
                          · simp only [Act.put, List.setIfInBounds_toArray, List.set_cons_zero, List.set_cons_succ, i64_w, i32_w]
                            rfl
                          refine pure_ (i := 2) (N := some 24) (v := ?_) (a' := ?_) #[true, false, true, false, false, false, false, false, false, false, false, false, false, false, false, false, false, false, false, false, false, false, false, false, false, false, false] rfl rfl (any_of HT_.out (by kernel_rfl)) (fun _ _ _ h => h) (Or.inl ⟨by rfl, ?_⟩) ?_ ?_
                          rotate_left
                          · intro w'
                            go_simp
                            with_reducible rfl
                          rotate_left
                          · simp only [Act.put, List.setIfInBounds_toArray, List.set_cons_zero, List.set_cons_succ, i64_w, i32_w]
                            rfl
                          refine take_ (i := 1) (N := some 23) (v := ?_) (a' := ?_) #[true, true, true, false, false, false, false, false, false, false, false, false, false, false, false, false, false, false, false, false, false, false, false, false, false, false, false] rfl rfl (take_ofW HT_.out HW_.out (by kernel_rfl)) (fun _ _ _ h => h) (Or.inl ⟨by rfl, ?_⟩) hHeld ?_ ?_
                          rotate_left
                          · rintro w' ⟨s0, s1, s2, s3, s4, s5, s6, s7, s8, s9, s10, s11, s12, s13, s14, s15, s16, s17, s18, s19, s20, s21, s22, s23, s24, s25, s26, s27, s28, s29, s30, s31, s32, s33, s34⟩
                            go_simp
                            with_reducible rfl
                          rotate_left
                          · simp only [Act.put, List.setIfInBounds_toArray, List.set_cons_zero, List.set_cons_succ, i64_w, i32_w]
                            rfl
                          refine pure_ (i := 3) (N := some 25) (v := ?_) (a' := ?_) #[true, true, true, true, false, false, false, false, false, false, false, false, false, false, false, false, false, false, false, false, false, false, false, false, false, false, false] rfl rfl (any_of HT_.out (by kernel_rfl)) (fun _ _ _ h => h) (Or.inl ⟨by rfl, ?_⟩) ?_ ?_
                          rotate_left
                          · intro w'
                            go_simp
                            with_reducible rfl
                          rotate_left
                          · simp only [Act.put, List.setIfInBounds_toArray, List.set_cons_zero, List.set_cons_succ, i64_w, i32_w]
                            rfl
                          refine take_ (i := 4) (N := some 26) (v := ?_) (a' := ?_) #[true, true, true, true, true, false, false, false, false, false, false, false, false, false, false, false, false, false, false, false, false, false, false, false, false, false, false] rfl rfl (take_ofW HT_.out HW_.out (by kernel_rfl)) (fun _ _ _ h => h) (Or.inl ⟨by rfl, ?_⟩) hHeld ?_ ?_
                          rotate_left
                          · rintro w' ⟨s0, s1, s2, s3, s4, s5, s6, s7, s8, s9, s10, s11, s12, s13, s14, s15, s16, s17, s18, s19, s20, s21, s22, s23, s24, s25, s26, s27, s28, s29, s30, s31, s32, s33, s34⟩
                            go_simp
                            with_reducible rfl
                          rotate_left
                          · simp only [Act.put, List.setIfInBounds_toArray, List.set_cons_zero, List.set_cons_succ, i64_w, i32_w]
                            rfl
                          refine one_ (i := 5) (N := some 27) #[true, true, true, true, true, true, false, false, false, false, false, false, false, false, false, false, false, false, false, false, false, false, false, false, false, false, false] rfl rfl (one_of HT_.out (by kernel_rfl)) (by decide) (fun K hK => ?_)
                          refine goes_ Try.func42 (by kernel_rfl) rfl #[.agg #[.int .i64 ((rd_T25 l0_0 x3_2).f0), .int .i64 ((rd_T25 l0_0 x3_2).f1.f0), .int .i64 ((rd_T25 l0_0 x3_2).f1.f1), .int .i64 ((rd_T25 l0_0 x3_2).f2.f0), .int .i64 ((rd_T25 l0_0 x3_2).f2.f1), .int .i64 ((rd_T25 l0_0 x3_2).f3.f0), .int .i64 ((rd_T25 l0_0 x3_2).f3.f1), .int .i64 ((rd_T25 l0_0 x3_2).f4), .int .i64 ((rd_T25 l0_0 x3_2).f5.f0), .int .i64 ((rd_T25 l0_0 x3_2).f5.f1), .int .i64 ((rd_T25 l0_0 x3_2).f6)]] (by rfl) rfl rfl (by (try simp only [List.map_toArray, List.map_cons, List.map_nil]); first | done | rfl | (simp only [List.length_drop, List.length_take]; rfl)) ?_
                          with_reducible refine (potbankref01_CheckShape.calls ((rd_T25 l0_0 x3_2).f0) ((rd_T25 l0_0 x3_2).f1.f0) ((rd_T25 l0_0 x3_2).f1.f1) ((rd_T25 l0_0 x3_2).f2.f0) ((rd_T25 l0_0 x3_2).f2.f1) ((rd_T25 l0_0 x3_2).f3.f0) ((rd_T25 l0_0 x3_2).f3.f1) ((rd_T25 l0_0 x3_2).f4) ((rd_T25 l0_0 x3_2).f5.f0) ((rd_T25 l0_0 x3_2).f5.f1) ((rd_T25 l0_0 x3_2).f6) t486 _ A10.out).mono ?_
                          rintro e w19 ⟨rfl, hb⟩
                          refine ⟨_, rfl, ?_⟩
                          have n0_ := blkE BK484 hb
                          have n1_ := Aside0.mk (below_step (by repeat (first | (with_reducible first | exact HB.out | apply below_alloc | apply pw_below_drewN | apply below_drew1 | refine below_set ?_ GE484.out) | exact HB.out)) hb)
                          clear BK484
                          clear HB
                          have BK484 := n0_
                          have HB := n1_
                          clear n0_ n1_
                          (try clear hb)
                          (try clear hb2)
                          (try clear hk)
                          (try clear hi)
                          refine hK.out _ _ ⟨(blk_cell BK484.out 0).trans rfl, (blk_cell BK484.out 1).trans rfl, ((HB.out.cell (World.block_lt_of_cell? w _ hw485_0)).trans hw485_0), ((HB.out.cell (World.block_lt_of_cell? w _ hw485_1)).trans hw485_1), ((HB.out.cell (World.block_lt_of_cell? w _ hw485_2)).trans hw485_2), ((HB.out.cell (World.block_lt_of_cell? w _ hw485_3)).trans hw485_3), ((HB.out.cell (World.block_lt_of_cell? w _ hw485_4)).trans hw485_4), ((HB.out.cell (World.block_lt_of_cell? w _ hw485_5)).trans hw485_5), ((HB.out.cell (World.block_lt_of_cell? w _ hw485_6)).trans hw485_6), ((HB.out.cell (World.block_lt_of_cell? w _ hw485_7)).trans hw485_7), ((HB.out.cell (World.block_lt_of_cell? w _ hw485_8)).trans hw485_8), ((HB.out.cell (World.block_lt_of_cell? w _ hw485_9)).trans hw485_9), ((HB.out.cell (World.block_lt_of_cell? w _ hw485_10)).trans hw485_10), ((HB.out.cell (World.block_lt_of_cell? w _ hw487_0)).trans hw487_0), ((HB.out.cell (World.block_lt_of_cell? w _ hw487_1)).trans hw487_1), ((HB.out.cell (World.block_lt_of_cell? w _ hw487_2)).trans hw487_2), ((HB.out.cell (World.block_lt_of_cell? w _ hw487_3)).trans hw487_3), ((HB.out.cell (World.block_lt_of_cell? w _ hw487_4)).trans hw487_4), ((HB.out.cell (World.block_lt_of_cell? w _ hw487_5)).trans hw487_5), ((HB.out.cell (World.block_lt_of_cell? w _ hw487_6)).trans hw487_6), ((HB.out.cell (World.block_lt_of_cell? w _ hw487_7)).trans hw487_7), ((HB.out.cell (World.block_lt_of_cell? w _ hw487_8)).trans hw487_8), ((HB.out.cell (World.block_lt_of_cell? w _ hw487_9)).trans hw487_9), ((HB.out.cell (World.block_lt_of_cell? w _ hw487_10)).trans hw487_10), ((HB.out.cell (World.block_lt_of_cell? w _ hw488_0)).trans hw488_0), ((HB.out.cell (World.block_lt_of_cell? w _ hw488_1)).trans hw488_1), ((HB.out.cell (World.block_lt_of_cell? w _ hw488_2)).trans hw488_2), ((HB.out.cell (World.block_lt_of_cell? w _ hw488_3)).trans hw488_3), ((HB.out.cell (World.block_lt_of_cell? w _ hw488_4)).trans hw488_4), ((HB.out.cell (World.block_lt_of_cell? w _ hw488_5)).trans hw488_5), ((HB.out.cell (World.block_lt_of_cell? w _ hw488_6)).trans hw488_6), ((HB.out.cell (World.block_lt_of_cell? w _ hw488_7)).trans hw488_7), ((HB.out.cell (World.block_lt_of_cell? w _ hw488_8)).trans hw488_8), ((HB.out.cell (World.block_lt_of_cell? w _ hw488_9)).trans hw488_9), ((HB.out.cell (World.block_lt_of_cell? w _ hw488_10)).trans hw488_10)⟩ (fun hHeld => ?_)
                          clear hK K
                          refine norm_ (a' := ?_) ?_ ?_
                          rotate_left
                          · show Act.put _ (some 27) _ = _
                            simp only [Act.put, List.setIfInBounds_toArray, List.set_cons_zero, List.set_cons_succ, i64_w, i32_w]
                            rfl
                          refine pure_ (i := 6) (N := some 28) (v := ?_) (a' := ?_) #[true, true, true, true, true, true, true, false, false, false, false, false, false, false, false, false, false, false, false, false, false, false, false, false, false, false, false] rfl rfl (any_of HT_.out (by kernel_rfl)) (fun _ _ _ h => h) (Or.inl ⟨by rfl, ?_⟩) ?_ ?_
                          rotate_left
                          · intro w'
                            go_simp
                            with_reducible rfl
                          rotate_left
                          · simp only [Act.put, List.setIfInBounds_toArray, List.set_cons_zero, List.set_cons_succ, i64_w, i32_w]
                            rfl
                          refine pure_ (i := 7) (N := some 29) (v := ?_) (a' := ?_) #[true, true, true, true, true, true, true, true, false, false, false, false, false, false, false, false, false, false, false, false, false, false, false, false, false, false, false] rfl rfl (any_of HT_.out (by kernel_rfl)) (fun _ _ _ h => h) (Or.inl ⟨by rfl, ?_⟩) ?_ ?_
                          rotate_left
                          · intro w'
                            go_simp
                            with_reducible rfl
                          rotate_left
                          · simp only [Act.put, List.setIfInBounds_toArray, List.set_cons_zero, List.set_cons_succ, i64_w, i32_w]
                            rfl
                          refine pure_ (i := 8) (N := some 30) (v := ?_) (a' := ?_) #[true, true, true, true, true, true, true, true, true, false, false, false, false, false, false, false, false, false, false, false, false, false, false, false, false, false, false] rfl rfl (any_of HT_.out (by kernel_rfl)) (fun _ _ _ h => h) (Or.inl ⟨by rfl, ?_⟩) ?_ ?_
                          rotate_left
                          · intro w'
                            go_simp
                            with_reducible rfl
                          rotate_left
                          · simp only [Act.put, List.setIfInBounds_toArray, List.set_cons_zero, List.set_cons_succ, i64_w, i32_w]
                            rfl
                          refine pure_ (i := 9) (N := some 31) (v := ?_) (a' := ?_) #[true, true, true, true, true, true, true, true, true, true, false, false, false, false, false, false, false, false, false, false, false, false, false, false, false, false, false] rfl rfl (any_of HT_.out (by kernel_rfl)) (fun _ _ _ h => h) (Or.inl ⟨by rfl, ?_⟩) ?_ ?_
                          rotate_left
                          · intro w'
                            go_simp
                            with_reducible rfl
                          rotate_left
                          · simp only [Act.put, List.setIfInBounds_toArray, List.set_cons_zero, List.set_cons_succ, i64_w, i32_w]
                            rfl
                          refine pure_ (i := 10) (N := some 32) (v := ?_) (a' := ?_) #[true, true, true, true, true, true, true, true, true, true, true, false, false, false, false, false, false, false, false, false, false, false, false, false, false, false, false] rfl rfl (any_of HT_.out (by kernel_rfl)) (fun _ _ _ h => h) (Or.inl ⟨by rfl, ?_⟩) ?_ ?_
                          rotate_left
                          · intro w'
                            go_simp
                            with_reducible rfl
                          rotate_left
                          · simp only [Act.put, List.setIfInBounds_toArray, List.set_cons_zero, List.set_cons_succ, i64_w, i32_w]
                            rfl
                          refine pure_ (i := 11) (N := some 33) (v := ?_) (a' := ?_) #[true, true, true, true, true, true, true, true, true, true, true, true, false, false, false, false, false, false, false, false, false, false, false, false, false, false, false] rfl rfl (any_of HT_.out (by kernel_rfl)) (fun _ _ _ h => h) (Or.inl ⟨by rfl, ?_⟩) ?_ ?_
                          rotate_left
                          · intro w'
                            go_simp
                            with_reducible rfl
                          rotate_left
                          · simp only [Act.put, List.setIfInBounds_toArray, List.set_cons_zero, List.set_cons_succ, i64_w, i32_w]
                            rfl
                          refine pure_ (i := 13) (N := some 35) (v := ?_) (a' := ?_) #[true, true, true, true, true, true, true, true, true, true, true, true, false, true, false, false, false, false, false, false, false, false, false, false, false, false, false] rfl rfl (any_of HT_.out (by kernel_rfl)) (fun _ _ _ h => h) (Or.inl ⟨by rfl, ?_⟩) ?_ ?_
                          rotate_left
                          · intro w'
                            go_simp
                            with_reducible rfl
                          rotate_left
                          · simp only [Act.put, List.setIfInBounds_toArray, List.set_cons_zero, List.set_cons_succ, i64_w, i32_w]
                            rfl
                          refine pure_ (i := 14) (N := some 36) (v := ?_) (a' := ?_) #[true, true, true, true, true, true, true, true, true, true, true, true, false, true, true, false, false, false, false, false, false, false, false, false, false, false, false] rfl rfl (any_of HT_.out (by kernel_rfl)) (fun _ _ _ h => h) (Or.inl ⟨by rfl, ?_⟩) ?_ ?_
                          rotate_left
                          · intro w'
                            go_simp
                            with_reducible rfl
                          rotate_left
                          · simp only [Act.put, List.setIfInBounds_toArray, List.set_cons_zero, List.set_cons_succ, i64_w, i32_w]
                            rfl
                          refine pure_ (i := 18) (N := some 40) (v := ?_) (a' := ?_) #[true, true, true, true, true, true, true, true, true, true, true, true, false, true, true, false, false, false, true, false, false, false, false, false, false, false, false] rfl rfl (any_of HT_.out (by kernel_rfl)) (fun _ _ _ h => h) (Or.inl ⟨by rfl, ?_⟩) ?_ ?_
                          rotate_left
                          · intro w'
                            go_simp
                            with_reducible rfl
                          rotate_left
                          · simp only [Act.put, List.setIfInBounds_toArray, List.set_cons_zero, List.set_cons_succ, i64_w, i32_w]
                            rfl
                          refine pure_ (i := 20) (N := some 42) (v := ?_) (a' := ?_) #[true, true, true, true, true, true, true, true, true, true, true, true, false, true, true, false, false, false, true, false, true, false, false, false, false, false, false] rfl rfl (any_of HT_.out (by kernel_rfl)) (fun _ _ _ h => h) (Or.inl ⟨by rfl, ?_⟩) ?_ ?_
                          rotate_left
                          · intro w'
                            go_simp
                            with_reducible rfl
                          rotate_left
                          · simp only [Act.put, List.setIfInBounds_toArray, List.set_cons_zero, List.set_cons_succ, i64_w, i32_w]
                            rfl
                          refine take_ (i := 12) (N := some 34) (v := ?_) (a' := ?_) #[true, true, true, true, true, true, true, true, true, true, true, true, true, true, true, false, false, false, true, false, true, false, false, false, false, false, false] rfl rfl (take_ofW HT_.out HW_.out (by kernel_rfl)) (fun _ _ _ h => h) (Or.inl ⟨by rfl, ?_⟩) hHeld ?_ ?_
                          rotate_left
                          · rintro w' ⟨s0, s1, s2, s3, s4, s5, s6, s7, s8, s9, s10, s11, s12, s13, s14, s15, s16, s17, s18, s19, s20, s21, s22, s23, s24, s25, s26, s27, s28, s29, s30, s31, s32, s33, s34⟩
                            go_simp
                            with_reducible rfl
                          rotate_left
                          · simp only [Act.put, List.setIfInBounds_toArray, List.set_cons_zero, List.set_cons_succ, i64_w, i32_w]
                            rfl
                          refine pure_ (i := 15) (N := some 37) (v := ?_) (a' := ?_) #[true, true, true, true, true, true, true, true, true, true, true, true, true, true, true, true, false, false, true, false, true, false, false, false, false, false, false] rfl rfl (any_of HT_.out (by kernel_rfl)) (fun _ _ _ h => h) (Or.inl ⟨by rfl, ?_⟩) ?_ ?_
                          rotate_left
                          · intro w'
                            go_simp
                            with_reducible rfl
                          rotate_left
                          · simp only [Act.put, List.setIfInBounds_toArray, List.set_cons_zero, List.set_cons_succ, i64_w, i32_w]
                            rfl
                          refine pure_ (i := 16) (N := some 38) (v := ?_) (a' := ?_) #[true, true, true, true, true, true, true, true, true, true, true, true, true, true, true, true, true, false, true, false, true, false, false, false, false, false, false] rfl rfl (any_of HT_.out (by kernel_rfl)) (fun _ _ _ h => h) (Or.inl ⟨by rfl, ?_⟩) ?_ ?_
                          rotate_left
                          · intro w'
                            go_simp
                            with_reducible rfl
                          rotate_left
                          · simp only [Act.put, List.setIfInBounds_toArray, List.set_cons_zero, List.set_cons_succ, i64_w, i32_w]
                            rfl
                          refine take_ (i := 17) (N := some 39) (v := ?_) (a' := ?_) #[true, true, true, true, true, true, true, true, true, true, true, true, true, true, true, true, true, true, true, false, true, false, false, false, false, false, false] rfl rfl (take_ofW HT_.out HW_.out (by kernel_rfl)) (fun _ _ _ h => h) (Or.inl ⟨by rfl, ?_⟩) hHeld ?_ ?_
                          rotate_left
                          · rintro w' ⟨s0, s1, s2, s3, s4, s5, s6, s7, s8, s9, s10, s11, s12, s13, s14, s15, s16, s17, s18, s19, s20, s21, s22, s23, s24, s25, s26, s27, s28, s29, s30, s31, s32, s33, s34⟩
                            go_simp
                            with_reducible rfl
                          rotate_left
                          · simp only [Act.put, List.setIfInBounds_toArray, List.set_cons_zero, List.set_cons_succ, i64_w, i32_w]
                            rfl
                          refine take_ (i := 19) (N := some 41) (v := ?_) (a' := ?_) #[true, true, true, true, true, true, true, true, true, true, true, true, true, true, true, true, true, true, true, true, true, false, false, false, false, false, false] rfl rfl (take_ofW HT_.out HW_.out (by kernel_rfl)) (fun _ _ _ h => h) (Or.inl ⟨by rfl, ?_⟩) hHeld ?_ ?_
                          rotate_left
                          · rintro w' ⟨s0, s1, s2, s3, s4, s5, s6, s7, s8, s9, s10, s11, s12, s13, s14, s15, s16, s17, s18, s19, s20, s21, s22, s23, s24, s25, s26, s27, s28, s29, s30, s31, s32, s33, s34⟩
                            go_simp
                            with_reducible rfl
                          rotate_left
                          · simp only [Act.put, List.setIfInBounds_toArray, List.set_cons_zero, List.set_cons_succ, i64_w, i32_w]
                            rfl
                          refine pure_ (i := 21) (N := some 43) (v := ?_) (a' := ?_) #[true, true, true, true, true, true, true, true, true, true, true, true, true, true, true, true, true, true, true, true, true, true, false, false, false, false, false] rfl rfl (any_of HT_.out (by kernel_rfl)) (fun _ _ _ h => h) (Or.inl ⟨by rfl, ?_⟩) ?_ ?_
                          rotate_left
                          · intro w'
                            go_simp
                            with_reducible rfl
                          rotate_left
                          · simp only [Act.put, List.setIfInBounds_toArray, List.set_cons_zero, List.set_cons_succ, i64_w, i32_w]
                            rfl
                          refine pure_ (i := 22) (N := some 44) (v := ?_) (a' := ?_) #[true, true, true, true, true, true, true, true, true, true, true, true, true, true, true, true, true, true, true, true, true, true, true, false, false, false, false] rfl rfl (any_of HT_.out (by kernel_rfl)) (fun _ _ _ h => h) (Or.inl ⟨by rfl, ?_⟩) ?_ ?_
                          rotate_left
                          · intro w'
                            go_simp
                            with_reducible rfl
                          rotate_left
                          · simp only [Act.put, List.setIfInBounds_toArray, List.set_cons_zero, List.set_cons_succ, i64_w, i32_w]
                            rfl
                          refine take_ (i := 23) (N := some 45) (v := ?_) (a' := ?_) #[true, true, true, true, true, true, true, true, true, true, true, true, true, true, true, true, true, true, true, true, true, true, true, true, false, false, false] rfl rfl (take_ofW HT_.out HW_.out (by kernel_rfl)) (fun _ _ _ h => h) (Or.inl ⟨by rfl, ?_⟩) hHeld ?_ ?_
                          rotate_left
                          · rintro w' ⟨s0, s1, s2, s3, s4, s5, s6, s7, s8, s9, s10, s11, s12, s13, s14, s15, s16, s17, s18, s19, s20, s21, s22, s23, s24, s25, s26, s27, s28, s29, s30, s31, s32, s33, s34⟩
                            go_simp
                            with_reducible rfl
                          rotate_left
                          · simp only [Act.put, List.setIfInBounds_toArray, List.set_cons_zero, List.set_cons_succ, i64_w, i32_w]
                            rfl
                          refine pure_ (i := 24) (N := some 46) (v := ?_) (a' := ?_) #[true, true, true, true, true, true, true, true, true, true, true, true, true, true, true, true, true, true, true, true, true, true, true, true, true, false, false] rfl rfl (any_of HT_.out (by kernel_rfl)) (fun _ _ _ h => h) (Or.inl ⟨by rfl, ?_⟩) ?_ ?_
                          rotate_left
                          · intro w'
                            go_simp
                            with_reducible rfl
                          rotate_left
                          · simp only [Act.put, List.setIfInBounds_toArray, List.set_cons_zero, List.set_cons_succ, i64_w, i32_w]
                            rfl
                          refine pure_ (i := 25) (N := some 47) (v := ?_) (a' := ?_) #[true, true, true, true, true, true, true, true, true, true, true, true, true, true, true, true, true, true, true, true, true, true, true, true, true, true, false] rfl rfl (any_of HT_.out (by kernel_rfl)) (fun _ _ _ h => h) (Or.inl ⟨by rfl, ?_⟩) ?_ ?_
                          rotate_left
                          · intro w'
                            go_simp
                            with_reducible rfl
                          rotate_left
                          · simp only [Act.put, List.setIfInBounds_toArray, List.set_cons_zero, List.set_cons_succ, i64_w, i32_w]
                            rfl
                          refine pure_ (i := 26) (N := some 48) (v := ?_) (a' := ?_) #[true, true, true, true, true, true, true, true, true, true, true, true, true, true, true, true, true, true, true, true, true, true, true, true, true, true, true] rfl rfl (any_of HT_.out (by kernel_rfl)) (fun _ _ _ h => h) (Or.inl ⟨by rfl, ?_⟩) ?_ ?_
                          rotate_left
                          · intro w'
                            go_simp
                            with_reducible rfl
                          rotate_left
                          · simp only [Act.put, List.setIfInBounds_toArray, List.set_cons_zero, List.set_cons_succ, i64_w, i32_w]
                            rfl
                          refine done_ (done_of HT_.out (by kernel_rfl)) ?_
                          try go_wp2
                          go_ret
                          exact ⟨by first | rfl | (simp [errW_none, errW_some] <;> rfl) | (simp only [← hji13]; first | rfl | (simp [errW_none, errW_some] <;> rfl)) | (simp [*, errW_none, errW_some] <;> rfl), by repeat (first | (with_reducible first | exact HB.out | apply below_alloc | apply pw_below_drewN | apply below_drew1 | refine below_set ?_ GE484.out) | exact HB.out)⟩
                        · rw [if_neg c16] at H
                          have c16b0 : decide (((rd_T25 l0_0 x3_2).f0) ≤ ((rd_T25 l0_0 (ji13)).f0)) = false := decide_eq_false c16
                          clear c16
                          have H' := Aside0.mk H
                          clear H
                          have hcz20_0 : wr.cell? ⟨gb484, 0, none⟩ = some (.slice A0_0 l0_0.length c0_0) := (blk_cell BK484.out 0).trans rfl
                          have hcz20_1 : wr.cell? ⟨gb484, 1, none⟩ = some (.slice A0_1 l0_1.length c0_1) := (blk_cell BK484.out 1).trans rfl
                          have hfz20_0 := blk_frozen BK484.out 0
                          have hfz20_1 := blk_frozen BK484.out 1
                          try go_wp2
                          have n0_ := Aside0.mk (blk_drew BK484.out)
                          have n1_ := Aside0.mk (below_drew1 HB.out)
                          clear BK484
                          clear HB
                          have BK484 := n0_
                          have HB := n1_
                          clear n0_ n1_
                          have p485 : 0 ≤ (x3_2 : Int) := of_decide_eq_true (by first | (with_reducible assumption) | assumption)
                          have q485 : x3_2 < (l0_0.length : Int) := of_decide_eq_true (by first | (with_reducible assumption) | assumption)
                          obtain ⟨ad485, e485, hx485_0, hx485_1, hx485_2, hx485_3, hx485_4, hx485_5, hx485_6, hx485_7, hx485_8, hx485_9, hx485_10⟩ := at_T25 HR0_0.out x3_2 p485 q485
                          have hw485_10 := hx485_10
                          have hw485_9 := hx485_9
                          have hw485_8 := hx485_8
                          have hw485_7 := hx485_7
                          have hw485_6 := hx485_6
                          have hw485_5 := hx485_5
                          have hw485_4 := hx485_4
                          have hw485_3 := hx485_3
                          have hw485_2 := hx485_2
                          have hw485_1 := hx485_1
                          have hw485_0 := hx485_0
                          cases e485
                          replace hx485_0 := (HB.out.cell (World.block_lt_of_cell? w _ hx485_0)).trans hx485_0
                          replace hx485_1 := (HB.out.cell (World.block_lt_of_cell? w _ hx485_1)).trans hx485_1
                          replace hx485_2 := (HB.out.cell (World.block_lt_of_cell? w _ hx485_2)).trans hx485_2
                          replace hx485_3 := (HB.out.cell (World.block_lt_of_cell? w _ hx485_3)).trans hx485_3
                          replace hx485_4 := (HB.out.cell (World.block_lt_of_cell? w _ hx485_4)).trans hx485_4
                          replace hx485_5 := (HB.out.cell (World.block_lt_of_cell? w _ hx485_5)).trans hx485_5
                          replace hx485_6 := (HB.out.cell (World.block_lt_of_cell? w _ hx485_6)).trans hx485_6
                          replace hx485_7 := (HB.out.cell (World.block_lt_of_cell? w _ hx485_7)).trans hx485_7
                          replace hx485_8 := (HB.out.cell (World.block_lt_of_cell? w _ hx485_8)).trans hx485_8
                          replace hx485_9 := (HB.out.cell (World.block_lt_of_cell? w _ hx485_9)).trans hx485_9
                          replace hx485_10 := (HB.out.cell (World.block_lt_of_cell? w _ hx485_10)).trans hx485_10
                          replace p485 := eq_true p485
                          replace q485 := eq_true q485
                          have p487 : 0 ≤ ((ji13) : Int) := of_decide_eq_true (by first | (with_reducible assumption) | assumption)
                          have q487 : (ji13) < (l0_0.length : Int) := of_decide_eq_true (by first | (with_reducible assumption) | assumption)
                          obtain ⟨ad487, e487, hx487_0, hx487_1, hx487_2, hx487_3, hx487_4, hx487_5, hx487_6, hx487_7, hx487_8, hx487_9, hx487_10⟩ := at_T25 HR0_0.out (ji13) p487 q487
                          have hw487_10 := hx487_10
                          have hw487_9 := hx487_9
                          have hw487_8 := hx487_8
                          have hw487_7 := hx487_7
                          have hw487_6 := hx487_6
                          have hw487_5 := hx487_5
                          have hw487_4 := hx487_4
                          have hw487_3 := hx487_3
                          have hw487_2 := hx487_2
                          have hw487_1 := hx487_1
                          have hw487_0 := hx487_0
                          obtain rfl : ad485 = ad487 := (by injection e487)
                          replace hx487_0 := (HB.out.cell (World.block_lt_of_cell? w _ hx487_0)).trans hx487_0
                          replace hx487_1 := (HB.out.cell (World.block_lt_of_cell? w _ hx487_1)).trans hx487_1
                          replace hx487_2 := (HB.out.cell (World.block_lt_of_cell? w _ hx487_2)).trans hx487_2
                          replace hx487_3 := (HB.out.cell (World.block_lt_of_cell? w _ hx487_3)).trans hx487_3
                          replace hx487_4 := (HB.out.cell (World.block_lt_of_cell? w _ hx487_4)).trans hx487_4
                          replace hx487_5 := (HB.out.cell (World.block_lt_of_cell? w _ hx487_5)).trans hx487_5
                          replace hx487_6 := (HB.out.cell (World.block_lt_of_cell? w _ hx487_6)).trans hx487_6
                          replace hx487_7 := (HB.out.cell (World.block_lt_of_cell? w _ hx487_7)).trans hx487_7
                          replace hx487_8 := (HB.out.cell (World.block_lt_of_cell? w _ hx487_8)).trans hx487_8
                          replace hx487_9 := (HB.out.cell (World.block_lt_of_cell? w _ hx487_9)).trans hx487_9
                          replace hx487_10 := (HB.out.cell (World.block_lt_of_cell? w _ hx487_10)).trans hx487_10
                          replace p487 := eq_true p487
                          replace q487 := eq_true q487
                          have p488 : 0 ≤ (x3_2 : Int) := of_decide_eq_true (by first | (with_reducible assumption) | assumption)
                          have q488 : x3_2 < (l0_0.length : Int) := of_decide_eq_true (by first | (with_reducible assumption) | assumption)
                          obtain ⟨ad488, e488, hx488_0, hx488_1, hx488_2, hx488_3, hx488_4, hx488_5, hx488_6, hx488_7, hx488_8, hx488_9, hx488_10⟩ := at_T25 HR0_0.out x3_2 p488 q488
                          have hw488_10 := hx488_10
                          have hw488_9 := hx488_9
                          have hw488_8 := hx488_8
                          have hw488_7 := hx488_7
                          have hw488_6 := hx488_6
                          have hw488_5 := hx488_5
                          have hw488_4 := hx488_4
                          have hw488_3 := hx488_3
                          have hw488_2 := hx488_2
                          have hw488_1 := hx488_1
                          have hw488_0 := hx488_0
                          obtain rfl : ad485 = ad488 := (by injection e488)
                          replace hx488_0 := (HB.out.cell (World.block_lt_of_cell? w _ hx488_0)).trans hx488_0
                          replace hx488_1 := (HB.out.cell (World.block_lt_of_cell? w _ hx488_1)).trans hx488_1
                          replace hx488_2 := (HB.out.cell (World.block_lt_of_cell? w _ hx488_2)).trans hx488_2
                          replace hx488_3 := (HB.out.cell (World.block_lt_of_cell? w _ hx488_3)).trans hx488_3
                          replace hx488_4 := (HB.out.cell (World.block_lt_of_cell? w _ hx488_4)).trans hx488_4
                          replace hx488_5 := (HB.out.cell (World.block_lt_of_cell? w _ hx488_5)).trans hx488_5
                          replace hx488_6 := (HB.out.cell (World.block_lt_of_cell? w _ hx488_6)).trans hx488_6
                          replace hx488_7 := (HB.out.cell (World.block_lt_of_cell? w _ hx488_7)).trans hx488_7
                          replace hx488_8 := (HB.out.cell (World.block_lt_of_cell? w _ hx488_8)).trans hx488_8
                          replace hx488_9 := (HB.out.cell (World.block_lt_of_cell? w _ hx488_9)).trans hx488_9
                          replace hx488_10 := (HB.out.cell (World.block_lt_of_cell? w _ hx488_10)).trans hx488_10
                          replace p488 := eq_true p488
                          replace q488 := eq_true q488
                          refine start_ (n := 27) (S := fun w' => w'.cell? ⟨gb484, 0, none⟩ = some (.slice (some ad485) l0_0.length c0_0) ∧ w'.cell? ⟨gb484, 1, none⟩ = some (.slice A0_1 l0_1.length c0_1) ∧ w'.cell? (ad485.add ((x3_2).toNat * 11)) = some (.int .i64 ((rd_T25 l0_0 x3_2).f0)) ∧ w'.cell? ⟨(ad485.add ((x3_2).toNat * 11)).block, (ad485.add ((x3_2).toNat * 11)).off + 1, none⟩ = some (.int .i64 ((rd_T25 l0_0 x3_2).f1.f0)) ∧ w'.cell? ⟨(ad485.add ((x3_2).toNat * 11)).block, (ad485.add ((x3_2).toNat * 11)).off + 2, none⟩ = some (.int .i64 ((rd_T25 l0_0 x3_2).f1.f1)) ∧ w'.cell? ⟨(ad485.add ((x3_2).toNat * 11)).block, (ad485.add ((x3_2).toNat * 11)).off + 3, none⟩ = some (.int .i64 ((rd_T25 l0_0 x3_2).f2.f0)) ∧ w'.cell? ⟨(ad485.add ((x3_2).toNat * 11)).block, (ad485.add ((x3_2).toNat * 11)).off + 4, none⟩ = some (.int .i64 ((rd_T25 l0_0 x3_2).f2.f1)) ∧ w'.cell? ⟨(ad485.add ((x3_2).toNat * 11)).block, (ad485.add ((x3_2).toNat * 11)).off + 5, none⟩ = some (.int .i64 ((rd_T25 l0_0 x3_2).f3.f0)) ∧ w'.cell? ⟨(ad485.add ((x3_2).toNat * 11)).block, (ad485.add ((x3_2).toNat * 11)).off + 6, none⟩ = some (.int .i64 ((rd_T25 l0_0 x3_2).f3.f1)) ∧ w'.cell? ⟨(ad485.add ((x3_2).toNat * 11)).block, (ad485.add ((x3_2).toNat * 11)).off + 7, none⟩ = some (.int .i64 ((rd_T25 l0_0 x3_2).f4)) ∧ w'.cell? ⟨(ad485.add ((x3_2).toNat * 11)).block, (ad485.add ((x3_2).toNat * 11)).off + 8, none⟩ = some (.int .i64 ((rd_T25 l0_0 x3_2).f5.f0)) ∧ w'.cell? ⟨(ad485.add ((x3_2).toNat * 11)).block, (ad485.add ((x3_2).toNat * 11)).off + 9, none⟩ = some (.int .i64 ((rd_T25 l0_0 x3_2).f5.f1)) ∧ w'.cell? ⟨(ad485.add ((x3_2).toNat * 11)).block, (ad485.add ((x3_2).toNat * 11)).off + 10, none⟩ = some (.int .i64 ((rd_T25 l0_0 x3_2).f6)) ∧ w'.cell? (ad485.add (((ji13)).toNat * 11)) = some (.int .i64 ((rd_T25 l0_0 (ji13)).f0)) ∧ w'.cell? ⟨(ad485.add (((ji13)).toNat * 11)).block, (ad485.add (((ji13)).toNat * 11)).off + 1, none⟩ = some (.int .i64 ((rd_T25 l0_0 (ji13)).f1.f0)) ∧ w'.cell? ⟨(ad485.add (((ji13)).toNat * 11)).block, (ad485.add (((ji13)).toNat * 11)).off + 2, none⟩ = some (.int .i64 ((rd_T25 l0_0 (ji13)).f1.f1)) ∧ w'.cell? ⟨(ad485.add (((ji13)).toNat * 11)).block, (ad485.add (((ji13)).toNat * 11)).off + 3, none⟩ = some (.int .i64 ((rd_T25 l0_0 (ji13)).f2.f0)) ∧ w'.cell? ⟨(ad485.add (((ji13)).toNat * 11)).block, (ad485.add (((ji13)).toNat * 11)).off + 4, none⟩ = some (.int .i64 ((rd_T25 l0_0 (ji13)).f2.f1)) ∧ w'.cell? ⟨(ad485.add (((ji13)).toNat * 11)).block, (ad485.add (((ji13)).toNat * 11)).off + 5, none⟩ = some (.int .i64 ((rd_T25 l0_0 (ji13)).f3.f0)) ∧ w'.cell? ⟨(ad485.add (((ji13)).toNat * 11)).block, (ad485.add (((ji13)).toNat * 11)).off + 6, none⟩ = some (.int .i64 ((rd_T25 l0_0 (ji13)).f3.f1)) ∧ w'.cell? ⟨(ad485.add (((ji13)).toNat * 11)).block, (ad485.add (((ji13)).toNat * 11)).off + 7, none⟩ = some (.int .i64 ((rd_T25 l0_0 (ji13)).f4)) ∧ w'.cell? ⟨(ad485.add (((ji13)).toNat * 11)).block, (ad485.add (((ji13)).toNat * 11)).off + 8, none⟩ = some (.int .i64 ((rd_T25 l0_0 (ji13)).f5.f0)) ∧ w'.cell? ⟨(ad485.add (((ji13)).toNat * 11)).block, (ad485.add (((ji13)).toNat * 11)).off + 9, none⟩ = some (.int .i64 ((rd_T25 l0_0 (ji13)).f5.f1)) ∧ w'.cell? ⟨(ad485.add (((ji13)).toNat * 11)).block, (ad485.add (((ji13)).toNat * 11)).off + 10, none⟩ = some (.int .i64 ((rd_T25 l0_0 (ji13)).f6)) ∧ w'.cell? (ad485.add ((x3_2).toNat * 11)) = some (.int .i64 ((rd_T25 l0_0 x3_2).f0)) ∧ w'.cell? ⟨(ad485.add ((x3_2).toNat * 11)).block, (ad485.add ((x3_2).toNat * 11)).off + 1, none⟩ = some (.int .i64 ((rd_T25 l0_0 x3_2).f1.f0)) ∧ w'.cell? ⟨(ad485.add ((x3_2).toNat * 11)).block, (ad485.add ((x3_2).toNat * 11)).off + 2, none⟩ = some (.int .i64 ((rd_T25 l0_0 x3_2).f1.f1)) ∧ w'.cell? ⟨(ad485.add ((x3_2).toNat * 11)).block, (ad485.add ((x3_2).toNat * 11)).off + 3, none⟩ = some (.int .i64 ((rd_T25 l0_0 x3_2).f2.f0)) ∧ w'.cell? ⟨(ad485.add ((x3_2).toNat * 11)).block, (ad485.add ((x3_2).toNat * 11)).off + 4, none⟩ = some (.int .i64 ((rd_T25 l0_0 x3_2).f2.f1)) ∧ w'.cell? ⟨(ad485.add ((x3_2).toNat * 11)).block, (ad485.add ((x3_2).toNat * 11)).off + 5, none⟩ = some (.int .i64 ((rd_T25 l0_0 x3_2).f3.f0)) ∧ w'.cell? ⟨(ad485.add ((x3_2).toNat * 11)).block, (ad485.add ((x3_2).toNat * 11)).off + 6, none⟩ = some (.int .i64 ((rd_T25 l0_0 x3_2).f3.f1)) ∧ w'.cell? ⟨(ad485.add ((x3_2).toNat * 11)).block, (ad485.add ((x3_2).toNat * 11)).off + 7, none⟩ = some (.int .i64 ((rd_T25 l0_0 x3_2).f4)) ∧ w'.cell? ⟨(ad485.add ((x3_2).toNat * 11)).block, (ad485.add ((x3_2).toNat * 11)).off + 8, none⟩ = some (.int .i64 ((rd_T25 l0_0 x3_2).f5.f0)) ∧ w'.cell? ⟨(ad485.add ((x3_2).toNat * 11)).block, (ad485.add ((x3_2).toNat * 11)).off + 9, none⟩ = some (.int .i64 ((rd_T25 l0_0 x3_2).f5.f1)) ∧ w'.cell? ⟨(ad485.add ((x3_2).toNat * 11)).block, (ad485.add ((x3_2).toNat * 11)).off + 10, none⟩ = some (.int .i64 ((rd_T25 l0_0 x3_2).f6))) (ds := []) #[false, false, false, false, false, false, false, false, false, false, false, false, false, false, false, false, false, false, false, false, false, false, false, false, false, false, false] (by kernel_rfl) rfl rfl ⟨(blk_cell BK484.out 0).trans rfl, (blk_cell BK484.out 1).trans rfl, ((HB.out.cell (World.block_lt_of_cell? w _ hw485_0)).trans hw485_0), ((HB.out.cell (World.block_lt_of_cell? w _ hw485_1)).trans hw485_1), ((HB.out.cell (World.block_lt_of_cell? w _ hw485_2)).trans hw485_2), ((HB.out.cell (World.block_lt_of_cell? w _ hw485_3)).trans hw485_3), ((HB.out.cell (World.block_lt_of_cell? w _ hw485_4)).trans hw485_4), ((HB.out.cell (World.block_lt_of_cell? w _ hw485_5)).trans hw485_5), ((HB.out.cell (World.block_lt_of_cell? w _ hw485_6)).trans hw485_6), ((HB.out.cell (World.block_lt_of_cell? w _ hw485_7)).trans hw485_7), ((HB.out.cell (World.block_lt_of_cell? w _ hw485_8)).trans hw485_8), ((HB.out.cell (World.block_lt_of_cell? w _ hw485_9)).trans hw485_9), ((HB.out.cell (World.block_lt_of_cell? w _ hw485_10)).trans hw485_10), ((HB.out.cell (World.block_lt_of_cell? w _ hw487_0)).trans hw487_0), ((HB.out.cell (World.block_lt_of_cell? w _ hw487_1)).trans hw487_1), ((HB.out.cell (World.block_lt_of_cell? w _ hw487_2)).trans hw487_2), ((HB.out.cell (World.block_lt_of_cell? w _ hw487_3)).trans hw487_3), ((HB.out.cell (World.block_lt_of_cell? w _ hw487_4)).trans hw487_4), ((HB.out.cell (World.block_lt_of_cell? w _ hw487_5)).trans hw487_5), ((HB.out.cell (World.block_lt_of_cell? w _ hw487_6)).trans hw487_6), ((HB.out.cell (World.block_lt_of_cell? w _ hw487_7)).trans hw487_7), ((HB.out.cell (World.block_lt_of_cell? w _ hw487_8)).trans hw487_8), ((HB.out.cell (World.block_lt_of_cell? w _ hw487_9)).trans hw487_9), ((HB.out.cell (World.block_lt_of_cell? w _ hw487_10)).trans hw487_10), ((HB.out.cell (World.block_lt_of_cell? w _ hw488_0)).trans hw488_0), ((HB.out.cell (World.block_lt_of_cell? w _ hw488_1)).trans hw488_1), ((HB.out.cell (World.block_lt_of_cell? w _ hw488_2)).trans hw488_2), ((HB.out.cell (World.block_lt_of_cell? w _ hw488_3)).trans hw488_3), ((HB.out.cell (World.block_lt_of_cell? w _ hw488_4)).trans hw488_4), ((HB.out.cell (World.block_lt_of_cell? w _ hw488_5)).trans hw488_5), ((HB.out.cell (World.block_lt_of_cell? w _ hw488_6)).trans hw488_6), ((HB.out.cell (World.block_lt_of_cell? w _ hw488_7)).trans hw488_7), ((HB.out.cell (World.block_lt_of_cell? w _ hw488_8)).trans hw488_8), ((HB.out.cell (World.block_lt_of_cell? w _ hw488_9)).trans hw488_9), ((HB.out.cell (World.block_lt_of_cell? w _ hw488_10)).trans hw488_10)⟩ (fun hHeld => ?_); refine with_tabW potbankref01_Check.tab6 potbankref01_Check.bits6 (fun HT_ HW_ => ?_)
                          generalize wr.drew = w21 at BK484 HB hx485_0 hx485_1 hx485_10 hx485_2 hx485_3 hx485_4 hx485_5 hx485_6 hx485_7 hx485_8 hx485_9 hx487_0 hx487_1 hx487_10 hx487_2 hx487_3 hx487_4 hx487_5 hx487_6 hx487_7 hx487_8 hx487_9 hx488_0 hx488_1 hx488_10 hx488_2 hx488_3 hx488_4 hx488_5 hx488_6 hx488_7 hx488_8 hx488_9 hHeld ⊢
                          refine pure_ (i := 0) (N := some 22) (v := ?_) (a' := ?_) #[true, false, false, false, false, false, false, false, false, false, false, false, false, false, false, false, false, false, false, false, false, false, false, false, false, false, false] rfl rfl (any_of HT_.out (by kernel_rfl)) (fun _ _ _ h => h) (Or.inl ⟨by rfl, ?_⟩) ?_ ?_
                          rotate_left
                          · intro w'
                            go_simp
                            with_reducible rfl
                          rotate_left
                          · simp only [Act.put, List.setIfInBounds_toArray, List.set_cons_zero, List.set_cons_succ, i64_w, i32_w]
                            rfl
                          refine pure_ (i := 2) (N := some 24) (v := ?_) (a' := ?_) #[true, false, true, false, false, false, false, false, false, false, false, false, false, false, false, false, false, false, false, false, false, false, false, false, false, false, false] rfl rfl (any_of HT_.out (by kernel_rfl)) (fun _ _ _ h => h) (Or.inl ⟨by rfl, ?_⟩) ?_ ?_
                          rotate_left
                          · intro w'
                            go_simp
                            with_reducible rfl
                          rotate_left
                          · simp only [Act.put, List.setIfInBounds_toArray, List.set_cons_zero, List.set_cons_succ, i64_w, i32_w]
                            rfl
                          refine take_ (i := 1) (N := some 23) (v := ?_) (a' := ?_) #[true, true, true, false, false, false, false, false, false, false, false, false, false, false, false, false, false, false, false, false, false, false, false, false, false, false, false] rfl rfl (take_ofW HT_.out HW_.out (by kernel_rfl)) (fun _ _ _ h => h) (Or.inl ⟨by rfl, ?_⟩) hHeld ?_ ?_
                          rotate_left
                          · rintro w' ⟨s0, s1, s2, s3, s4, s5, s6, s7, s8, s9, s10, s11, s12, s13, s14, s15, s16, s17, s18, s19, s20, s21, s22, s23, s24, s25, s26, s27, s28, s29, s30, s31, s32, s33, s34⟩
                            go_simp
                            with_reducible rfl
                          rotate_left
                          · simp only [Act.put, List.setIfInBounds_toArray, List.set_cons_zero, List.set_cons_succ, i64_w, i32_w]
                            rfl
                          refine pure_ (i := 3) (N := some 25) (v := ?_) (a' := ?_) #[true, true, true, true, false, false, false, false, false, false, false, false, false, false, false, false, false, false, false, false, false, false, false, false, false, false, false] rfl rfl (any_of HT_.out (by kernel_rfl)) (fun _ _ _ h => h) (Or.inl ⟨by rfl, ?_⟩) ?_ ?_
                          rotate_left
                          · intro w'
                            go_simp
                            with_reducible rfl
                          rotate_left
                          · simp only [Act.put, List.setIfInBounds_toArray, List.set_cons_zero, List.set_cons_succ, i64_w, i32_w]
                            rfl
                          refine take_ (i := 4) (N := some 26) (v := ?_) (a' := ?_) #[true, true, true, true, true, false, false, false, false, false, false, false, false, false, false, false, false, false, false, false, false, false, false, false, false, false, false] rfl rfl (take_ofW HT_.out HW_.out (by kernel_rfl)) (fun _ _ _ h => h) (Or.inl ⟨by rfl, ?_⟩) hHeld ?_ ?_
                          rotate_left
                          · rintro w' ⟨s0, s1, s2, s3, s4, s5, s6, s7, s8, s9, s10, s11, s12, s13, s14, s15, s16, s17, s18, s19, s20, s21, s22, s23, s24, s25, s26, s27, s28, s29, s30, s31, s32, s33, s34⟩
                            go_simp
                            with_reducible rfl
                          rotate_left
                          · simp only [Act.put, List.setIfInBounds_toArray, List.set_cons_zero, List.set_cons_succ, i64_w, i32_w]
                            rfl
                          refine one_ (i := 5) (N := some 27) #[true, true, true, true, true, true, false, false, false, false, false, false, false, false, false, false, false, false, false, false, false, false, false, false, false, false, false] rfl rfl (one_of HT_.out (by kernel_rfl)) (by decide) (fun K hK => ?_)
                          refine goes_ Try.func42 (by kernel_rfl) rfl #[.agg #[.int .i64 ((rd_T25 l0_0 x3_2).f0), .int .i64 ((rd_T25 l0_0 x3_2).f1.f0), .int .i64 ((rd_T25 l0_0 x3_2).f1.f1), .int .i64 ((rd_T25 l0_0 x3_2).f2.f0), .int .i64 ((rd_T25 l0_0 x3_2).f2.f1), .int .i64 ((rd_T25 l0_0 x3_2).f3.f0), .int .i64 ((rd_T25 l0_0 x3_2).f3.f1), .int .i64 ((rd_T25 l0_0 x3_2).f4), .int .i64 ((rd_T25 l0_0 x3_2).f5.f0), .int .i64 ((rd_T25 l0_0 x3_2).f5.f1), .int .i64 ((rd_T25 l0_0 x3_2).f6)]] (by rfl) rfl rfl (by (try simp only [List.map_toArray, List.map_cons, List.map_nil]); first | done | rfl | (simp only [List.length_drop, List.length_take]; rfl)) ?_
                          with_reducible refine (potbankref01_CheckShape.calls ((rd_T25 l0_0 x3_2).f0) ((rd_T25 l0_0 x3_2).f1.f0) ((rd_T25 l0_0 x3_2).f1.f1) ((rd_T25 l0_0 x3_2).f2.f0) ((rd_T25 l0_0 x3_2).f2.f1) ((rd_T25 l0_0 x3_2).f3.f0) ((rd_T25 l0_0 x3_2).f3.f1) ((rd_T25 l0_0 x3_2).f4) ((rd_T25 l0_0 x3_2).f5.f0) ((rd_T25 l0_0 x3_2).f5.f1) ((rd_T25 l0_0 x3_2).f6) t486 _ A10.out).mono ?_
                          rintro e w22 ⟨rfl, hb⟩
                          refine ⟨_, rfl, ?_⟩
                          have n0_ := blkE BK484 hb
                          have n1_ := Aside0.mk (below_step (by repeat (first | (with_reducible first | exact HB.out | apply below_alloc | apply pw_below_drewN | apply below_drew1 | refine below_set ?_ GE484.out) | exact HB.out)) hb)
                          clear BK484
                          clear HB
                          have BK484 := n0_
                          have HB := n1_
                          clear n0_ n1_
                          (try clear hb)
                          (try clear hb2)
                          (try clear hk)
                          (try clear hi)
                          refine hK.out _ _ ⟨(blk_cell BK484.out 0).trans rfl, (blk_cell BK484.out 1).trans rfl, ((HB.out.cell (World.block_lt_of_cell? w _ hw485_0)).trans hw485_0), ((HB.out.cell (World.block_lt_of_cell? w _ hw485_1)).trans hw485_1), ((HB.out.cell (World.block_lt_of_cell? w _ hw485_2)).trans hw485_2), ((HB.out.cell (World.block_lt_of_cell? w _ hw485_3)).trans hw485_3), ((HB.out.cell (World.block_lt_of_cell? w _ hw485_4)).trans hw485_4), ((HB.out.cell (World.block_lt_of_cell? w _ hw485_5)).trans hw485_5), ((HB.out.cell (World.block_lt_of_cell? w _ hw485_6)).trans hw485_6), ((HB.out.cell (World.block_lt_of_cell? w _ hw485_7)).trans hw485_7), ((HB.out.cell (World.block_lt_of_cell? w _ hw485_8)).trans hw485_8), ((HB.out.cell (World.block_lt_of_cell? w _ hw485_9)).trans hw485_9), ((HB.out.cell (World.block_lt_of_cell? w _ hw485_10)).trans hw485_10), ((HB.out.cell (World.block_lt_of_cell? w _ hw487_0)).trans hw487_0), ((HB.out.cell (World.block_lt_of_cell? w _ hw487_1)).trans hw487_1), ((HB.out.cell (World.block_lt_of_cell? w _ hw487_2)).trans hw487_2), ((HB.out.cell (World.block_lt_of_cell? w _ hw487_3)).trans hw487_3), ((HB.out.cell (World.block_lt_of_cell? w _ hw487_4)).trans hw487_4), ((HB.out.cell (World.block_lt_of_cell? w _ hw487_5)).trans hw487_5), ((HB.out.cell (World.block_lt_of_cell? w _ hw487_6)).trans hw487_6), ((HB.out.cell (World.block_lt_of_cell? w _ hw487_7)).trans hw487_7), ((HB.out.cell (World.block_lt_of_cell? w _ hw487_8)).trans hw487_8), ((HB.out.cell (World.block_lt_of_cell? w _ hw487_9)).trans hw487_9), ((HB.out.cell (World.block_lt_of_cell? w _ hw487_10)).trans hw487_10), ((HB.out.cell (World.block_lt_of_cell? w _ hw488_0)).trans hw488_0), ((HB.out.cell (World.block_lt_of_cell? w _ hw488_1)).trans hw488_1), ((HB.out.cell (World.block_lt_of_cell? w _ hw488_2)).trans hw488_2), ((HB.out.cell (World.block_lt_of_cell? w _ hw488_3)).trans hw488_3), ((HB.out.cell (World.block_lt_of_cell? w _ hw488_4)).trans hw488_4), ((HB.out.cell (World.block_lt_of_cell? w _ hw488_5)).trans hw488_5), ((HB.out.cell (World.block_lt_of_cell? w _ hw488_6)).trans hw488_6), ((HB.out.cell (World.block_lt_of_cell? w _ hw488_7)).trans hw488_7), ((HB.out.cell (World.block_lt_of_cell? w _ hw488_8)).trans hw488_8), ((HB.out.cell (World.block_lt_of_cell? w _ hw488_9)).trans hw488_9), ((HB.out.cell (World.block_lt_of_cell? w _ hw488_10)).trans hw488_10)⟩ (fun hHeld => ?_)
                          clear hK K
                          refine norm_ (a' := ?_) ?_ ?_
                          rotate_left
                          · show Act.put _ (some 27) _ = _
                            simp only [Act.put, List.setIfInBounds_toArray, List.set_cons_zero, List.set_cons_succ, i64_w, i32_w]
                            rfl
                          refine pure_ (i := 6) (N := some 28) (v := ?_) (a' := ?_) #[true, true, true, true, true, true, true, false, false, false, false, false, false, false, false, false, false, false, false, false, false, false, false, false, false, false, false] rfl rfl (any_of HT_.out (by kernel_rfl)) (fun _ _ _ h => h) (Or.inl ⟨by rfl, ?_⟩) ?_ ?_
                          rotate_left
                          · intro w'
                            go_simp
                            with_reducible rfl
                          rotate_left
                          · simp only [Act.put, List.setIfInBounds_toArray, List.set_cons_zero, List.set_cons_succ, i64_w, i32_w]
                            rfl
                          refine pure_ (i := 7) (N := some 29) (v := ?_) (a' := ?_) #[true, true, true, true, true, true, true, true, false, false, false, false, false, false, false, false, false, false, false, false, false, false, false, false, false, false, false] rfl rfl (any_of HT_.out (by kernel_rfl)) (fun _ _ _ h => h) (Or.inl ⟨by rfl, ?_⟩) ?_ ?_
                          rotate_left
                          · intro w'
                            go_simp
                            with_reducible rfl
                          rotate_left
                          · simp only [Act.put, List.setIfInBounds_toArray, List.set_cons_zero, List.set_cons_succ, i64_w, i32_w]
                            rfl
                          refine pure_ (i := 8) (N := some 30) (v := ?_) (a' := ?_) #[true, true, true, true, true, true, true, true, true, false, false, false, false, false, false, false, false, false, false, false, false, false, false, false, false, false, false] rfl rfl (any_of HT_.out (by kernel_rfl)) (fun _ _ _ h => h) (Or.inl ⟨by rfl, ?_⟩) ?_ ?_
                          rotate_left
                          · intro w'
                            go_simp
                            with_reducible rfl
                          rotate_left
                          · simp only [Act.put, List.setIfInBounds_toArray, List.set_cons_zero, List.set_cons_succ, i64_w, i32_w]
                            rfl
                          refine pure_ (i := 9) (N := some 31) (v := ?_) (a' := ?_) #[true, true, true, true, true, true, true, true, true, true, false, false, false, false, false, false, false, false, false, false, false, false, false, false, false, false, false] rfl rfl (any_of HT_.out (by kernel_rfl)) (fun _ _ _ h => h) (Or.inl ⟨by rfl, ?_⟩) ?_ ?_
                          rotate_left
                          · intro w'
                            go_simp
                            with_reducible rfl
                          rotate_left
                          · simp only [Act.put, List.setIfInBounds_toArray, List.set_cons_zero, List.set_cons_succ, i64_w, i32_w]
                            rfl
                          refine pure_ (i := 10) (N := some 32) (v := ?_) (a' := ?_) #[true, true, true, true, true, true, true, true, true, true, true, false, false, false, false, false, false, false, false, false, false, false, false, false, false, false, false] rfl rfl (any_of HT_.out (by kernel_rfl)) (fun _ _ _ h => h) (Or.inl ⟨by rfl, ?_⟩) ?_ ?_
                          rotate_left
                          · intro w'
                            go_simp
                            with_reducible rfl
                          rotate_left
                          · simp only [Act.put, List.setIfInBounds_toArray, List.set_cons_zero, List.set_cons_succ, i64_w, i32_w]
                            rfl
                          refine pure_ (i := 11) (N := some 33) (v := ?_) (a' := ?_) #[true, true, true, true, true, true, true, true, true, true, true, true, false, false, false, false, false, false, false, false, false, false, false, false, false, false, false] rfl rfl (any_of HT_.out (by kernel_rfl)) (fun _ _ _ h => h) (Or.inl ⟨by rfl, ?_⟩) ?_ ?_
                          rotate_left
                          · intro w'
                            go_simp
                            with_reducible rfl
                          rotate_left
                          · simp only [Act.put, List.setIfInBounds_toArray, List.set_cons_zero, List.set_cons_succ, i64_w, i32_w]
                            rfl
                          refine pure_ (i := 13) (N := some 35) (v := ?_) (a' := ?_) #[true, true, true, true, true, true, true, true, true, true, true, true, false, true, false, false, false, false, false, false, false, false, false, false, false, false, false] rfl rfl (any_of HT_.out (by kernel_rfl)) (fun _ _ _ h => h) (Or.inl ⟨by rfl, ?_⟩) ?_ ?_
                          rotate_left
                          · intro w'
                            go_simp
                            with_reducible rfl
                          rotate_left
                          · simp only [Act.put, List.setIfInBounds_toArray, List.set_cons_zero, List.set_cons_succ, i64_w, i32_w]
                            rfl
                          refine pure_ (i := 14) (N := some 36) (v := ?_) (a' := ?_) #[true, true, true, true, true, true, true, true, true, true, true, true, false, true, true, false, false, false, false, false, false, false, false, false, false, false, false] rfl rfl (any_of HT_.out (by kernel_rfl)) (fun _ _ _ h => h) (Or.inl ⟨by rfl, ?_⟩) ?_ ?_
                          rotate_left
                          · intro w'
                            go_simp
                            with_reducible rfl
                          rotate_left
                          · simp only [Act.put, List.setIfInBounds_toArray, List.set_cons_zero, List.set_cons_succ, i64_w, i32_w]
                            rfl
                          refine pure_ (i := 18) (N := some 40) (v := ?_) (a' := ?_) #[true, true, true, true, true, true, true, true, true, true, true, true, false, true, true, false, false, false, true, false, false, false, false, false, false, false, false] rfl rfl (any_of HT_.out (by kernel_rfl)) (fun _ _ _ h => h) (Or.inl ⟨by rfl, ?_⟩) ?_ ?_
                          rotate_left
                          · intro w'
                            go_simp
                            with_reducible rfl
                          rotate_left
                          · simp only [Act.put, List.setIfInBounds_toArray, List.set_cons_zero, List.set_cons_succ, i64_w, i32_w]
                            rfl
                          refine pure_ (i := 20) (N := some 42) (v := ?_) (a' := ?_) #[true, true, true, true, true, true, true, true, true, true, true, true, false, true, true, false, false, false, true, false, true, false, false, false, false, false, false] rfl rfl (any_of HT_.out (by kernel_rfl)) (fun _ _ _ h => h) (Or.inl ⟨by rfl, ?_⟩) ?_ ?_
                          rotate_left
                          · intro w'
                            go_simp
                            with_reducible rfl
                          rotate_left
                          · simp only [Act.put, List.setIfInBounds_toArray, List.set_cons_zero, List.set_cons_succ, i64_w, i32_w]
                            rfl
                          refine take_ (i := 12) (N := some 34) (v := ?_) (a' := ?_) #[true, true, true, true, true, true, true, true, true, true, true, true, true, true, true, false, false, false, true, false, true, false, false, false, false, false, false] rfl rfl (take_ofW HT_.out HW_.out (by kernel_rfl)) (fun _ _ _ h => h) (Or.inl ⟨by rfl, ?_⟩) hHeld ?_ ?_
                          rotate_left
                          · rintro w' ⟨s0, s1, s2, s3, s4, s5, s6, s7, s8, s9, s10, s11, s12, s13, s14, s15, s16, s17, s18, s19, s20, s21, s22, s23, s24, s25, s26, s27, s28, s29, s30, s31, s32, s33, s34⟩
                            go_simp
                            with_reducible rfl
                          rotate_left
                          · simp only [Act.put, List.setIfInBounds_toArray, List.set_cons_zero, List.set_cons_succ, i64_w, i32_w]
                            rfl
                          refine pure_ (i := 15) (N := some 37) (v := ?_) (a' := ?_) #[true, true, true, true, true, true, true, true, true, true, true, true, true, true, true, true, false, false, true, false, true, false, false, false, false, false, false] rfl rfl (any_of HT_.out (by kernel_rfl)) (fun _ _ _ h => h) (Or.inl ⟨by rfl, ?_⟩) ?_ ?_
                          rotate_left
                          · intro w'
                            go_simp
                            with_reducible rfl
                          rotate_left
                          · simp only [Act.put, List.setIfInBounds_toArray, List.set_cons_zero, List.set_cons_succ, i64_w, i32_w]
                            rfl
                          refine pure_ (i := 16) (N := some 38) (v := ?_) (a' := ?_) #[true, true, true, true, true, true, true, true, true, true, true, true, true, true, true, true, true, false, true, false, true, false, false, false, false, false, false] rfl rfl (any_of HT_.out (by kernel_rfl)) (fun _ _ _ h => h) (Or.inl ⟨by rfl, ?_⟩) ?_ ?_
                          rotate_left
                          · intro w'
                            go_simp
                            with_reducible rfl
                          rotate_left
                          · simp only [Act.put, List.setIfInBounds_toArray, List.set_cons_zero, List.set_cons_succ, i64_w, i32_w]
                            rfl
                          refine take_ (i := 17) (N := some 39) (v := ?_) (a' := ?_) #[true, true, true, true, true, true, true, true, true, true, true, true, true, true, true, true, true, true, true, false, true, false, false, false, false, false, false] rfl rfl (take_ofW HT_.out HW_.out (by kernel_rfl)) (fun _ _ _ h => h) (Or.inl ⟨by rfl, ?_⟩) hHeld ?_ ?_
                          rotate_left
                          · rintro w' ⟨s0, s1, s2, s3, s4, s5, s6, s7, s8, s9, s10, s11, s12, s13, s14, s15, s16, s17, s18, s19, s20, s21, s22, s23, s24, s25, s26, s27, s28, s29, s30, s31, s32, s33, s34⟩
                            go_simp
                            with_reducible rfl
                          rotate_left
                          · simp only [Act.put, List.setIfInBounds_toArray, List.set_cons_zero, List.set_cons_succ, i64_w, i32_w]
                            rfl
                          refine take_ (i := 19) (N := some 41) (v := ?_) (a' := ?_) #[true, true, true, true, true, true, true, true, true, true, true, true, true, true, true, true, true, true, true, true, true, false, false, false, false, false, false] rfl rfl (take_ofW HT_.out HW_.out (by kernel_rfl)) (fun _ _ _ h => h) (Or.inl ⟨by rfl, ?_⟩) hHeld ?_ ?_
                          rotate_left
                          · rintro w' ⟨s0, s1, s2, s3, s4, s5, s6, s7, s8, s9, s10, s11, s12, s13, s14, s15, s16, s17, s18, s19, s20, s21, s22, s23, s24, s25, s26, s27, s28, s29, s30, s31, s32, s33, s34⟩
                            go_simp
                            with_reducible rfl
                          rotate_left
                          · simp only [Act.put, List.setIfInBounds_toArray, List.set_cons_zero, List.set_cons_succ, i64_w, i32_w]
                            rfl
                          refine pure_ (i := 21) (N := some 43) (v := ?_) (a' := ?_) #[true, true, true, true, true, true, true, true, true, true, true, true, true, true, true, true, true, true, true, true, true, true, false, false, false, false, false] rfl rfl (any_of HT_.out (by kernel_rfl)) (fun _ _ _ h => h) (Or.inl ⟨by rfl, ?_⟩) ?_ ?_
                          rotate_left
                          · intro w'
                            go_simp
                            with_reducible rfl
                          rotate_left
                          · simp only [Act.put, List.setIfInBounds_toArray, List.set_cons_zero, List.set_cons_succ, i64_w, i32_w]
                            rfl
                          refine pure_ (i := 22) (N := some 44) (v := ?_) (a' := ?_) #[true, true, true, true, true, true, true, true, true, true, true, true, true, true, true, true, true, true, true, true, true, true, true, false, false, false, false] rfl rfl (any_of HT_.out (by kernel_rfl)) (fun _ _ _ h => h) (Or.inl ⟨by rfl, ?_⟩) ?_ ?_
                          rotate_left
                          · intro w'
                            go_simp
                            with_reducible rfl
                          rotate_left
                          · simp only [Act.put, List.setIfInBounds_toArray, List.set_cons_zero, List.set_cons_succ, i64_w, i32_w]
                            rfl
                          refine take_ (i := 23) (N := some 45) (v := ?_) (a' := ?_) #[true, true, true, true, true, true, true, true, true, true, true, true, true, true, true, true, true, true, true, true, true, true, true, true, false, false, false] rfl rfl (take_ofW HT_.out HW_.out (by kernel_rfl)) (fun _ _ _ h => h) (Or.inl ⟨by rfl, ?_⟩) hHeld ?_ ?_
                          rotate_left
                          · rintro w' ⟨s0, s1, s2, s3, s4, s5, s6, s7, s8, s9, s10, s11, s12, s13, s14, s15, s16, s17, s18, s19, s20, s21, s22, s23, s24, s25, s26, s27, s28, s29, s30, s31, s32, s33, s34⟩
                            go_simp
                            with_reducible rfl
                          rotate_left
                          · simp only [Act.put, List.setIfInBounds_toArray, List.set_cons_zero, List.set_cons_succ, i64_w, i32_w]
                            rfl
                          refine pure_ (i := 24) (N := some 46) (v := ?_) (a' := ?_) #[true, true, true, true, true, true, true, true, true, true, true, true, true, true, true, true, true, true, true, true, true, true, true, true, true, false, false] rfl rfl (any_of HT_.out (by kernel_rfl)) (fun _ _ _ h => h) (Or.inl ⟨by rfl, ?_⟩) ?_ ?_
                          rotate_left
                          · intro w'
                            go_simp
                            with_reducible rfl
                          rotate_left
                          · simp only [Act.put, List.setIfInBounds_toArray, List.set_cons_zero, List.set_cons_succ, i64_w, i32_w]
                            rfl
                          refine pure_ (i := 25) (N := some 47) (v := ?_) (a' := ?_) #[true, true, true, true, true, true, true, true, true, true, true, true, true, true, true, true, true, true, true, true, true, true, true, true, true, true, false] rfl rfl (any_of HT_.out (by kernel_rfl)) (fun _ _ _ h => h) (Or.inl ⟨by rfl, ?_⟩) ?_ ?_
                          rotate_left
                          · intro w'
                            go_simp
                            with_reducible rfl
                          rotate_left
                          · simp only [Act.put, List.setIfInBounds_toArray, List.set_cons_zero, List.set_cons_succ, i64_w, i32_w]
                            rfl
                          refine pure_ (i := 26) (N := some 48) (v := ?_) (a' := ?_) #[true, true, true, true, true, true, true, true, true, true, true, true, true, true, true, true, true, true, true, true, true, true, true, true, true, true, true] rfl rfl (any_of HT_.out (by kernel_rfl)) (fun _ _ _ h => h) (Or.inl ⟨by rfl, ?_⟩) ?_ ?_
                          rotate_left
                          · intro w'
                            go_simp
                            with_reducible rfl
                          rotate_left
                          · simp only [Act.put, List.setIfInBounds_toArray, List.set_cons_zero, List.set_cons_succ, i64_w, i32_w]
                            rfl
                          refine done_ (done_of HT_.out (by kernel_rfl)) ?_
                          try go_wp2
                          go_roundg k2
                          case measure => have := HJ1.out; have := HK2.out; omega
                          case rel => exact ⟨(wrap64 (x3_2 + 1)), (by first | rfl | (simp; done) | (simp [*]; done)), H', ⟨by have := HJ1.out; have := HK2.out; omega⟩, ⟨by (with_reducible repeat first | apply blk_drewN | apply blk_drew | apply blk_alloc); exact BK484.out⟩, ⟨by repeat (first | (with_reducible first | exact HB.out | apply below_alloc | apply pw_below_drewN | apply below_drew1 | refine below_set ?_ GE484.out) | exact HB.out)⟩⟩
                      · rw [if_neg c15] at H
                        exact absurd H (by simp)
                    · rw [if_neg c14] at H
                      exact absurd H (by simp)
                  · rw [if_neg c12] at H
                    have c12b0 : decide (0 < x3_2) = false := decide_eq_false c12
                    clear c12
                    have H' := Aside0.mk H
                    clear H
                    have hcz23_0 : wr.cell? ⟨gb484, 0, none⟩ = some (.slice A0_0 l0_0.length c0_0) := (blk_cell BK484.out 0).trans rfl
                    have hcz23_1 : wr.cell? ⟨gb484, 1, none⟩ = some (.slice A0_1 l0_1.length c0_1) := (blk_cell BK484.out 1).trans rfl
                    have hfz23_0 := blk_frozen BK484.out 0
                    have hfz23_1 := blk_frozen BK484.out 1
                    try go_wp2
                    have n0_ := Aside0.mk (blk_drew BK484.out)
                    have n1_ := Aside0.mk (below_drew1 HB.out)
                    clear BK484
                    clear HB
                    have BK484 := n0_
                    have HB := n1_
                    clear n0_ n1_
                    have p485 : 0 ≤ (x3_2 : Int) := of_decide_eq_true (by first | (with_reducible assumption) | assumption)
                    have q485 : x3_2 < (l0_0.length : Int) := of_decide_eq_true (by first | (with_reducible assumption) | assumption)
                    obtain ⟨ad485, e485, hx485_0, hx485_1, hx485_2, hx485_3, hx485_4, hx485_5, hx485_6, hx485_7, hx485_8, hx485_9, hx485_10⟩ := at_T25 HR0_0.out x3_2 p485 q485
                    have hw485_10 := hx485_10
                    have hw485_9 := hx485_9
                    have hw485_8 := hx485_8
                    have hw485_7 := hx485_7
                    have hw485_6 := hx485_6
                    have hw485_5 := hx485_5
                    have hw485_4 := hx485_4
                    have hw485_3 := hx485_3
                    have hw485_2 := hx485_2
                    have hw485_1 := hx485_1
                    have hw485_0 := hx485_0
                    cases e485
                    replace hx485_0 := (HB.out.cell (World.block_lt_of_cell? w _ hx485_0)).trans hx485_0
                    replace hx485_1 := (HB.out.cell (World.block_lt_of_cell? w _ hx485_1)).trans hx485_1
                    replace hx485_2 := (HB.out.cell (World.block_lt_of_cell? w _ hx485_2)).trans hx485_2
                    replace hx485_3 := (HB.out.cell (World.block_lt_of_cell? w _ hx485_3)).trans hx485_3
                    replace hx485_4 := (HB.out.cell (World.block_lt_of_cell? w _ hx485_4)).trans hx485_4
                    replace hx485_5 := (HB.out.cell (World.block_lt_of_cell? w _ hx485_5)).trans hx485_5
                    replace hx485_6 := (HB.out.cell (World.block_lt_of_cell? w _ hx485_6)).trans hx485_6
                    replace hx485_7 := (HB.out.cell (World.block_lt_of_cell? w _ hx485_7)).trans hx485_7
                    replace hx485_8 := (HB.out.cell (World.block_lt_of_cell? w _ hx485_8)).trans hx485_8
                    replace hx485_9 := (HB.out.cell (World.block_lt_of_cell? w _ hx485_9)).trans hx485_9
                    replace hx485_10 := (HB.out.cell (World.block_lt_of_cell? w _ hx485_10)).trans hx485_10
                    replace p485 := eq_true p485
                    replace q485 := eq_true q485
                    refine start_ (n := 27) (S := fun w' => w'.cell? ⟨gb484, 0, none⟩ = some (.slice (some ad485) l0_0.length c0_0) ∧ w'.cell? ⟨gb484, 1, none⟩ = some (.slice A0_1 l0_1.length c0_1) ∧ w'.cell? (ad485.add ((x3_2).toNat * 11)) = some (.int .i64 ((rd_T25 l0_0 x3_2).f0)) ∧ w'.cell? ⟨(ad485.add ((x3_2).toNat * 11)).block, (ad485.add ((x3_2).toNat * 11)).off + 1, none⟩ = some (.int .i64 ((rd_T25 l0_0 x3_2).f1.f0)) ∧ w'.cell? ⟨(ad485.add ((x3_2).toNat * 11)).block, (ad485.add ((x3_2).toNat * 11)).off + 2, none⟩ = some (.int .i64 ((rd_T25 l0_0 x3_2).f1.f1)) ∧ w'.cell? ⟨(ad485.add ((x3_2).toNat * 11)).block, (ad485.add ((x3_2).toNat * 11)).off + 3, none⟩ = some (.int .i64 ((rd_T25 l0_0 x3_2).f2.f0)) ∧ w'.cell? ⟨(ad485.add ((x3_2).toNat * 11)).block, (ad485.add ((x3_2).toNat * 11)).off + 4, none⟩ = some (.int .i64 ((rd_T25 l0_0 x3_2).f2.f1)) ∧ w'.cell? ⟨(ad485.add ((x3_2).toNat * 11)).block, (ad485.add ((x3_2).toNat * 11)).off + 5, none⟩ = some (.int .i64 ((rd_T25 l0_0 x3_2).f3.f0)) ∧ w'.cell? ⟨(ad485.add ((x3_2).toNat * 11)).block, (ad485.add ((x3_2).toNat * 11)).off + 6, none⟩ = some (.int .i64 ((rd_T25 l0_0 x3_2).f3.f1)) ∧ w'.cell? ⟨(ad485.add ((x3_2).toNat * 11)).block, (ad485.add ((x3_2).toNat * 11)).off + 7, none⟩ = some (.int .i64 ((rd_T25 l0_0 x3_2).f4)) ∧ w'.cell? ⟨(ad485.add ((x3_2).toNat * 11)).block, (ad485.add ((x3_2).toNat * 11)).off + 8, none⟩ = some (.int .i64 ((rd_T25 l0_0 x3_2).f5.f0)) ∧ w'.cell? ⟨(ad485.add ((x3_2).toNat * 11)).block, (ad485.add ((x3_2).toNat * 11)).off + 9, none⟩ = some (.int .i64 ((rd_T25 l0_0 x3_2).f5.f1)) ∧ w'.cell? ⟨(ad485.add ((x3_2).toNat * 11)).block, (ad485.add ((x3_2).toNat * 11)).off + 10, none⟩ = some (.int .i64 ((rd_T25 l0_0 x3_2).f6))) (ds := []) #[false, false, false, false, false, false, false, false, false, false, false, false, false, false, false, false, false, false, false, false, false, false, false, false, false, false, false] (by kernel_rfl) rfl rfl ⟨(blk_cell BK484.out 0).trans rfl, (blk_cell BK484.out 1).trans rfl, ((HB.out.cell (World.block_lt_of_cell? w _ hw485_0)).trans hw485_0), ((HB.out.cell (World.block_lt_of_cell? w _ hw485_1)).trans hw485_1), ((HB.out.cell (World.block_lt_of_cell? w _ hw485_2)).trans hw485_2), ((HB.out.cell (World.block_lt_of_cell? w _ hw485_3)).trans hw485_3), ((HB.out.cell (World.block_lt_of_cell? w _ hw485_4)).trans hw485_4), ((HB.out.cell (World.block_lt_of_cell? w _ hw485_5)).trans hw485_5), ((HB.out.cell (World.block_lt_of_cell? w _ hw485_6)).trans hw485_6), ((HB.out.cell (World.block_lt_of_cell? w _ hw485_7)).trans hw485_7), ((HB.out.cell (World.block_lt_of_cell? w _ hw485_8)).trans hw485_8), ((HB.out.cell (World.block_lt_of_cell? w _ hw485_9)).trans hw485_9), ((HB.out.cell (World.block_lt_of_cell? w _ hw485_10)).trans hw485_10)⟩ (fun hHeld => ?_); refine with_tabW potbankref01_Check.tab6 potbankref01_Check.bits6 (fun HT_ HW_ => ?_)
                    generalize wr.drew = w24 at BK484 HB hx485_0 hx485_1 hx485_10 hx485_2 hx485_3 hx485_4 hx485_5 hx485_6 hx485_7 hx485_8 hx485_9 hHeld ⊢
                    refine pure_ (i := 0) (N := some 22) (v := ?_) (a' := ?_) #[true, false, false, false, false, false, false, false, false, false, false, false, false, false, false, false, false, false, false, false, false, false, false, false, false, false, false] rfl rfl (any_of HT_.out (by kernel_rfl)) (fun _ _ _ h => h) (Or.inl ⟨by rfl, ?_⟩) ?_ ?_
                    rotate_left
                    · intro w'
                      go_simp
                      with_reducible rfl
                    rotate_left
                    · simp only [Act.put, List.setIfInBounds_toArray, List.set_cons_zero, List.set_cons_succ, i64_w, i32_w]
                      rfl
                    refine pure_ (i := 2) (N := some 24) (v := ?_) (a' := ?_) #[true, false, true, false, false, false, false, false, false, false, false, false, false, false, false, false, false, false, false, false, false, false, false, false, false, false, false] rfl rfl (any_of HT_.out (by kernel_rfl)) (fun _ _ _ h => h) (Or.inl ⟨by rfl, ?_⟩) ?_ ?_
                    rotate_left
                    · intro w'
                      go_simp
                      with_reducible rfl
                    rotate_left
                    · simp only [Act.put, List.setIfInBounds_toArray, List.set_cons_zero, List.set_cons_succ, i64_w, i32_w]
                      rfl
                    refine take_ (i := 1) (N := some 23) (v := ?_) (a' := ?_) #[true, true, true, false, false, false, false, false, false, false, false, false, false, false, false, false, false, false, false, false, false, false, false, false, false, false, false] rfl rfl (take_ofW HT_.out HW_.out (by kernel_rfl)) (fun _ _ _ h => h) (Or.inl ⟨by rfl, ?_⟩) hHeld ?_ ?_
                    rotate_left
                    · rintro w' ⟨s0, s1, s2, s3, s4, s5, s6, s7, s8, s9, s10, s11, s12⟩
                      go_simp
                      with_reducible rfl
                    rotate_left
                    · simp only [Act.put, List.setIfInBounds_toArray, List.set_cons_zero, List.set_cons_succ, i64_w, i32_w]
                      rfl
                    refine pure_ (i := 3) (N := some 25) (v := ?_) (a' := ?_) #[true, true, true, true, false, false, false, false, false, false, false, false, false, false, false, false, false, false, false, false, false, false, false, false, false, false, false] rfl rfl (any_of HT_.out (by kernel_rfl)) (fun _ _ _ h => h) (Or.inl ⟨by rfl, ?_⟩) ?_ ?_
                    rotate_left
                    · intro w'
                      go_simp
                      with_reducible rfl
                    rotate_left
                    · simp only [Act.put, List.setIfInBounds_toArray, List.set_cons_zero, List.set_cons_succ, i64_w, i32_w]
                      rfl
                    refine take_ (i := 4) (N := some 26) (v := ?_) (a' := ?_) #[true, true, true, true, true, false, false, false, false, false, false, false, false, false, false, false, false, false, false, false, false, false, false, false, false, false, false] rfl rfl (take_ofW HT_.out HW_.out (by kernel_rfl)) (fun _ _ _ h => h) (Or.inl ⟨by rfl, ?_⟩) hHeld ?_ ?_
                    rotate_left
                    · rintro w' ⟨s0, s1, s2, s3, s4, s5, s6, s7, s8, s9, s10, s11, s12⟩
                      go_simp
                      with_reducible rfl
                    rotate_left
                    · simp only [Act.put, List.setIfInBounds_toArray, List.set_cons_zero, List.set_cons_succ, i64_w, i32_w]
                      rfl
                    refine one_ (i := 5) (N := some 27) #[true, true, true, true, true, true, false, false, false, false, false, false, false, false, false, false, false, false, false, false, false, false, false, false, false, false, false] rfl rfl (one_of HT_.out (by kernel_rfl)) (by decide) (fun K hK => ?_)
                    refine goes_ Try.func42 (by kernel_rfl) rfl #[.agg #[.int .i64 ((rd_T25 l0_0 x3_2).f0), .int .i64 ((rd_T25 l0_0 x3_2).f1.f0), .int .i64 ((rd_T25 l0_0 x3_2).f1.f1), .int .i64 ((rd_T25 l0_0 x3_2).f2.f0), .int .i64 ((rd_T25 l0_0 x3_2).f2.f1), .int .i64 ((rd_T25 l0_0 x3_2).f3.f0), .int .i64 ((rd_T25 l0_0 x3_2).f3.f1), .int .i64 ((rd_T25 l0_0 x3_2).f4), .int .i64 ((rd_T25 l0_0 x3_2).f5.f0), .int .i64 ((rd_T25 l0_0 x3_2).f5.f1), .int .i64 ((rd_T25 l0_0 x3_2).f6)]] (by rfl) rfl rfl (by (try simp only [List.map_toArray, List.map_cons, List.map_nil]); first | done | rfl | (simp only [List.length_drop, List.length_take]; rfl)) ?_
                    with_reducible refine (potbankref01_CheckShape.calls ((rd_T25 l0_0 x3_2).f0) ((rd_T25 l0_0 x3_2).f1.f0) ((rd_T25 l0_0 x3_2).f1.f1) ((rd_T25 l0_0 x3_2).f2.f0) ((rd_T25 l0_0 x3_2).f2.f1) ((rd_T25 l0_0 x3_2).f3.f0) ((rd_T25 l0_0 x3_2).f3.f1) ((rd_T25 l0_0 x3_2).f4) ((rd_T25 l0_0 x3_2).f5.f0) ((rd_T25 l0_0 x3_2).f5.f1) ((rd_T25 l0_0 x3_2).f6) t486 _ A10.out).mono ?_
                    rintro e w25 ⟨rfl, hb⟩
                    refine ⟨_, rfl, ?_⟩
                    have n0_ := blkE BK484 hb
                    have n1_ := Aside0.mk (below_step (by repeat (first | (with_reducible first | exact HB.out | apply below_alloc | apply pw_below_drewN | apply below_drew1 | refine below_set ?_ GE484.out) | exact HB.out)) hb)
                    clear BK484
                    clear HB
                    have BK484 := n0_
                    have HB := n1_
                    clear n0_ n1_
                    (try clear hb)
                    (try clear hb2)
                    (try clear hk)
                    (try clear hi)
                    refine hK.out _ _ ⟨(blk_cell BK484.out 0).trans rfl, (blk_cell BK484.out 1).trans rfl, ((HB.out.cell (World.block_lt_of_cell? w _ hw485_0)).trans hw485_0), ((HB.out.cell (World.block_lt_of_cell? w _ hw485_1)).trans hw485_1), ((HB.out.cell (World.block_lt_of_cell? w _ hw485_2)).trans hw485_2), ((HB.out.cell (World.block_lt_of_cell? w _ hw485_3)).trans hw485_3), ((HB.out.cell (World.block_lt_of_cell? w _ hw485_4)).trans hw485_4), ((HB.out.cell (World.block_lt_of_cell? w _ hw485_5)).trans hw485_5), ((HB.out.cell (World.block_lt_of_cell? w _ hw485_6)).trans hw485_6), ((HB.out.cell (World.block_lt_of_cell? w _ hw485_7)).trans hw485_7), ((HB.out.cell (World.block_lt_of_cell? w _ hw485_8)).trans hw485_8), ((HB.out.cell (World.block_lt_of_cell? w _ hw485_9)).trans hw485_9), ((HB.out.cell (World.block_lt_of_cell? w _ hw485_10)).trans hw485_10)⟩ (fun hHeld => ?_)
                    clear hK K
                    refine norm_ (a' := ?_) ?_ ?_
                    rotate_left
                    · show Act.put _ (some 27) _ = _
                      simp only [Act.put, List.setIfInBounds_toArray, List.set_cons_zero, List.set_cons_succ, i64_w, i32_w]
                      rfl
                    refine pure_ (i := 6) (N := some 28) (v := ?_) (a' := ?_) #[true, true, true, true, true, true, true, false, false, false, false, false, false, false, false, false, false, false, false, false, false, false, false, false, false, false, false] rfl rfl (any_of HT_.out (by kernel_rfl)) (fun _ _ _ h => h) (Or.inl ⟨by rfl, ?_⟩) ?_ ?_
                    rotate_left
                    · intro w'
                      go_simp
                      with_reducible rfl
                    rotate_left
                    · simp only [Act.put, List.setIfInBounds_toArray, List.set_cons_zero, List.set_cons_succ, i64_w, i32_w]
                      rfl
                    refine pure_ (i := 7) (N := some 29) (v := ?_) (a' := ?_) #[true, true, true, true, true, true, true, true, false, false, false, false, false, false, false, false, false, false, false, false, false, false, false, false, false, false, false] rfl rfl (any_of HT_.out (by kernel_rfl)) (fun _ _ _ h => h) (Or.inl ⟨by rfl, ?_⟩) ?_ ?_
                    rotate_left
                    · intro w'
                      go_simp
                      with_reducible rfl
                    rotate_left
                    · simp only [Act.put, List.setIfInBounds_toArray, List.set_cons_zero, List.set_cons_succ, i64_w, i32_w]
                      rfl
                    refine pure_ (i := 8) (N := some 30) (v := ?_) (a' := ?_) #[true, true, true, true, true, true, true, true, true, false, false, false, false, false, false, false, false, false, false, false, false, false, false, false, false, false, false] rfl rfl (any_of HT_.out (by kernel_rfl)) (fun _ _ _ h => h) (Or.inl ⟨by rfl, ?_⟩) ?_ ?_
                    rotate_left
                    · intro w'
                      go_simp
                      with_reducible rfl
                    rotate_left
                    · simp only [Act.put, List.setIfInBounds_toArray, List.set_cons_zero, List.set_cons_succ, i64_w, i32_w]
                      rfl
                    refine pure_ (i := 9) (N := some 31) (v := ?_) (a' := ?_) #[true, true, true, true, true, true, true, true, true, true, false, false, false, false, false, false, false, false, false, false, false, false, false, false, false, false, false] rfl rfl (any_of HT_.out (by kernel_rfl)) (fun _ _ _ h => h) (Or.inl ⟨by rfl, ?_⟩) ?_ ?_
                    rotate_left
                    · intro w'
                      go_simp
                      with_reducible rfl
                    rotate_left
                    · simp only [Act.put, List.setIfInBounds_toArray, List.set_cons_zero, List.set_cons_succ, i64_w, i32_w]
                      rfl
                    refine pure_ (i := 10) (N := some 32) (v := ?_) (a' := ?_) #[true, true, true, true, true, true, true, true, true, true, true, false, false, false, false, false, false, false, false, false, false, false, false, false, false, false, false] rfl rfl (any_of HT_.out (by kernel_rfl)) (fun _ _ _ h => h) (Or.inl ⟨by rfl, ?_⟩) ?_ ?_
                    rotate_left
                    · intro w'
                      go_simp
                      with_reducible rfl
                    rotate_left
                    · simp only [Act.put, List.setIfInBounds_toArray, List.set_cons_zero, List.set_cons_succ, i64_w, i32_w]
                      rfl
                    refine pure_ (i := 11) (N := some 33) (v := undef) (a' := ?_) #[true, true, true, true, true, true, true, true, true, true, true, true, false, false, false, false, false, false, false, false, false, false, false, false, false, false, false] rfl rfl (any_of HT_.out (by kernel_rfl)) (fun _ _ _ h => h) (Or.inr ⟨by rfl, rfl⟩) ?_ ?_
                    rotate_left
                    · simp only [Act.put, List.setIfInBounds_toArray, List.set_cons_zero, List.set_cons_succ, i64_w, i32_w]
                      rfl
                    refine pure_ (i := 12) (N := some 34) (v := undef) (a' := ?_) #[true, true, true, true, true, true, true, true, true, true, true, true, true, false, false, false, false, false, false, false, false, false, false, false, false, false, false] rfl rfl (any_of HT_.out (by kernel_rfl)) (fun _ _ _ h => h) (Or.inr ⟨by rfl, rfl⟩) ?_ ?_
                    rotate_left
                    · simp only [Act.put, List.setIfInBounds_toArray, List.set_cons_zero, List.set_cons_succ, i64_w, i32_w]
                      rfl
                    refine pure_ (i := 13) (N := some 35) (v := undef) (a' := ?_) #[true, true, true, true, true, true, true, true, true, true, true, true, true, true, false, false, false, false, false, false, false, false, false, false, false, false, false] rfl rfl (any_of HT_.out (by kernel_rfl)) (fun _ _ _ h => h) (Or.inr ⟨by rfl, rfl⟩) ?_ ?_
                    rotate_left
                    · simp only [Act.put, List.setIfInBounds_toArray, List.set_cons_zero, List.set_cons_succ, i64_w, i32_w]
                      rfl
                    refine pure_ (i := 14) (N := some 36) (v := undef) (a' := ?_) #[true, true, true, true, true, true, true, true, true, true, true, true, true, true, true, false, false, false, false, false, false, false, false, false, false, false, false] rfl rfl (any_of HT_.out (by kernel_rfl)) (fun _ _ _ h => h) (Or.inr ⟨by rfl, rfl⟩) ?_ ?_
                    rotate_left
                    · simp only [Act.put, List.setIfInBounds_toArray, List.set_cons_zero, List.set_cons_succ, i64_w, i32_w]
                      rfl
                    refine pure_ (i := 15) (N := some 37) (v := undef) (a' := ?_) #[true, true, true, true, true, true, true, true, true, true, true, true, true, true, true, true, false, false, false, false, false, false, false, false, false, false, false] rfl rfl (any_of HT_.out (by kernel_rfl)) (fun _ _ _ h => h) (Or.inr ⟨by rfl, rfl⟩) ?_ ?_
                    rotate_left
                    · simp only [Act.put, List.setIfInBounds_toArray, List.set_cons_zero, List.set_cons_succ, i64_w, i32_w]
                      rfl
                    refine pure_ (i := 16) (N := some 38) (v := undef) (a' := ?_) #[true, true, true, true, true, true, true, true, true, true, true, true, true, true, true, true, true, false, false, false, false, false, false, false, false, false, false] rfl rfl (any_of HT_.out (by kernel_rfl)) (fun _ _ _ h => h) (Or.inr ⟨by rfl, rfl⟩) ?_ ?_
                    rotate_left
                    · simp only [Act.put, List.setIfInBounds_toArray, List.set_cons_zero, List.set_cons_succ, i64_w, i32_w]
                      rfl
                    refine pure_ (i := 17) (N := some 39) (v := undef) (a' := ?_) #[true, true, true, true, true, true, true, true, true, true, true, true, true, true, true, true, true, true, false, false, false, false, false, false, false, false, false] rfl rfl (any_of HT_.out (by kernel_rfl)) (fun _ _ _ h => h) (Or.inr ⟨by rfl, rfl⟩) ?_ ?_
                    rotate_left
                    · simp only [Act.put, List.setIfInBounds_toArray, List.set_cons_zero, List.set_cons_succ, i64_w, i32_w]
                      rfl
                    refine pure_ (i := 18) (N := some 40) (v := undef) (a' := ?_) #[true, true, true, true, true, true, true, true, true, true, true, true, true, true, true, true, true, true, true, false, false, false, false, false, false, false, false] rfl rfl (any_of HT_.out (by kernel_rfl)) (fun _ _ _ h => h) (Or.inr ⟨by rfl, rfl⟩) ?_ ?_
                    rotate_left
                    · simp only [Act.put, List.setIfInBounds_toArray, List.set_cons_zero, List.set_cons_succ, i64_w, i32_w]
                      rfl
                    refine pure_ (i := 19) (N := some 41) (v := undef) (a' := ?_) #[true, true, true, true, true, true, true, true, true, true, true, true, true, true, true, true, true, true, true, true, false, false, false, false, false, false, false] rfl rfl (any_of HT_.out (by kernel_rfl)) (fun _ _ _ h => h) (Or.inr ⟨by rfl, rfl⟩) ?_ ?_
                    rotate_left
                    · simp only [Act.put, List.setIfInBounds_toArray, List.set_cons_zero, List.set_cons_succ, i64_w, i32_w]
                      rfl
                    refine pure_ (i := 20) (N := some 42) (v := undef) (a' := ?_) #[true, true, true, true, true, true, true, true, true, true, true, true, true, true, true, true, true, true, true, true, true, false, false, false, false, false, false] rfl rfl (any_of HT_.out (by kernel_rfl)) (fun _ _ _ h => h) (Or.inr ⟨by rfl, rfl⟩) ?_ ?_
                    rotate_left
                    · simp only [Act.put, List.setIfInBounds_toArray, List.set_cons_zero, List.set_cons_succ, i64_w, i32_w]
                      rfl
                    refine pure_ (i := 21) (N := some 43) (v := undef) (a' := ?_) #[true, true, true, true, true, true, true, true, true, true, true, true, true, true, true, true, true, true, true, true, true, true, false, false, false, false, false] rfl rfl (any_of HT_.out (by kernel_rfl)) (fun _ _ _ h => h) (Or.inr ⟨by rfl, rfl⟩) ?_ ?_
                    rotate_left
                    · simp only [Act.put, List.setIfInBounds_toArray, List.set_cons_zero, List.set_cons_succ, i64_w, i32_w]
                      rfl
                    refine pure_ (i := 22) (N := some 44) (v := undef) (a' := ?_) #[true, true, true, true, true, true, true, true, true, true, true, true, true, true, true, true, true, true, true, true, true, true, true, false, false, false, false] rfl rfl (any_of HT_.out (by kernel_rfl)) (fun _ _ _ h => h) (Or.inr ⟨by rfl, rfl⟩) ?_ ?_
                    rotate_left
                    · simp only [Act.put, List.setIfInBounds_toArray, List.set_cons_zero, List.set_cons_succ, i64_w, i32_w]
                      rfl
                    refine pure_ (i := 23) (N := some 45) (v := undef) (a' := ?_) #[true, true, true, true, true, true, true, true, true, true, true, true, true, true, true, true, true, true, true, true, true, true, true, true, false, false, false] rfl rfl (any_of HT_.out (by kernel_rfl)) (fun _ _ _ h => h) (Or.inr ⟨by rfl, rfl⟩) ?_ ?_
                    rotate_left
                    · simp only [Act.put, List.setIfInBounds_toArray, List.set_cons_zero, List.set_cons_succ, i64_w, i32_w]
                      rfl
                    refine pure_ (i := 24) (N := some 46) (v := undef) (a' := ?_) #[true, true, true, true, true, true, true, true, true, true, true, true, true, true, true, true, true, true, true, true, true, true, true, true, true, false, false] rfl rfl (any_of HT_.out (by kernel_rfl)) (fun _ _ _ h => h) (Or.inr ⟨by rfl, rfl⟩) ?_ ?_
                    rotate_left
                    · simp only [Act.put, List.setIfInBounds_toArray, List.set_cons_zero, List.set_cons_succ, i64_w, i32_w]
                      rfl
                    refine pure_ (i := 25) (N := some 47) (v := ?_) (a' := ?_) #[true, true, true, true, true, true, true, true, true, true, true, true, true, true, true, true, true, true, true, true, true, true, true, true, true, true, false] rfl rfl (any_of HT_.out (by kernel_rfl)) (fun _ _ _ h => h) (Or.inl ⟨by rfl, ?_⟩) ?_ ?_
                    rotate_left
                    · intro w'
                      go_simp
                      with_reducible rfl
                    rotate_left
                    · simp only [Act.put, List.setIfInBounds_toArray, List.set_cons_zero, List.set_cons_succ, i64_w, i32_w]
                      rfl
                    refine pure_ (i := 26) (N := some 48) (v := ?_) (a' := ?_) #[true, true, true, true, true, true, true, true, true, true, true, true, true, true, true, true, true, true, true, true, true, true, true, true, true, true, true] rfl rfl (any_of HT_.out (by kernel_rfl)) (fun _ _ _ h => h) (Or.inl ⟨by rfl, ?_⟩) ?_ ?_
                    rotate_left
                    · intro w'
                      go_simp
                      with_reducible rfl
                    rotate_left
                    · simp only [Act.put, List.setIfInBounds_toArray, List.set_cons_zero, List.set_cons_succ, i64_w, i32_w]
                      rfl
                    refine done_ (done_of HT_.out (by kernel_rfl)) ?_
                    try go_wp2
                    go_roundg k2
                    case measure => have := HJ1.out; have := HK2.out; omega
                    case rel => exact ⟨(wrap64 (x3_2 + 1)), (by first | rfl | (simp; done) | (simp [*]; done)), H', ⟨by have := HJ1.out; have := HK2.out; omega⟩, ⟨by (with_reducible repeat first | apply blk_drewN | apply blk_drew | apply blk_alloc); exact BK484.out⟩, ⟨by repeat (first | (with_reducible first | exact HB.out | apply below_alloc | apply pw_below_drewN | apply below_drew1 | refine below_set ?_ GE484.out) | exact HB.out)⟩⟩
                · rw [if_neg c11] at H
                  have c11b0 : (t486 == 0) = false := beq_eq_false_iff_ne.mpr c11
                  have c11b1 : (t486 != 0) = true := bne_iff_ne.mpr c11
                  obtain rfl := Option.some.inj H
                  have hcz26_0 : wr.cell? ⟨gb484, 0, none⟩ = some (.slice A0_0 l0_0.length c0_0) := (blk_cell BK484.out 0).trans rfl
                  have hcz26_1 : wr.cell? ⟨gb484, 1, none⟩ = some (.slice A0_1 l0_1.length c0_1) := (blk_cell BK484.out 1).trans rfl
                  have hfz26_0 := blk_frozen BK484.out 0
                  have hfz26_1 := blk_frozen BK484.out 1
                  try go_wp2
                  have n0_ := Aside0.mk (blk_drew BK484.out)
                  have n1_ := Aside0.mk (below_drew1 HB.out)
                  clear BK484
                  clear HB
                  have BK484 := n0_
                  have HB := n1_
                  clear n0_ n1_
                  have p485 : 0 ≤ (x3_2 : Int) := of_decide_eq_true (by first | (with_reducible assumption) | assumption)
                  have q485 : x3_2 < (l0_0.length : Int) := of_decide_eq_true (by first | (with_reducible assumption) | assumption)
                  obtain ⟨ad485, e485, hx485_0, hx485_1, hx485_2, hx485_3, hx485_4, hx485_5, hx485_6, hx485_7, hx485_8, hx485_9, hx485_10⟩ := at_T25 HR0_0.out x3_2 p485 q485
                  have hw485_10 := hx485_10
                  have hw485_9 := hx485_9
                  have hw485_8 := hx485_8
                  have hw485_7 := hx485_7
                  have hw485_6 := hx485_6
                  have hw485_5 := hx485_5
                  have hw485_4 := hx485_4
                  have hw485_3 := hx485_3
                  have hw485_2 := hx485_2
                  have hw485_1 := hx485_1
                  have hw485_0 := hx485_0
                  cases e485
                  replace hx485_0 := (HB.out.cell (World.block_lt_of_cell? w _ hx485_0)).trans hx485_0
                  replace hx485_1 := (HB.out.cell (World.block_lt_of_cell? w _ hx485_1)).trans hx485_1
                  replace hx485_2 := (HB.out.cell (World.block_lt_of_cell? w _ hx485_2)).trans hx485_2
                  replace hx485_3 := (HB.out.cell (World.block_lt_of_cell? w _ hx485_3)).trans hx485_3
                  replace hx485_4 := (HB.out.cell (World.block_lt_of_cell? w _ hx485_4)).trans hx485_4
                  replace hx485_5 := (HB.out.cell (World.block_lt_of_cell? w _ hx485_5)).trans hx485_5
                  replace hx485_6 := (HB.out.cell (World.block_lt_of_cell? w _ hx485_6)).trans hx485_6
                  replace hx485_7 := (HB.out.cell (World.block_lt_of_cell? w _ hx485_7)).trans hx485_7
                  replace hx485_8 := (HB.out.cell (World.block_lt_of_cell? w _ hx485_8)).trans hx485_8
                  replace hx485_9 := (HB.out.cell (World.block_lt_of_cell? w _ hx485_9)).trans hx485_9
                  replace hx485_10 := (HB.out.cell (World.block_lt_of_cell? w _ hx485_10)).trans hx485_10
                  replace p485 := eq_true p485
                  replace q485 := eq_true q485
                  refine start_ (n := 27) (S := fun w' => w'.cell? ⟨gb484, 0, none⟩ = some (.slice (some ad485) l0_0.length c0_0) ∧ w'.cell? ⟨gb484, 1, none⟩ = some (.slice A0_1 l0_1.length c0_1) ∧ w'.cell? (ad485.add ((x3_2).toNat * 11)) = some (.int .i64 ((rd_T25 l0_0 x3_2).f0)) ∧ w'.cell? ⟨(ad485.add ((x3_2).toNat * 11)).block, (ad485.add ((x3_2).toNat * 11)).off + 1, none⟩ = some (.int .i64 ((rd_T25 l0_0 x3_2).f1.f0)) ∧ w'.cell? ⟨(ad485.add ((x3_2).toNat * 11)).block, (ad485.add ((x3_2).toNat * 11)).off + 2, none⟩ = some (.int .i64 ((rd_T25 l0_0 x3_2).f1.f1)) ∧ w'.cell? ⟨(ad485.add ((x3_2).toNat * 11)).block, (ad485.add ((x3_2).toNat * 11)).off + 3, none⟩ = some (.int .i64 ((rd_T25 l0_0 x3_2).f2.f0)) ∧ w'.cell? ⟨(ad485.add ((x3_2).toNat * 11)).block, (ad485.add ((x3_2).toNat * 11)).off + 4, none⟩ = some (.int .i64 ((rd_T25 l0_0 x3_2).f2.f1)) ∧ w'.cell? ⟨(ad485.add ((x3_2).toNat * 11)).block, (ad485.add ((x3_2).toNat * 11)).off + 5, none⟩ = some (.int .i64 ((rd_T25 l0_0 x3_2).f3.f0)) ∧ w'.cell? ⟨(ad485.add ((x3_2).toNat * 11)).block, (ad485.add ((x3_2).toNat * 11)).off + 6, none⟩ = some (.int .i64 ((rd_T25 l0_0 x3_2).f3.f1)) ∧ w'.cell? ⟨(ad485.add ((x3_2).toNat * 11)).block, (ad485.add ((x3_2).toNat * 11)).off + 7, none⟩ = some (.int .i64 ((rd_T25 l0_0 x3_2).f4)) ∧ w'.cell? ⟨(ad485.add ((x3_2).toNat * 11)).block, (ad485.add ((x3_2).toNat * 11)).off + 8, none⟩ = some (.int .i64 ((rd_T25 l0_0 x3_2).f5.f0)) ∧ w'.cell? ⟨(ad485.add ((x3_2).toNat * 11)).block, (ad485.add ((x3_2).toNat * 11)).off + 9, none⟩ = some (.int .i64 ((rd_T25 l0_0 x3_2).f5.f1)) ∧ w'.cell? ⟨(ad485.add ((x3_2).toNat * 11)).block, (ad485.add ((x3_2).toNat * 11)).off + 10, none⟩ = some (.int .i64 ((rd_T25 l0_0 x3_2).f6))) (ds := []) #[false, false, false, false, false, false, false, false, false, false, false, false, false, false, false, false, false, false, false, false, false, false, false, false, false, false, false] (by kernel_rfl) rfl rfl ⟨(blk_cell BK484.out 0).trans rfl, (blk_cell BK484.out 1).trans rfl, ((HB.out.cell (World.block_lt_of_cell? w _ hw485_0)).trans hw485_0), ((HB.out.cell (World.block_lt_of_cell? w _ hw485_1)).trans hw485_1), ((HB.out.cell (World.block_lt_of_cell? w _ hw485_2)).trans hw485_2), ((HB.out.cell (World.block_lt_of_cell? w _ hw485_3)).trans hw485_3), ((HB.out.cell (World.block_lt_of_cell? w _ hw485_4)).trans hw485_4), ((HB.out.cell (World.block_lt_of_cell? w _ hw485_5)).trans hw485_5), ((HB.out.cell (World.block_lt_of_cell? w _ hw485_6)).trans hw485_6), ((HB.out.cell (World.block_lt_of_cell? w _ hw485_7)).trans hw485_7), ((HB.out.cell (World.block_lt_of_cell? w _ hw485_8)).trans hw485_8), ((HB.out.cell (World.block_lt_of_cell? w _ hw485_9)).trans hw485_9), ((HB.out.cell (World.block_lt_of_cell? w _ hw485_10)).trans hw485_10)⟩ (fun hHeld => ?_); refine with_tabW potbankref01_Check.tab6 potbankref01_Check.bits6 (fun HT_ HW_ => ?_)
                  generalize wr.drew = w27 at BK484 HB hx485_0 hx485_1 hx485_10 hx485_2 hx485_3 hx485_4 hx485_5 hx485_6 hx485_7 hx485_8 hx485_9 hHeld ⊢
                  refine pure_ (i := 0) (N := some 22) (v := ?_) (a' := ?_) #[true, false, false, false, false, false, false, false, false, false, false, false, false, false, false, false, false, false, false, false, false, false, false, false, false, false, false] rfl rfl (any_of HT_.out (by kernel_rfl)) (fun _ _ _ h => h) (Or.inl ⟨by rfl, ?_⟩) ?_ ?_
                  rotate_left
                  · intro w'
                    go_simp
                    with_reducible rfl
                  rotate_left
                  · simp only [Act.put, List.setIfInBounds_toArray, List.set_cons_zero, List.set_cons_succ, i64_w, i32_w]
                    rfl
                  refine pure_ (i := 2) (N := some 24) (v := ?_) (a' := ?_) #[true, false, true, false, false, false, false, false, false, false, false, false, false, false, false, false, false, false, false, false, false, false, false, false, false, false, false] rfl rfl (any_of HT_.out (by kernel_rfl)) (fun _ _ _ h => h) (Or.inl ⟨by rfl, ?_⟩) ?_ ?_
                  rotate_left
                  · intro w'
                    go_simp
                    with_reducible rfl
                  rotate_left
                  · simp only [Act.put, List.setIfInBounds_toArray, List.set_cons_zero, List.set_cons_succ, i64_w, i32_w]
                    rfl
                  refine take_ (i := 1) (N := some 23) (v := ?_) (a' := ?_) #[true, true, true, false, false, false, false, false, false, false, false, false, false, false, false, false, false, false, false, false, false, false, false, false, false, false, false] rfl rfl (take_ofW HT_.out HW_.out (by kernel_rfl)) (fun _ _ _ h => h) (Or.inl ⟨by rfl, ?_⟩) hHeld ?_ ?_
                  rotate_left
                  · rintro w' ⟨s0, s1, s2, s3, s4, s5, s6, s7, s8, s9, s10, s11, s12⟩
                    go_simp
                    with_reducible rfl
                  rotate_left
                  · simp only [Act.put, List.setIfInBounds_toArray, List.set_cons_zero, List.set_cons_succ, i64_w, i32_w]
                    rfl
                  refine pure_ (i := 3) (N := some 25) (v := ?_) (a' := ?_) #[true, true, true, true, false, false, false, false, false, false, false, false, false, false, false, false, false, false, false, false, false, false, false, false, false, false, false] rfl rfl (any_of HT_.out (by kernel_rfl)) (fun _ _ _ h => h) (Or.inl ⟨by rfl, ?_⟩) ?_ ?_
                  rotate_left
                  · intro w'
                    go_simp
                    with_reducible rfl
                  rotate_left
                  · simp only [Act.put, List.setIfInBounds_toArray, List.set_cons_zero, List.set_cons_succ, i64_w, i32_w]
                    rfl
                  refine take_ (i := 4) (N := some 26) (v := ?_) (a' := ?_) #[true, true, true, true, true, false, false, false, false, false, false, false, false, false, false, false, false, false, false, false, false, false, false, false, false, false, false] rfl rfl (take_ofW HT_.out HW_.out (by kernel_rfl)) (fun _ _ _ h => h) (Or.inl ⟨by rfl, ?_⟩) hHeld ?_ ?_
                  rotate_left
                  · rintro w' ⟨s0, s1, s2, s3, s4, s5, s6, s7, s8, s9, s10, s11, s12⟩
                    go_simp
                    with_reducible rfl
                  rotate_left
                  · simp only [Act.put, List.setIfInBounds_toArray, List.set_cons_zero, List.set_cons_succ, i64_w, i32_w]
                    rfl
                  refine one_ (i := 5) (N := some 27) #[true, true, true, true, true, true, false, false, false, false, false, false, false, false, false, false, false, false, false, false, false, false, false, false, false, false, false] rfl rfl (one_of HT_.out (by kernel_rfl)) (by decide) (fun K hK => ?_)
                  refine goes_ Try.func42 (by kernel_rfl) rfl #[.agg #[.int .i64 ((rd_T25 l0_0 x3_2).f0), .int .i64 ((rd_T25 l0_0 x3_2).f1.f0), .int .i64 ((rd_T25 l0_0 x3_2).f1.f1), .int .i64 ((rd_T25 l0_0 x3_2).f2.f0), .int .i64 ((rd_T25 l0_0 x3_2).f2.f1), .int .i64 ((rd_T25 l0_0 x3_2).f3.f0), .int .i64 ((rd_T25 l0_0 x3_2).f3.f1), .int .i64 ((rd_T25 l0_0 x3_2).f4), .int .i64 ((rd_T25 l0_0 x3_2).f5.f0), .int .i64 ((rd_T25 l0_0 x3_2).f5.f1), .int .i64 ((rd_T25 l0_0 x3_2).f6)]] (by rfl) rfl rfl (by (try simp only [List.map_toArray, List.map_cons, List.map_nil]); first | done | rfl | (simp only [List.length_drop, List.length_take]; rfl)) ?_
                  with_reducible refine (potbankref01_CheckShape.calls ((rd_T25 l0_0 x3_2).f0) ((rd_T25 l0_0 x3_2).f1.f0) ((rd_T25 l0_0 x3_2).f1.f1) ((rd_T25 l0_0 x3_2).f2.f0) ((rd_T25 l0_0 x3_2).f2.f1) ((rd_T25 l0_0 x3_2).f3.f0) ((rd_T25 l0_0 x3_2).f3.f1) ((rd_T25 l0_0 x3_2).f4) ((rd_T25 l0_0 x3_2).f5.f0) ((rd_T25 l0_0 x3_2).f5.f1) ((rd_T25 l0_0 x3_2).f6) t486 _ A10.out).mono ?_
                  rintro e w28 ⟨rfl, hb⟩
                  refine ⟨_, rfl, ?_⟩
                  have n0_ := blkE BK484 hb
                  have n1_ := Aside0.mk (below_step (by repeat (first | (with_reducible first | exact HB.out | apply below_alloc | apply pw_below_drewN | apply below_drew1 | refine below_set ?_ GE484.out) | exact HB.out)) hb)
                  clear BK484
                  clear HB
                  have BK484 := n0_
                  have HB := n1_
                  clear n0_ n1_
                  (try clear hb)
                  (try clear hb2)
                  (try clear hk)
                  (try clear hi)
                  refine hK.out _ _ ⟨(blk_cell BK484.out 0).trans rfl, (blk_cell BK484.out 1).trans rfl, ((HB.out.cell (World.block_lt_of_cell? w _ hw485_0)).trans hw485_0), ((HB.out.cell (World.block_lt_of_cell? w _ hw485_1)).trans hw485_1), ((HB.out.cell (World.block_lt_of_cell? w _ hw485_2)).trans hw485_2), ((HB.out.cell (World.block_lt_of_cell? w _ hw485_3)).trans hw485_3), ((HB.out.cell (World.block_lt_of_cell? w _ hw485_4)).trans hw485_4), ((HB.out.cell (World.block_lt_of_cell? w _ hw485_5)).trans hw485_5), ((HB.out.cell (World.block_lt_of_cell? w _ hw485_6)).trans hw485_6), ((HB.out.cell (World.block_lt_of_cell? w _ hw485_7)).trans hw485_7), ((HB.out.cell (World.block_lt_of_cell? w _ hw485_8)).trans hw485_8), ((HB.out.cell (World.block_lt_of_cell? w _ hw485_9)).trans hw485_9), ((HB.out.cell (World.block_lt_of_cell? w _ hw485_10)).trans hw485_10)⟩ (fun hHeld => ?_)
                  clear hK K
                  refine norm_ (a' := ?_) ?_ ?_
                  rotate_left
                  · show Act.put _ (some 27) _ = _
                    simp only [Act.put, List.setIfInBounds_toArray, List.set_cons_zero, List.set_cons_succ, i64_w, i32_w]
                    rfl
                  refine pure_ (i := 6) (N := some 28) (v := ?_) (a' := ?_) #[true, true, true, true, true, true, true, false, false, false, false, false, false, false, false, false, false, false, false, false, false, false, false, false, false, false, false] rfl rfl (any_of HT_.out (by kernel_rfl)) (fun _ _ _ h => h) (Or.inl ⟨by rfl, ?_⟩) ?_ ?_
                  rotate_left
                  · intro w'
                    go_simp
                    with_reducible rfl
                  rotate_left
                  · simp only [Act.put, List.setIfInBounds_toArray, List.set_cons_zero, List.set_cons_succ, i64_w, i32_w]
                    rfl
                  refine pure_ (i := 7) (N := some 29) (v := ?_) (a' := ?_) #[true, true, true, true, true, true, true, true, false, false, false, false, false, false, false, false, false, false, false, false, false, false, false, false, false, false, false] rfl rfl (any_of HT_.out (by kernel_rfl)) (fun _ _ _ h => h) (Or.inl ⟨by rfl, ?_⟩) ?_ ?_
                  rotate_left
                  · intro w'
                    go_simp
                    with_reducible rfl
                  rotate_left
                  · simp only [Act.put, List.setIfInBounds_toArray, List.set_cons_zero, List.set_cons_succ, i64_w, i32_w]
                    rfl
                  refine pure_ (i := 8) (N := some 30) (v := undef) (a' := ?_) #[true, true, true, true, true, true, true, true, true, false, false, false, false, false, false, false, false, false, false, false, false, false, false, false, false, false, false] rfl rfl (any_of HT_.out (by kernel_rfl)) (fun _ _ _ h => h) (Or.inr ⟨by rfl, rfl⟩) ?_ ?_
                  rotate_left
                  · simp only [Act.put, List.setIfInBounds_toArray, List.set_cons_zero, List.set_cons_succ, i64_w, i32_w]
                    rfl
                  refine pure_ (i := 9) (N := some 31) (v := undef) (a' := ?_) #[true, true, true, true, true, true, true, true, true, true, false, false, false, false, false, false, false, false, false, false, false, false, false, false, false, false, false] rfl rfl (any_of HT_.out (by kernel_rfl)) (fun _ _ _ h => h) (Or.inr ⟨by rfl, rfl⟩) ?_ ?_
                  rotate_left
                  · simp only [Act.put, List.setIfInBounds_toArray, List.set_cons_zero, List.set_cons_succ, i64_w, i32_w]
                    rfl
                  refine pure_ (i := 10) (N := some 32) (v := undef) (a' := ?_) #[true, true, true, true, true, true, true, true, true, true, true, false, false, false, false, false, false, false, false, false, false, false, false, false, false, false, false] rfl rfl (any_of HT_.out (by kernel_rfl)) (fun _ _ _ h => h) (Or.inr ⟨by rfl, rfl⟩) ?_ ?_
                  rotate_left
                  · simp only [Act.put, List.setIfInBounds_toArray, List.set_cons_zero, List.set_cons_succ, i64_w, i32_w]
                    rfl
                  refine pure_ (i := 11) (N := some 33) (v := undef) (a' := ?_) #[true, true, true, true, true, true, true, true, true, true, true, true, false, false, false, false, false, false, false, false, false, false, false, false, false, false, false] rfl rfl (any_of HT_.out (by kernel_rfl)) (fun _ _ _ h => h) (Or.inr ⟨by rfl, rfl⟩) ?_ ?_
                  rotate_left
                  · simp only [Act.put, List.setIfInBounds_toArray, List.set_cons_zero, List.set_cons_succ, i64_w, i32_w]
                    rfl
                  refine pure_ (i := 12) (N := some 34) (v := undef) (a' := ?_) #[true, true, true, true, true, true, true, true, true, true, true, true, true, false, false, false, false, false, false, false, false, false, false, false, false, false, false] rfl rfl (any_of HT_.out (by kernel_rfl)) (fun _ _ _ h => h) (Or.inr ⟨by rfl, rfl⟩) ?_ ?_
                  rotate_left
                  · simp only [Act.put, List.setIfInBounds_toArray, List.set_cons_zero, List.set_cons_succ, i64_w, i32_w]
                    rfl
                  refine pure_ (i := 13) (N := some 35) (v := undef) (a' := ?_) #[true, true, true, true, true, true, true, true, true, true, true, true, true, true, false, false, false, false, false, false, false, false, false, false, false, false, false] rfl rfl (any_of HT_.out (by kernel_rfl)) (fun _ _ _ h => h) (Or.inr ⟨by rfl, rfl⟩) ?_ ?_
                  rotate_left
                  · simp only [Act.put, List.setIfInBounds_toArray, List.set_cons_zero, List.set_cons_succ, i64_w, i32_w]
                    rfl
                  refine pure_ (i := 14) (N := some 36) (v := undef) (a' := ?_) #[true, true, true, true, true, true, true, true, true, true, true, true, true, true, true, false, false, false, false, false, false, false, false, false, false, false, false] rfl rfl (any_of HT_.out (by kernel_rfl)) (fun _ _ _ h => h) (Or.inr ⟨by rfl, rfl⟩) ?_ ?_
                  rotate_left
                  · simp only [Act.put, List.setIfInBounds_toArray, List.set_cons_zero, List.set_cons_succ, i64_w, i32_w]
                    rfl
                  refine pure_ (i := 15) (N := some 37) (v := undef) (a' := ?_) #[true, true, true, true, true, true, true, true, true, true, true, true, true, true, true, true, false, false, false, false, false, false, false, false, false, false, false] rfl rfl (any_of HT_.out (by kernel_rfl)) (fun _ _ _ h => h) (Or.inr ⟨by rfl, rfl⟩) ?_ ?_
                  rotate_left
                  · simp only [Act.put, List.setIfInBounds_toArray, List.set_cons_zero, List.set_cons_succ, i64_w, i32_w]
                    rfl
                  refine pure_ (i := 16) (N := some 38) (v := undef) (a' := ?_) #[true, true, true, true, true, true, true, true, true, true, true, true, true, true, true, true, true, false, false, false, false, false, false, false, false, false, false] rfl rfl (any_of HT_.out (by kernel_rfl)) (fun _ _ _ h => h) (Or.inr ⟨by rfl, rfl⟩) ?_ ?_
                  rotate_left
                  · simp only [Act.put, List.setIfInBounds_toArray, List.set_cons_zero, List.set_cons_succ, i64_w, i32_w]
                    rfl
                  refine pure_ (i := 17) (N := some 39) (v := undef) (a' := ?_) #[true, true, true, true, true, true, true, true, true, true, true, true, true, true, true, true, true, true, false, false, false, false, false, false, false, false, false] rfl rfl (any_of HT_.out (by kernel_rfl)) (fun _ _ _ h => h) (Or.inr ⟨by rfl, rfl⟩) ?_ ?_
                  rotate_left
                  · simp only [Act.put, List.setIfInBounds_toArray, List.set_cons_zero, List.set_cons_succ, i64_w, i32_w]
                    rfl
                  refine pure_ (i := 18) (N := some 40) (v := undef) (a' := ?_) #[true, true, true, true, true, true, true, true, true, true, true, true, true, true, true, true, true, true, true, false, false, false, false, false, false, false, false] rfl rfl (any_of HT_.out (by kernel_rfl)) (fun _ _ _ h => h) (Or.inr ⟨by rfl, rfl⟩) ?_ ?_
                  rotate_left
                  · simp only [Act.put, List.setIfInBounds_toArray, List.set_cons_zero, List.set_cons_succ, i64_w, i32_w]
                    rfl
                  refine pure_ (i := 19) (N := some 41) (v := undef) (a' := ?_) #[true, true, true, true, true, true, true, true, true, true, true, true, true, true, true, true, true, true, true, true, false, false, false, false, false, false, false] rfl rfl (any_of HT_.out (by kernel_rfl)) (fun _ _ _ h => h) (Or.inr ⟨by rfl, rfl⟩) ?_ ?_
                  rotate_left
                  · simp only [Act.put, List.setIfInBounds_toArray, List.set_cons_zero, List.set_cons_succ, i64_w, i32_w]
                    rfl
                  refine pure_ (i := 20) (N := some 42) (v := undef) (a' := ?_) #[true, true, true, true, true, true, true, true, true, true, true, true, true, true, true, true, true, true, true, true, true, false, false, false, false, false, false] rfl rfl (any_of HT_.out (by kernel_rfl)) (fun _ _ _ h => h) (Or.inr ⟨by rfl, rfl⟩) ?_ ?_
                  rotate_left
                  · simp only [Act.put, List.setIfInBounds_toArray, List.set_cons_zero, List.set_cons_succ, i64_w, i32_w]
                    rfl
                  refine pure_ (i := 21) (N := some 43) (v := undef) (a' := ?_) #[true, true, true, true, true, true, true, true, true, true, true, true, true, true, true, true, true, true, true, true, true, true, false, false, false, false, false] rfl rfl (any_of HT_.out (by kernel_rfl)) (fun _ _ _ h => h) (Or.inr ⟨by rfl, rfl⟩) ?_ ?_
                  rotate_left
                  · simp only [Act.put, List.setIfInBounds_toArray, List.set_cons_zero, List.set_cons_succ, i64_w, i32_w]
                    rfl
                  refine pure_ (i := 22) (N := some 44) (v := undef) (a' := ?_) #[true, true, true, true, true, true, true, true, true, true, true, true, true, true, true, true, true, true, true, true, true, true, true, false, false, false, false] rfl rfl (any_of HT_.out (by kernel_rfl)) (fun _ _ _ h => h) (Or.inr ⟨by rfl, rfl⟩) ?_ ?_
                  rotate_left
                  · simp only [Act.put, List.setIfInBounds_toArray, List.set_cons_zero, List.set_cons_succ, i64_w, i32_w]
                    rfl
                  refine pure_ (i := 23) (N := some 45) (v := undef) (a' := ?_) #[true, true, true, true, true, true, true, true, true, true, true, true, true, true, true, true, true, true, true, true, true, true, true, true, false, false, false] rfl rfl (any_of HT_.out (by kernel_rfl)) (fun _ _ _ h => h) (Or.inr ⟨by rfl, rfl⟩) ?_ ?_
                  rotate_left
                  · simp only [Act.put, List.setIfInBounds_toArray, List.set_cons_zero, List.set_cons_succ, i64_w, i32_w]
                    rfl
                  refine pure_ (i := 24) (N := some 46) (v := undef) (a' := ?_) #[true, true, true, true, true, true, true, true, true, true, true, true, true, true, true, true, true, true, true, true, true, true, true, true, true, false, false] rfl rfl (any_of HT_.out (by kernel_rfl)) (fun _ _ _ h => h) (Or.inr ⟨by rfl, rfl⟩) ?_ ?_
                  rotate_left
                  · simp only [Act.put, List.setIfInBounds_toArray, List.set_cons_zero, List.set_cons_succ, i64_w, i32_w]
                    rfl
                  refine pure_ (i := 25) (N := some 47) (v := undef) (a' := ?_) #[true, true, true, true, true, true, true, true, true, true, true, true, true, true, true, true, true, true, true, true, true, true, true, true, true, true, false] rfl rfl (any_of HT_.out (by kernel_rfl)) (fun _ _ _ h => h) (Or.inr ⟨by rfl, rfl⟩) ?_ ?_
                  rotate_left
                  · simp only [Act.put, List.setIfInBounds_toArray, List.set_cons_zero, List.set_cons_succ, i64_w, i32_w]
                    rfl
                  refine pure_ (i := 26) (N := some 48) (v := ?_) (a' := ?_) #[true, true, true, true, true, true, true, true, true, true, true, true, true, true, true, true, true, true, true, true, true, true, true, true, true, true, true] rfl rfl (any_of HT_.out (by kernel_rfl)) (fun _ _ _ h => h) (Or.inl ⟨by rfl, ?_⟩) ?_ ?_
                  rotate_left
                  · intro w'
                    go_simp
                    with_reducible rfl
                  rotate_left
                  · simp only [Act.put, List.setIfInBounds_toArray, List.set_cons_zero, List.set_cons_succ, i64_w, i32_w]
                    rfl
                  refine done_ (done_of HT_.out (by kernel_rfl)) ?_
                  try go_wp2
                  go_ret
                  exact ⟨by first | rfl | (simp [errW_none, errW_some] <;> rfl) | (simp [*, errW_none, errW_some] <;> rfl), by repeat (first | (with_reducible first | exact HB.out | apply below_alloc | apply pw_below_drewN | apply below_drew1 | refine below_set ?_ GE484.out) | exact HB.out)⟩
              · rw [if_neg c9] at H
                exact absurd H (by simp)
            · rw [if_neg c8] at H
              have c8b0 : decide (x3_2 < (l0_0.length : Int)) = false := decide_eq_false c8
              clear c8
              have H' := Aside0.mk H
              clear H
              have hcz29_0 : wr.cell? ⟨gb484, 0, none⟩ = some (.slice A0_0 l0_0.length c0_0) := (blk_cell BK484.out 0).trans rfl
              have hcz29_1 : wr.cell? ⟨gb484, 1, none⟩ = some (.slice A0_1 l0_1.length c0_1) := (blk_cell BK484.out 1).trans rfl
              have hfz29_0 := blk_frozen BK484.out 0
              have hfz29_1 := blk_frozen BK484.out 1
              go_wp2
              go_loopg [4] k2 (fun kq v4 w' => ∃ (x4_3 : Int), v4 = .int .i64 x4_3 ∧ Aside0 (potbankref01_Check.l1 kq x4_3 l0_0 l0_1 = some r) ∧ Aside0 (kq ≤ k2) ∧ Aside0 (w'.heap[gb484]? = some (.cells #[(.slice A0_0 l0_0.length c0_0), (.slice A0_1 l0_1.length c0_1)] 66 (0, 0))) ∧ Aside0 (Below w.heap.size w w'))
              case atStart => exact ⟨(0), (by first | rfl | (simp; done) | (simp [*]; done)), H', ⟨Nat.le_refl _⟩, ⟨by (with_reducible repeat first | apply blk_drewN | apply blk_drew | apply blk_alloc); exact BK484.out⟩, ⟨by repeat (first | (with_reducible first | exact HB.out | apply below_alloc | apply pw_below_drewN | apply below_drew1 | refine below_set ?_ GE484.out) | exact HB.out)⟩⟩
              case round =>
                clear H'
                try clear c1
                try clear p2
                try clear c4
                try clear p4
                try clear q4
                try clear hx4
                try clear p6
                try clear c8
                try clear c8b0
                try clear c9
                try clear c11
                try clear c11b0
                try clear c11b1
                try clear c12
                try clear c12b0
                try clear c14
                try clear c15
                try clear hcz23_0
                try clear hcz23_1
                try clear hcz26_0
                try clear hcz26_1
                try clear hcz29_0
                try clear hcz29_1
                try clear hfz23_0
                try clear hfz23_1
                try clear hfz26_0
                try clear hfz26_1
                try clear hfz29_0
                try clear hfz29_1
                try clear hx485_0
                try clear hx485_1
                try clear hx485_10
                try clear hx485_2
                try clear hx485_3
                try clear hx485_4
                try clear hx485_5
                try clear hx485_6
                try clear hx485_7
                try clear hx485_8
                try clear hx485_9
                try clear p485
                try clear q485
                obtain ⟨x4_3, rfl, HA, HK3, BK484, HB⟩ := hrel
                cases gk with
                | zero => exact absurd HA.out (by simp [potbankref01_Check.l1])
                | succ k3 =>
                  have H := HA.out
                  clear HA
                  simp only [potbankref01_Check.l1] at H
                  by_cases c30 : x4_3 < (l0_1.length : Int)
                  · rw [if_pos c30] at H
                    have c30b0 : decide (x4_3 < (l0_1.length : Int)) = true := decide_eq_true c30
                    clear c30
                    by_cases c31 : 0 ≤ x4_3
                    · rw [if_pos c31] at H
                      have c31b0 : decide (0 ≤ x4_3) = true := decide_eq_true c31
                      clear c31
                      replace H := Option.bind_eq_some_iff.mp H
                      obtain ⟨t490, A320, H⟩ := H
                      replace H : (if t490 = 0 then (if x4_3 > 0 then (if 0 ≤ (wrap64 (x4_3 - 1)) then (if (wrap64 (x4_3 - 1)) < (l0_1.length : Int) then (if ((rd_T43 l0_1 (wrap64 (x4_3 - 1))).f0) ≥ ((rd_T43 l0_1 x4_3).f0) then (some 12) else (potbankref01_Check.l1 k3 (wrap64 (x4_3 + 1)) l0_0 l0_1)) else (none)) else (none)) else (potbankref01_Check.l1 k3 (wrap64 (x4_3 + 1)) l0_0 l0_1)) else (some 12)) = some r := H
                      have A32 := Aside0.mk A320
                      clear A320
                      by_cases c33 : t490 = 0
                      · rw [if_pos c33] at H
                        have c33b0 : (t490 == 0) = true := beq_iff_eq.mpr c33
                        have c33b1 : (t490 != 0) = false := bne_eq_false_iff_eq.mpr c33
                        clear c33
                        by_cases c34 : x4_3 > 0
                        · rw [if_pos c34] at H
                          have c34b0 : decide (0 < x4_3) = true := decide_eq_true c34
                          clear c34
                          obtain ⟨ji35, hji35⟩ : ∃ j_ : Int, (wrap64 (x4_3 - 1)) = j_ := ⟨_, rfl⟩
                          replace H : (if 0 ≤ (ji35) then (if (ji35) < (l0_1.length : Int) then (if ((rd_T43 l0_1 (ji35)).f0) ≥ ((rd_T43 l0_1 x4_3).f0) then (some 12) else (potbankref01_Check.l1 k3 (wrap64 (x4_3 + 1)) l0_0 l0_1)) else (none)) else (none)) = some r := by first | (rw [hji35] at H; exact H) | (simp only [hji35] at H ⊢; exact H)
                          (try rw [hji35] at A32)
                          have hji35w : (IntKind.i64.wrap (x4_3 - 1)) = ji35 := (i64_w _).trans hji35
                          by_cases c36 : 0 ≤ (ji35)
                          · rw [if_pos c36] at H
                            have c36b0 : decide (0 ≤ (ji35)) = true := decide_eq_true c36
                            clear c36
                            by_cases c37 : (ji35) < (l0_1.length : Int)
                            · rw [if_pos c37] at H
                              have c37b0 : decide ((ji35) < (l0_1.length : Int)) = true := decide_eq_true c37
                              clear c37
                              by_cases c38 : ((rd_T43 l0_1 (ji35)).f0) ≥ ((rd_T43 l0_1 x4_3).f0)
                              · rw [if_pos c38] at H
                                have c38b0 : decide (((rd_T43 l0_1 x4_3).f0) ≤ ((rd_T43 l0_1 (ji35)).f0)) = true := decide_eq_true c38
                                clear c38
                                obtain rfl := Option.some.inj H
                                have hcz39_0 : wr.cell? ⟨gb484, 0, none⟩ = some (.slice A0_0 l0_0.length c0_0) := (blk_cell BK484.out 0).trans rfl
                                have hcz39_1 : wr.cell? ⟨gb484, 1, none⟩ = some (.slice A0_1 l0_1.length c0_1) := (blk_cell BK484.out 1).trans rfl
                                have hfz39_0 := blk_frozen BK484.out 0
                                have hfz39_1 := blk_frozen BK484.out 1
                                try go_wp2
                                have n0_ := Aside0.mk (blk_drew BK484.out)
                                have n1_ := Aside0.mk (below_drew1 HB.out)
                                clear BK484
                                clear HB
                                have BK484 := n0_
                                have HB := n1_
                                clear n0_ n1_
                                have p489 : 0 ≤ (x4_3 : Int) := of_decide_eq_true (by first | (with_reducible assumption) | assumption)
                                have q489 : x4_3 < (l0_1.length : Int) := of_decide_eq_true (by first | (with_reducible assumption) | assumption)
                                obtain ⟨ad489, e489, hx489_0, hx489_1, hx489_2, hx489_3, hx489_4, hx489_5, hx489_6⟩ := at_T43 HR0_1.out x4_3 p489 q489
                                have hw489_6 := hx489_6
                                have hw489_5 := hx489_5
                                have hw489_4 := hx489_4
                                have hw489_3 := hx489_3
                                have hw489_2 := hx489_2
                                have hw489_1 := hx489_1
                                have hw489_0 := hx489_0
                                cases e489
                                replace hx489_0 := (HB.out.cell (World.block_lt_of_cell? w _ hx489_0)).trans hx489_0
                                replace hx489_1 := (HB.out.cell (World.block_lt_of_cell? w _ hx489_1)).trans hx489_1
                                replace hx489_2 := (HB.out.cell (World.block_lt_of_cell? w _ hx489_2)).trans hx489_2
                                replace hx489_3 := (HB.out.cell (World.block_lt_of_cell? w _ hx489_3)).trans hx489_3
                                replace hx489_4 := (HB.out.cell (World.block_lt_of_cell? w _ hx489_4)).trans hx489_4
                                replace hx489_5 := (HB.out.cell (World.block_lt_of_cell? w _ hx489_5)).trans hx489_5
                                replace hx489_6 := (HB.out.cell (World.block_lt_of_cell? w _ hx489_6)).trans hx489_6
                                replace p489 := eq_true p489
                                replace q489 := eq_true q489
                                have p491 : 0 ≤ ((ji35) : Int) := of_decide_eq_true (by first | (with_reducible assumption) | assumption)
                                have q491 : (ji35) < (l0_1.length : Int) := of_decide_eq_true (by first | (with_reducible assumption) | assumption)
                                obtain ⟨ad491, e491, hx491_0, hx491_1, hx491_2, hx491_3, hx491_4, hx491_5, hx491_6⟩ := at_T43 HR0_1.out (ji35) p491 q491
                                have hw491_6 := hx491_6
                                have hw491_5 := hx491_5
                                have hw491_4 := hx491_4
                                have hw491_3 := hx491_3
                                have hw491_2 := hx491_2
                                have hw491_1 := hx491_1
                                have hw491_0 := hx491_0
                                obtain rfl : ad489 = ad491 := (by injection e491)
                                replace hx491_0 := (HB.out.cell (World.block_lt_of_cell? w _ hx491_0)).trans hx491_0
                                replace hx491_1 := (HB.out.cell (World.block_lt_of_cell? w _ hx491_1)).trans hx491_1
                                replace hx491_2 := (HB.out.cell (World.block_lt_of_cell? w _ hx491_2)).trans hx491_2
                                replace hx491_3 := (HB.out.cell (World.block_lt_of_cell? w _ hx491_3)).trans hx491_3
                                replace hx491_4 := (HB.out.cell (World.block_lt_of_cell? w _ hx491_4)).trans hx491_4
                                replace hx491_5 := (HB.out.cell (World.block_lt_of_cell? w _ hx491_5)).trans hx491_5
                                replace hx491_6 := (HB.out.cell (World.block_lt_of_cell? w _ hx491_6)).trans hx491_6
                                replace p491 := eq_true p491
                                replace q491 := eq_true q491
                                have p492 : 0 ≤ (x4_3 : Int) := of_decide_eq_true (by first | (with_reducible assumption) | assumption)
                                have q492 : x4_3 < (l0_1.length : Int) := of_decide_eq_true (by first | (with_reducible assumption) | assumption)
                                obtain ⟨ad492, e492, hx492_0, hx492_1, hx492_2, hx492_3, hx492_4, hx492_5, hx492_6⟩ := at_T43 HR0_1.out x4_3 p492 q492
                                have hw492_6 := hx492_6
                                have hw492_5 := hx492_5
                                have hw492_4 := hx492_4
                                have hw492_3 := hx492_3
                                have hw492_2 := hx492_2
                                have hw492_1 := hx492_1
                                have hw492_0 := hx492_0
                                obtain rfl : ad489 = ad492 := (by injection e492)
                                replace hx492_0 := (HB.out.cell (World.block_lt_of_cell? w _ hx492_0)).trans hx492_0
                                replace hx492_1 := (HB.out.cell (World.block_lt_of_cell? w _ hx492_1)).trans hx492_1
                                replace hx492_2 := (HB.out.cell (World.block_lt_of_cell? w _ hx492_2)).trans hx492_2
                                replace hx492_3 := (HB.out.cell (World.block_lt_of_cell? w _ hx492_3)).trans hx492_3
                                replace hx492_4 := (HB.out.cell (World.block_lt_of_cell? w _ hx492_4)).trans hx492_4
                                replace hx492_5 := (HB.out.cell (World.block_lt_of_cell? w _ hx492_5)).trans hx492_5
                                replace hx492_6 := (HB.out.cell (World.block_lt_of_cell? w _ hx492_6)).trans hx492_6
                                replace p492 := eq_true p492
                                replace q492 := eq_true q492
                                refine start_ (n := 27) (S := fun w' => w'.cell? ⟨gb484, 0, none⟩ = some (.slice A0_0 l0_0.length c0_0) ∧ w'.cell? ⟨gb484, 1, none⟩ = some (.slice (some ad489) l0_1.length c0_1) ∧ w'.cell? (ad489.add ((x4_3).toNat * 7)) = some (.int .i64 ((rd_T43 l0_1 x4_3).f0)) ∧ w'.cell? ⟨(ad489.add ((x4_3).toNat * 7)).block, (ad489.add ((x4_3).toNat * 7)).off + 1, none⟩ = some (.int .i64 ((rd_T43 l0_1 x4_3).f1.f0)) ∧ w'.cell? ⟨(ad489.add ((x4_3).toNat * 7)).block, (ad489.add ((x4_3).toNat * 7)).off + 2, none⟩ = some (.int .i64 ((rd_T43 l0_1 x4_3).f1.f1)) ∧ w'.cell? ⟨(ad489.add ((x4_3).toNat * 7)).block, (ad489.add ((x4_3).toNat * 7)).off + 3, none⟩ = some (.int .i64 ((rd_T43 l0_1 x4_3).f2.f0)) ∧ w'.cell? ⟨(ad489.add ((x4_3).toNat * 7)).block, (ad489.add ((x4_3).toNat * 7)).off + 4, none⟩ = some (.int .i64 ((rd_T43 l0_1 x4_3).f2.f1)) ∧ w'.cell? ⟨(ad489.add ((x4_3).toNat * 7)).block, (ad489.add ((x4_3).toNat * 7)).off + 5, none⟩ = some (.int .i64 ((rd_T43 l0_1 x4_3).f3.f0)) ∧ w'.cell? ⟨(ad489.add ((x4_3).toNat * 7)).block, (ad489.add ((x4_3).toNat * 7)).off + 6, none⟩ = some (.int .i64 ((rd_T43 l0_1 x4_3).f3.f1)) ∧ w'.cell? (ad489.add (((ji35)).toNat * 7)) = some (.int .i64 ((rd_T43 l0_1 (ji35)).f0)) ∧ w'.cell? ⟨(ad489.add (((ji35)).toNat * 7)).block, (ad489.add (((ji35)).toNat * 7)).off + 1, none⟩ = some (.int .i64 ((rd_T43 l0_1 (ji35)).f1.f0)) ∧ w'.cell? ⟨(ad489.add (((ji35)).toNat * 7)).block, (ad489.add (((ji35)).toNat * 7)).off + 2, none⟩ = some (.int .i64 ((rd_T43 l0_1 (ji35)).f1.f1)) ∧ w'.cell? ⟨(ad489.add (((ji35)).toNat * 7)).block, (ad489.add (((ji35)).toNat * 7)).off + 3, none⟩ = some (.int .i64 ((rd_T43 l0_1 (ji35)).f2.f0)) ∧ w'.cell? ⟨(ad489.add (((ji35)).toNat * 7)).block, (ad489.add (((ji35)).toNat * 7)).off + 4, none⟩ = some (.int .i64 ((rd_T43 l0_1 (ji35)).f2.f1)) ∧ w'.cell? ⟨(ad489.add (((ji35)).toNat * 7)).block, (ad489.add (((ji35)).toNat * 7)).off + 5, none⟩ = some (.int .i64 ((rd_T43 l0_1 (ji35)).f3.f0)) ∧ w'.cell? ⟨(ad489.add (((ji35)).toNat * 7)).block, (ad489.add (((ji35)).toNat * 7)).off + 6, none⟩ = some (.int .i64 ((rd_T43 l0_1 (ji35)).f3.f1)) ∧ w'.cell? (ad489.add ((x4_3).toNat * 7)) = some (.int .i64 ((rd_T43 l0_1 x4_3).f0)) ∧ w'.cell? ⟨(ad489.add ((x4_3).toNat * 7)).block, (ad489.add ((x4_3).toNat * 7)).off + 1, none⟩ = some (.int .i64 ((rd_T43 l0_1 x4_3).f1.f0)) ∧ w'.cell? ⟨(ad489.add ((x4_3).toNat * 7)).block, (ad489.add ((x4_3).toNat * 7)).off + 2, none⟩ = some (.int .i64 ((rd_T43 l0_1 x4_3).f1.f1)) ∧ w'.cell? ⟨(ad489.add ((x4_3).toNat * 7)).block, (ad489.add ((x4_3).toNat * 7)).off + 3, none⟩ = some (.int .i64 ((rd_T43 l0_1 x4_3).f2.f0)) ∧ w'.cell? ⟨(ad489.add ((x4_3).toNat * 7)).block, (ad489.add ((x4_3).toNat * 7)).off + 4, none⟩ = some (.int .i64 ((rd_T43 l0_1 x4_3).f2.f1)) ∧ w'.cell? ⟨(ad489.add ((x4_3).toNat * 7)).block, (ad489.add ((x4_3).toNat * 7)).off + 5, none⟩ = some (.int .i64 ((rd_T43 l0_1 x4_3).f3.f0)) ∧ w'.cell? ⟨(ad489.add ((x4_3).toNat * 7)).block, (ad489.add ((x4_3).toNat * 7)).off + 6, none⟩ = some (.int .i64 ((rd_T43 l0_1 x4_3).f3.f1))) (ds := []) #[false, false, false, false, false, false, false, false, false, false, false, false, false, false, false, false, false, false, false, false, false, false, false, false, false, false, false] (by kernel_rfl) rfl rfl ⟨(blk_cell BK484.out 0).trans rfl, (blk_cell BK484.out 1).trans rfl, ((HB.out.cell (World.block_lt_of_cell? w _ hw489_0)).trans hw489_0), ((HB.out.cell (World.block_lt_of_cell? w _ hw489_1)).trans hw489_1), ((HB.out.cell (World.block_lt_of_cell? w _ hw489_2)).trans hw489_2), ((HB.out.cell (World.block_lt_of_cell? w _ hw489_3)).trans hw489_3), ((HB.out.cell (World.block_lt_of_cell? w _ hw489_4)).trans hw489_4), ((HB.out.cell (World.block_lt_of_cell? w _ hw489_5)).trans hw489_5), ((HB.out.cell (World.block_lt_of_cell? w _ hw489_6)).trans hw489_6), ((HB.out.cell (World.block_lt_of_cell? w _ hw491_0)).trans hw491_0), ((HB.out.cell (World.block_lt_of_cell? w _ hw491_1)).trans hw491_1), ((HB.out.cell (World.block_lt_of_cell? w _ hw491_2)).trans hw491_2), ((HB.out.cell (World.block_lt_of_cell? w _ hw491_3)).trans hw491_3), ((HB.out.cell (World.block_lt_of_cell? w _ hw491_4)).trans hw491_4), ((HB.out.cell (World.block_lt_of_cell? w _ hw491_5)).trans hw491_5), ((HB.out.cell (World.block_lt_of_cell? w _ hw491_6)).trans hw491_6), ((HB.out.cell (World.block_lt_of_cell? w _ hw492_0)).trans hw492_0), ((HB.out.cell (World.block_lt_of_cell? w _ hw492_1)).trans hw492_1), ((HB.out.cell (World.block_lt_of_cell? w _ hw492_2)).trans hw492_2), ((HB.out.cell (World.block_lt_of_cell? w _ hw492_3)).trans hw492_3), ((HB.out.cell (World.block_lt_of_cell? w _ hw492_4)).trans hw492_4), ((HB.out.cell (World.block_lt_of_cell? w _ hw492_5)).trans hw492_5), ((HB.out.cell (World.block_lt_of_cell? w _ hw492_6)).trans hw492_6)⟩ (fun hHeld => ?_); refine with_tabW potbankref01_Check.tab11 potbankref01_Check.bits11 (fun HT_ HW_ => ?_)
                                generalize wr.drew = w40 at BK484 HB hx489_0 hx489_1 hx489_2 hx489_3 hx489_4 hx489_5 hx489_6 hx491_0 hx491_1 hx491_2 hx491_3 hx491_4 hx491_5 hx491_6 hx492_0 hx492_1 hx492_2 hx492_3 hx492_4 hx492_5 hx492_6 hHeld ⊢
                                refine pure_ (i := 0) (N := some 56) (v := ?_) (a' := ?_) #[true, false, false, false, false, false, false, false, false, false, false, false, false, false, false, false, false, false, false, false, false, false, false, false, false, false, false] rfl rfl (any_of HT_.out (by kernel_rfl)) (fun _ _ _ h => h) (Or.inl ⟨by rfl, ?_⟩) ?_ ?_
                                rotate_left
                                · intro w'
                                  go_simp
                                  with_reducible rfl
                                rotate_left
                                · simp only [Act.put, List.setIfInBounds_toArray, List.set_cons_zero, List.set_cons_succ, i64_w, i32_w]
                                  rfl
                                refine pure_ (i := 2) (N := some 58) (v := ?_) (a' := ?_) #[true, false, true, false, false, false, false, false, false, false, false, false, false, false, false, false, false, false, false, false, false, false, false, false, false, false, false] rfl rfl (any_of HT_.out (by kernel_rfl)) (fun _ _ _ h => h) (Or.inl ⟨by rfl, ?_⟩) ?_ ?_
                                rotate_left
                                · intro w'
                                  go_simp
                                  with_reducible rfl
                                rotate_left
                                · simp only [Act.put, List.setIfInBounds_toArray, List.set_cons_zero, List.set_cons_succ, i64_w, i32_w]
                                  rfl
                                refine take_ (i := 1) (N := some 57) (v := ?_) (a' := ?_) #[true, true, true, false, false, false, false, false, false, false, false, false, false, false, false, false, false, false, false, false, false, false, false, false, false, false, false] rfl rfl (take_ofW HT_.out HW_.out (by kernel_rfl)) (fun _ _ _ h => h) (Or.inl ⟨by rfl, ?_⟩) hHeld ?_ ?_
                                rotate_left
                                · rintro w' ⟨s0, s1, s2, s3, s4, s5, s6, s7, s8, s9, s10, s11, s12, s13, s14, s15, s16, s17, s18, s19, s20, s21, s22⟩
                                  go_simp
                                  with_reducible rfl
                                rotate_left
                                · simp only [Act.put, List.setIfInBounds_toArray, List.set_cons_zero, List.set_cons_succ, i64_w, i32_w]
                                  rfl
                                refine pure_ (i := 3) (N := some 59) (v := ?_) (a' := ?_) #[true, true, true, true, false, false, false, false, false, false, false, false, false, false, false, false, false, false, false, false, false, false, false, false, false, false, false] rfl rfl (any_of HT_.out (by kernel_rfl)) (fun _ _ _ h => h) (Or.inl ⟨by rfl, ?_⟩) ?_ ?_
                                rotate_left
                                · intro w'
                                  go_simp
                                  with_reducible rfl
                                rotate_left
                                · simp only [Act.put, List.setIfInBounds_toArray, List.set_cons_zero, List.set_cons_succ, i64_w, i32_w]
                                  rfl
                                refine take_ (i := 4) (N := some 60) (v := ?_) (a' := ?_) #[true, true, true, true, true, false, false, false, false, false, false, false, false, false, false, false, false, false, false, false, false, false, false, false, false, false, false] rfl rfl (take_ofW HT_.out HW_.out (by kernel_rfl)) (fun _ _ _ h => h) (Or.inl ⟨by rfl, ?_⟩) hHeld ?_ ?_
                                rotate_left
                                · rintro w' ⟨s0, s1, s2, s3, s4, s5, s6, s7, s8, s9, s10, s11, s12, s13, s14, s15, s16, s17, s18, s19, s20, s21, s22⟩
                                  go_simp
                                  with_reducible rfl
                                rotate_left
                                · simp only [Act.put, List.setIfInBounds_toArray, List.set_cons_zero, List.set_cons_succ, i64_w, i32_w]
                                  rfl
                                refine one_ (i := 5) (N := some 61) #[true, true, true, true, true, true, false, false, false, false, false, false, false, false, false, false, false, false, false, false, false, false, false, false, false, false, false] rfl rfl (one_of HT_.out (by kernel_rfl)) (by decide) (fun K hK => ?_)
                                refine goes_ Try.func46 (by kernel_rfl) rfl #[.agg #[.int .i64 ((rd_T43 l0_1 x4_3).f0), .int .i64 ((rd_T43 l0_1 x4_3).f1.f0), .int .i64 ((rd_T43 l0_1 x4_3).f1.f1), .int .i64 ((rd_T43 l0_1 x4_3).f2.f0), .int .i64 ((rd_T43 l0_1 x4_3).f2.f1), .int .i64 ((rd_T43 l0_1 x4_3).f3.f0), .int .i64 ((rd_T43 l0_1 x4_3).f3.f1)]] (by rfl) rfl rfl (by (try simp only [List.map_toArray, List.map_cons, List.map_nil]); first | done | rfl | (simp only [List.length_drop, List.length_take]; rfl)) ?_
                                with_reducible refine (potbankref01_CheckBody.calls ((rd_T43 l0_1 x4_3).f0) ((rd_T43 l0_1 x4_3).f1.f0) ((rd_T43 l0_1 x4_3).f1.f1) ((rd_T43 l0_1 x4_3).f2.f0) ((rd_T43 l0_1 x4_3).f2.f1) ((rd_T43 l0_1 x4_3).f3.f0) ((rd_T43 l0_1 x4_3).f3.f1) t490 _ A32.out).mono ?_
                                rintro e w41 ⟨rfl, hb⟩
                                refine ⟨_, rfl, ?_⟩
                                have n0_ := blkE BK484 hb
                                have n1_ := Aside0.mk (below_step (by repeat (first | (with_reducible first | exact HB.out | apply below_alloc | apply pw_below_drewN | apply below_drew1 | refine below_set ?_ GE484.out) | exact HB.out)) hb)
                                clear BK484
                                clear HB
                                have BK484 := n0_
                                have HB := n1_
                                clear n0_ n1_
                                (try clear hb)
                                (try clear hb2)
                                (try clear hk)
                                (try clear hi)
                                refine hK.out _ _ ⟨(blk_cell BK484.out 0).trans rfl, (blk_cell BK484.out 1).trans rfl, ((HB.out.cell (World.block_lt_of_cell? w _ hw489_0)).trans hw489_0), ((HB.out.cell (World.block_lt_of_cell? w _ hw489_1)).trans hw489_1), ((HB.out.cell (World.block_lt_of_cell? w _ hw489_2)).trans hw489_2), ((HB.out.cell (World.block_lt_of_cell? w _ hw489_3)).trans hw489_3), ((HB.out.cell (World.block_lt_of_cell? w _ hw489_4)).trans hw489_4), ((HB.out.cell (World.block_lt_of_cell? w _ hw489_5)).trans hw489_5), ((HB.out.cell (World.block_lt_of_cell? w _ hw489_6)).trans hw489_6), ((HB.out.cell (World.block_lt_of_cell? w _ hw491_0)).trans hw491_0), ((HB.out.cell (World.block_lt_of_cell? w _ hw491_1)).trans hw491_1), ((HB.out.cell (World.block_lt_of_cell? w _ hw491_2)).trans hw491_2), ((HB.out.cell (World.block_lt_of_cell? w _ hw491_3)).trans hw491_3), ((HB.out.cell (World.block_lt_of_cell? w _ hw491_4)).trans hw491_4), ((HB.out.cell (World.block_lt_of_cell? w _ hw491_5)).trans hw491_5), ((HB.out.cell (World.block_lt_of_cell? w _ hw491_6)).trans hw491_6), ((HB.out.cell (World.block_lt_of_cell? w _ hw492_0)).trans hw492_0), ((HB.out.cell (World.block_lt_of_cell? w _ hw492_1)).trans hw492_1), ((HB.out.cell (World.block_lt_of_cell? w _ hw492_2)).trans hw492_2), ((HB.out.cell (World.block_lt_of_cell? w _ hw492_3)).trans hw492_3), ((HB.out.cell (World.block_lt_of_cell? w _ hw492_4)).trans hw492_4), ((HB.out.cell (World.block_lt_of_cell? w _ hw492_5)).trans hw492_5), ((HB.out.cell (World.block_lt_of_cell? w _ hw492_6)).trans hw492_6)⟩ (fun hHeld => ?_)
                                clear hK K
                                refine norm_ (a' := ?_) ?_ ?_
                                rotate_left
                                · show Act.put _ (some 61) _ = _
                                  simp only [Act.put, List.setIfInBounds_toArray, List.set_cons_zero, List.set_cons_succ, i64_w, i32_w]
                                  rfl
                                refine pure_ (i := 6) (N := some 62) (v := ?_) (a' := ?_) #[true, true, true, true, true, true, true, false, false, false, false, false, false, false, false, false, false, false, false, false, false, false, false, false, false, false, false] rfl rfl (any_of HT_.out (by kernel_rfl)) (fun _ _ _ h => h) (Or.inl ⟨by rfl, ?_⟩) ?_ ?_
                                rotate_left
                                · intro w'
                                  go_simp
                                  with_reducible rfl
                                rotate_left
                                · simp only [Act.put, List.setIfInBounds_toArray, List.set_cons_zero, List.set_cons_succ, i64_w, i32_w]
                                  rfl
                                refine pure_ (i := 7) (N := some 63) (v := ?_) (a' := ?_) #[true, true, true, true, true, true, true, true, false, false, false, false, false, false, false, false, false, false, false, false, false, false, false, false, false, false, false] rfl rfl (any_of HT_.out (by kernel_rfl)) (fun _ _ _ h => h) (Or.inl ⟨by rfl, ?_⟩) ?_ ?_
                                rotate_left
                                · intro w'
                                  go_simp
                                  with_reducible rfl
                                rotate_left
                                · simp only [Act.put, List.setIfInBounds_toArray, List.set_cons_zero, List.set_cons_succ, i64_w, i32_w]
                                  rfl
                                refine pure_ (i := 8) (N := some 64) (v := ?_) (a' := ?_) #[true, true, true, true, true, true, true, true, true, false, false, false, false, false, false, false, false, false, false, false, false, false, false, false, false, false, false] rfl rfl (any_of HT_.out (by kernel_rfl)) (fun _ _ _ h => h) (Or.inl ⟨by rfl, ?_⟩) ?_ ?_
                                rotate_left
                                · intro w'
                                  go_simp
                                  with_reducible rfl
                                rotate_left
                                · simp only [Act.put, List.setIfInBounds_toArray, List.set_cons_zero, List.set_cons_succ, i64_w, i32_w]
                                  rfl
                                refine pure_ (i := 9) (N := some 65) (v := ?_) (a' := ?_) #[true, true, true, true, true, true, true, true, true, true, false, false, false, false, false, false, false, false, false, false, false, false, false, false, false, false, false] rfl rfl (any_of HT_.out (by kernel_rfl)) (fun _ _ _ h => h) (Or.inl ⟨by rfl, ?_⟩) ?_ ?_
                                rotate_left
                                · intro w'
                                  go_simp
                                  with_reducible rfl
                                rotate_left
                                · simp only [Act.put, List.setIfInBounds_toArray, List.set_cons_zero, List.set_cons_succ, i64_w, i32_w]
                                  rfl
                                refine pure_ (i := 10) (N := some 66) (v := ?_) (a' := ?_) #[true, true, true, true, true, true, true, true, true, true, true, false, false, false, false, false, false, false, false, false, false, false, false, false, false, false, false] rfl rfl (any_of HT_.out (by kernel_rfl)) (fun _ _ _ h => h) (Or.inl ⟨by rfl, ?_⟩) ?_ ?_
                                rotate_left
                                · intro w'
                                  go_simp
                                  with_reducible rfl
                                rotate_left
                                · simp only [Act.put, List.setIfInBounds_toArray, List.set_cons_zero, List.set_cons_succ, i64_w, i32_w]
                                  rfl
                                refine pure_ (i := 11) (N := some 67) (v := ?_) (a' := ?_) #[true, true, true, true, true, true, true, true, true, true, true, true, false, false, false, false, false, false, false, false, false, false, false, false, false, false, false] rfl rfl (any_of HT_.out (by kernel_rfl)) (fun _ _ _ h => h) (Or.inl ⟨by rfl, ?_⟩) ?_ ?_
                                rotate_left
                                · intro w'
                                  go_simp
                                  with_reducible rfl
                                rotate_left
                                · simp only [Act.put, List.setIfInBounds_toArray, List.set_cons_zero, List.set_cons_succ, i64_w, i32_w]
                                  rfl
                                refine pure_ (i := 13) (N := some 69) (v := ?_) (a' := ?_) #[true, true, true, true, true, true, true, true, true, true, true, true, false, true, false, false, false, false, false, false, false, false, false, false, false, false, false] rfl rfl (any_of HT_.out (by kernel_rfl)) (fun _ _ _ h => h) (Or.inl ⟨by rfl, ?_⟩) ?_ ?_
                                rotate_left
                                · intro w'
                                  go_simp
                                  with_reducible rfl
                                rotate_left
                                · simp only [Act.put, List.setIfInBounds_toArray, List.set_cons_zero, List.set_cons_succ, i64_w, i32_w]
                                  rfl
                                refine pure_ (i := 14) (N := some 70) (v := ?_) (a' := ?_) #[true, true, true, true, true, true, true, true, true, true, true, true, false, true, true, false, false, false, false, false, false, false, false, false, false, false, false] rfl rfl (any_of HT_.out (by kernel_rfl)) (fun _ _ _ h => h) (Or.inl ⟨by rfl, ?_⟩) ?_ ?_
                                rotate_left
                                · intro w'
                                  go_simp
                                  with_reducible rfl
                                rotate_left
                                · simp only [Act.put, List.setIfInBounds_toArray, List.set_cons_zero, List.set_cons_succ, i64_w, i32_w]
                                  rfl
                                refine pure_ (i := 18) (N := some 74) (v := ?_) (a' := ?_) #[true, true, true, true, true, true, true, true, true, true, true, true, false, true, true, false, false, false, true, false, false, false, false, false, false, false, false] rfl rfl (any_of HT_.out (by kernel_rfl)) (fun _ _ _ h => h) (Or.inl ⟨by rfl, ?_⟩) ?_ ?_
                                rotate_left
                                · intro w'
                                  go_simp
                                  with_reducible rfl
                                rotate_left
                                · simp only [Act.put, List.setIfInBounds_toArray, List.set_cons_zero, List.set_cons_succ, i64_w, i32_w]
                                  rfl
                                refine pure_ (i := 20) (N := some 76) (v := ?_) (a' := ?_) #[true, true, true, true, true, true, true, true, true, true, true, true, false, true, true, false, false, false, true, false, true, false, false, false, false, false, false] rfl rfl (any_of HT_.out (by kernel_rfl)) (fun _ _ _ h => h) (Or.inl ⟨by rfl, ?_⟩) ?_ ?_
                                rotate_left
                                · intro w'
                                  go_simp
                                  with_reducible rfl
                                rotate_left
                                · simp only [Act.put, List.setIfInBounds_toArray, List.set_cons_zero, List.set_cons_succ, i64_w, i32_w]
                                  rfl
                                refine take_ (i := 12) (N := some 68) (v := ?_) (a' := ?_) #[true, true, true, true, true, true, true, true, true, true, true, true, true, true, true, false, false, false, true, false, true, false, false, false, false, false, false] rfl rfl (take_ofW HT_.out HW_.out (by kernel_rfl)) (fun _ _ _ h => h) (Or.inl ⟨by rfl, ?_⟩) hHeld ?_ ?_
                                rotate_left
                                · rintro w' ⟨s0, s1, s2, s3, s4, s5, s6, s7, s8, s9, s10, s11, s12, s13, s14, s15, s16, s17, s18, s19, s20, s21, s22⟩
                                  go_simp
                                  with_reducible rfl
                                rotate_left
                                · simp only [Act.put, List.setIfInBounds_toArray, List.set_cons_zero, List.set_cons_succ, i64_w, i32_w]
                                  rfl
                                refine pure_ (i := 15) (N := some 71) (v := ?_) (a' := ?_) #[true, true, true, true, true, true, true, true, true, true, true, true, true, true, true, true, false, false, true, false, true, false, false, false, false, false, false] rfl rfl (any_of HT_.out (by kernel_rfl)) (fun _ _ _ h => h) (Or.inl ⟨by rfl, ?_⟩) ?_ ?_
                                rotate_left
                                · intro w'
                                  go_simp
                                  with_reducible rfl
                                rotate_left
                                · simp only [Act.put, List.setIfInBounds_toArray, List.set_cons_zero, List.set_cons_succ, i64_w, i32_w]
                                  rfl
                                refine pure_ (i := 16) (N := some 72) (v := ?_) (a' := ?_) #[true, true, true, true, true, true, true, true, true, true, true, true, true, true, true, true, true, false, true, false, true, false, false, false, false, false, false] rfl rfl (any_of HT_.out (by kernel_rfl)) (fun _ _ _ h => h) (Or.inl ⟨by rfl, ?_⟩) ?_ ?_
                                rotate_left
                                · intro w'
                                  go_simp
                                  with_reducible rfl
                                rotate_left
                                · simp only [Act.put, List.setIfInBounds_toArray, List.set_cons_zero, List.set_cons_succ, i64_w, i32_w]
                                  rfl
                                refine take_ (i := 17) (N := some 73) (v := ?_) (a' := ?_) #[true, true, true, true, true, true, true, true, true, true, true, true, true, true, true, true, true, true, true, false, true, false, false, false, false, false, false] rfl rfl (take_ofW HT_.out HW_.out (by kernel_rfl)) (fun _ _ _ h => h) (Or.inl ⟨by rfl, ?_⟩) hHeld ?_ ?_
                                rotate_left
                                · rintro w' ⟨s0, s1, s2, s3, s4, s5, s6, s7, s8, s9, s10, s11, s12, s13, s14, s15, s16, s17, s18, s19, s20, s21, s22⟩
                                  go_simp
                                  with_reducible rfl
                                rotate_left
                                · simp only [Act.put, List.setIfInBounds_toArray, List.set_cons_zero, List.set_cons_succ, i64_w, i32_w]
                                  rfl
                                refine take_ (i := 19) (N := some 75) (v := ?_) (a' := ?_) #[true, true, true, true, true, true, true, true, true, true, true, true, true, true, true, true, true, true, true, true, true, false, false, false, false, false, false] rfl rfl (take_ofW HT_.out HW_.out (by kernel_rfl)) (fun _ _ _ h => h) (Or.inl ⟨by rfl, ?_⟩) hHeld ?_ ?_
                                rotate_left
                                · rintro w' ⟨s0, s1, s2, s3, s4, s5, s6, s7, s8, s9, s10, s11, s12, s13, s14, s15, s16, s17, s18, s19, s20, s21, s22⟩
                                  go_simp
                                  with_reducible rfl
                                rotate_left
                                · simp only [Act.put, List.setIfInBounds_toArray, List.set_cons_zero, List.set_cons_succ, i64_w, i32_w]
                                  rfl
                                refine pure_ (i := 21) (N := some 77) (v := ?_) (a' := ?_) #[true, true, true, true, true, true, true, true, true, true, true, true, true, true, true, true, true, true, true, true, true, true, false, false, false, false, false] rfl rfl (any_of HT_.out (by kernel_rfl)) (fun _ _ _ h => h) (Or.inl ⟨by rfl, ?_⟩) ?_ ?_
                                rotate_left
                                · intro w'
                                  go_simp
                                  with_reducible rfl
                                rotate_left
                                · simp only [Act.put, List.setIfInBounds_toArray, List.set_cons_zero, List.set_cons_succ, i64_w, i32_w]
                                  rfl
                                refine pure_ (i := 22) (N := some 78) (v := ?_) (a' := ?_) #[true, true, true, true, true, true, true, true, true, true, true, true, true, true, true, true, true, true, true, true, true, true, true, false, false, false, false] rfl rfl (any_of HT_.out (by kernel_rfl)) (fun _ _ _ h => h) (Or.inl ⟨by rfl, ?_⟩) ?_ ?_
                                rotate_left
                                · intro w'
                                  go_simp
                                  with_reducible rfl
                                rotate_left
                                · simp only [Act.put, List.setIfInBounds_toArray, List.set_cons_zero, List.set_cons_succ, i64_w, i32_w]
                                  rfl
                                refine take_ (i := 23) (N := some 79) (v := ?_) (a' := ?_) #[true, true, true, true, true, true, true, true, true, true, true, true, true, true, true, true, true, true, true, true, true, true, true, true, false, false, false] rfl rfl (take_ofW HT_.out HW_.out (by kernel_rfl)) (fun _ _ _ h => h) (Or.inl ⟨by rfl, ?_⟩) hHeld ?_ ?_
                                rotate_left
                                · rintro w' ⟨s0, s1, s2, s3, s4, s5, s6, s7, s8, s9, s10, s11, s12, s13, s14, s15, s16, s17, s18, s19, s20, s21, s22⟩
                                  go_simp
                                  with_reducible rfl
                                rotate_left
                                · simp only [Act.put, List.setIfInBounds_toArray, List.set_cons_zero, List.set_cons_succ, i64_w, i32_w]
                                  rfl
                                refine pure_ (i := 24) (N := some 80) (v := ?_) (a' := ?_) #[true, true, true, true, true, true, true, true, true, true, true, true, true, true, true, true, true, true, true, true, true, true, true, true, true, false, false] rfl rfl (any_of HT_.out (by kernel_rfl)) (fun _ _ _ h => h) (Or.inl ⟨by rfl, ?_⟩) ?_ ?_
                                rotate_left
                                · intro w'
                                  go_simp
                                  with_reducible rfl
                                rotate_left
                                · simp only [Act.put, List.setIfInBounds_toArray, List.set_cons_zero, List.set_cons_succ, i64_w, i32_w]
                                  rfl
                                refine pure_ (i := 25) (N := some 81) (v := ?_) (a' := ?_) #[true, true, true, true, true, true, true, true, true, true, true, true, true, true, true, true, true, true, true, true, true, true, true, true, true, true, false] rfl rfl (any_of HT_.out (by kernel_rfl)) (fun _ _ _ h => h) (Or.inl ⟨by rfl, ?_⟩) ?_ ?_
                                rotate_left
                                · intro w'
                                  go_simp
                                  with_reducible rfl
                                rotate_left
                                · simp only [Act.put, List.setIfInBounds_toArray, List.set_cons_zero, List.set_cons_succ, i64_w, i32_w]
                                  rfl
                                refine pure_ (i := 26) (N := some 82) (v := ?_) (a' := ?_) #[true, true, true, true, true, true, true, true, true, true, true, true, true, true, true, true, true, true, true, true, true, true, true, true, true, true, true] rfl rfl (any_of HT_.out (by kernel_rfl)) (fun _ _ _ h => h) (Or.inl ⟨by rfl, ?_⟩) ?_ ?_
                                rotate_left
                                · intro w'
                                  go_simp
                                  with_reducible rfl
                                rotate_left
                                · simp only [Act.put, List.setIfInBounds_toArray, List.set_cons_zero, List.set_cons_succ, i64_w, i32_w]
                                  rfl
                                refine done_ (done_of HT_.out (by kernel_rfl)) ?_
                                try go_wp2
                                go_ret
                                exact ⟨by first | rfl | (simp [errW_none, errW_some] <;> rfl) | (simp only [← hji35]; first | rfl | (simp [errW_none, errW_some] <;> rfl)) | (simp [*, errW_none, errW_some] <;> rfl), by repeat (first | (with_reducible first | exact HB.out | apply below_alloc | apply pw_below_drewN | apply below_drew1 | refine below_set ?_ GE484.out) | exact HB.out)⟩
                              · rw [if_neg c38] at H
                                have c38b0 : decide (((rd_T43 l0_1 x4_3).f0) ≤ ((rd_T43 l0_1 (ji35)).f0)) = false := decide_eq_false c38
                                clear c38
                                have H' := Aside0.mk H
                                clear H
                                have hcz42_0 : wr.cell? ⟨gb484, 0, none⟩ = some (.slice A0_0 l0_0.length c0_0) := (blk_cell BK484.out 0).trans rfl
                                have hcz42_1 : wr.cell? ⟨gb484, 1, none⟩ = some (.slice A0_1 l0_1.length c0_1) := (blk_cell BK484.out 1).trans rfl
                                have hfz42_0 := blk_frozen BK484.out 0
                                have hfz42_1 := blk_frozen BK484.out 1
                                try go_wp2
                                have n0_ := Aside0.mk (blk_drew BK484.out)
                                have n1_ := Aside0.mk (below_drew1 HB.out)
                                clear BK484
                                clear HB
                                have BK484 := n0_
                                have HB := n1_
                                clear n0_ n1_
                                have p489 : 0 ≤ (x4_3 : Int) := of_decide_eq_true (by first | (with_reducible assumption) | assumption)
                                have q489 : x4_3 < (l0_1.length : Int) := of_decide_eq_true (by first | (with_reducible assumption) | assumption)
                                obtain ⟨ad489, e489, hx489_0, hx489_1, hx489_2, hx489_3, hx489_4, hx489_5, hx489_6⟩ := at_T43 HR0_1.out x4_3 p489 q489
                                have hw489_6 := hx489_6
                                have hw489_5 := hx489_5
                                have hw489_4 := hx489_4
                                have hw489_3 := hx489_3
                                have hw489_2 := hx489_2
                                have hw489_1 := hx489_1
                                have hw489_0 := hx489_0
                                cases e489
                                replace hx489_0 := (HB.out.cell (World.block_lt_of_cell? w _ hx489_0)).trans hx489_0
                                replace hx489_1 := (HB.out.cell (World.block_lt_of_cell? w _ hx489_1)).trans hx489_1
                                replace hx489_2 := (HB.out.cell (World.block_lt_of_cell? w _ hx489_2)).trans hx489_2
                                replace hx489_3 := (HB.out.cell (World.block_lt_of_cell? w _ hx489_3)).trans hx489_3
                                replace hx489_4 := (HB.out.cell (World.block_lt_of_cell? w _ hx489_4)).trans hx489_4
                                replace hx489_5 := (HB.out.cell (World.block_lt_of_cell? w _ hx489_5)).trans hx489_5
                                replace hx489_6 := (HB.out.cell (World.block_lt_of_cell? w _ hx489_6)).trans hx489_6
                                replace p489 := eq_true p489
                                replace q489 := eq_true q489
                                have p491 : 0 ≤ ((ji35) : Int) := of_decide_eq_true (by first | (with_reducible assumption) | assumption)
                                have q491 : (ji35) < (l0_1.length : Int) := of_decide_eq_true (by first | (with_reducible assumption) | assumption)
                                obtain ⟨ad491, e491, hx491_0, hx491_1, hx491_2, hx491_3, hx491_4, hx491_5, hx491_6⟩ := at_T43 HR0_1.out (ji35) p491 q491
                                have hw491_6 := hx491_6
                                have hw491_5 := hx491_5
                                have hw491_4 := hx491_4
                                have hw491_3 := hx491_3
                                have hw491_2 := hx491_2
                                have hw491_1 := hx491_1
                                have hw491_0 := hx491_0
                                obtain rfl : ad489 = ad491 := (by injection e491)
                                replace hx491_0 := (HB.out.cell (World.block_lt_of_cell? w _ hx491_0)).trans hx491_0
                                replace hx491_1 := (HB.out.cell (World.block_lt_of_cell? w _ hx491_1)).trans hx491_1
                                replace hx491_2 := (HB.out.cell (World.block_lt_of_cell? w _ hx491_2)).trans hx491_2
                                replace hx491_3 := (HB.out.cell (World.block_lt_of_cell? w _ hx491_3)).trans hx491_3
                                replace hx491_4 := (HB.out.cell (World.block_lt_of_cell? w _ hx491_4)).trans hx491_4
                                replace hx491_5 := (HB.out.cell (World.block_lt_of_cell? w _ hx491_5)).trans hx491_5
                                replace hx491_6 := (HB.out.cell (World.block_lt_of_cell? w _ hx491_6)).trans hx491_6
                                replace p491 := eq_true p491
                                replace q491 := eq_true q491
                                have p492 : 0 ≤ (x4_3 : Int) := of_decide_eq_true (by first | (with_reducible assumption) | assumption)
                                have q492 : x4_3 < (l0_1.length : Int) := of_decide_eq_true (by first | (with_reducible assumption) | assumption)
                                obtain ⟨ad492, e492, hx492_0, hx492_1, hx492_2, hx492_3, hx492_4, hx492_5, hx492_6⟩ := at_T43 HR0_1.out x4_3 p492 q492
                                have hw492_6 := hx492_6
                                have hw492_5 := hx492_5
                                have hw492_4 := hx492_4
                                have hw492_3 := hx492_3
                                have hw492_2 := hx492_2
                                have hw492_1 := hx492_1
                                have hw492_0 := hx492_0
                                obtain rfl : ad489 = ad492 := (by injection e492)
                                replace hx492_0 := (HB.out.cell (World.block_lt_of_cell? w _ hx492_0)).trans hx492_0
                                replace hx492_1 := (HB.out.cell (World.block_lt_of_cell? w _ hx492_1)).trans hx492_1
                                replace hx492_2 := (HB.out.cell (World.block_lt_of_cell? w _ hx492_2)).trans hx492_2
                                replace hx492_3 := (HB.out.cell (World.block_lt_of_cell? w _ hx492_3)).trans hx492_3
                                replace hx492_4 := (HB.out.cell (World.block_lt_of_cell? w _ hx492_4)).trans hx492_4
                                replace hx492_5 := (HB.out.cell (World.block_lt_of_cell? w _ hx492_5)).trans hx492_5
                                replace hx492_6 := (HB.out.cell (World.block_lt_of_cell? w _ hx492_6)).trans hx492_6
                                replace p492 := eq_true p492
                                replace q492 := eq_true q492
                                refine start_ (n := 27) (S := fun w' => w'.cell? ⟨gb484, 0, none⟩ = some (.slice A0_0 l0_0.length c0_0) ∧ w'.cell? ⟨gb484, 1, none⟩ = some (.slice (some ad489) l0_1.length c0_1) ∧ w'.cell? (ad489.add ((x4_3).toNat * 7)) = some (.int .i64 ((rd_T43 l0_1 x4_3).f0)) ∧ w'.cell? ⟨(ad489.add ((x4_3).toNat * 7)).block, (ad489.add ((x4_3).toNat * 7)).off + 1, none⟩ = some (.int .i64 ((rd_T43 l0_1 x4_3).f1.f0)) ∧ w'.cell? ⟨(ad489.add ((x4_3).toNat * 7)).block, (ad489.add ((x4_3).toNat * 7)).off + 2, none⟩ = some (.int .i64 ((rd_T43 l0_1 x4_3).f1.f1)) ∧ w'.cell? ⟨(ad489.add ((x4_3).toNat * 7)).block, (ad489.add ((x4_3).toNat * 7)).off + 3, none⟩ = some (.int .i64 ((rd_T43 l0_1 x4_3).f2.f0)) ∧ w'.cell? ⟨(ad489.add ((x4_3).toNat * 7)).block, (ad489.add ((x4_3).toNat * 7)).off + 4, none⟩ = some (.int .i64 ((rd_T43 l0_1 x4_3).f2.f1)) ∧ w'.cell? ⟨(ad489.add ((x4_3).toNat * 7)).block, (ad489.add ((x4_3).toNat * 7)).off + 5, none⟩ = some (.int .i64 ((rd_T43 l0_1 x4_3).f3.f0)) ∧ w'.cell? ⟨(ad489.add ((x4_3).toNat * 7)).block, (ad489.add ((x4_3).toNat * 7)).off + 6, none⟩ = some (.int .i64 ((rd_T43 l0_1 x4_3).f3.f1)) ∧ w'.cell? (ad489.add (((ji35)).toNat * 7)) = some (.int .i64 ((rd_T43 l0_1 (ji35)).f0)) ∧ w'.cell? ⟨(ad489.add (((ji35)).toNat * 7)).block, (ad489.add (((ji35)).toNat * 7)).off + 1, none⟩ = some (.int .i64 ((rd_T43 l0_1 (ji35)).f1.f0)) ∧ w'.cell? ⟨(ad489.add (((ji35)).toNat * 7)).block, (ad489.add (((ji35)).toNat * 7)).off + 2, none⟩ = some (.int .i64 ((rd_T43 l0_1 (ji35)).f1.f1)) ∧ w'.cell? ⟨(ad489.add (((ji35)).toNat * 7)).block, (ad489.add (((ji35)).toNat * 7)).off + 3, none⟩ = some (.int .i64 ((rd_T43 l0_1 (ji35)).f2.f0)) ∧ w'.cell? ⟨(ad489.add (((ji35)).toNat * 7)).block, (ad489.add (((ji35)).toNat * 7)).off + 4, none⟩ = some (.int .i64 ((rd_T43 l0_1 (ji35)).f2.f1)) ∧ w'.cell? ⟨(ad489.add (((ji35)).toNat * 7)).block, (ad489.add (((ji35)).toNat * 7)).off + 5, none⟩ = some (.int .i64 ((rd_T43 l0_1 (ji35)).f3.f0)) ∧ w'.cell? ⟨(ad489.add (((ji35)).toNat * 7)).block, (ad489.add (((ji35)).toNat * 7)).off + 6, none⟩ = some (.int .i64 ((rd_T43 l0_1 (ji35)).f3.f1)) ∧ w'.cell? (ad489.add ((x4_3).toNat * 7)) = some (.int .i64 ((rd_T43 l0_1 x4_3).f0)) ∧ w'.cell? ⟨(ad489.add ((x4_3).toNat * 7)).block, (ad489.add ((x4_3).toNat * 7)).off + 1, none⟩ = some (.int .i64 ((rd_T43 l0_1 x4_3).f1.f0)) ∧ w'.cell? ⟨(ad489.add ((x4_3).toNat * 7)).block, (ad489.add ((x4_3).toNat * 7)).off + 2, none⟩ = some (.int .i64 ((rd_T43 l0_1 x4_3).f1.f1)) ∧ w'.cell? ⟨(ad489.add ((x4_3).toNat * 7)).block, (ad489.add ((x4_3).toNat * 7)).off + 3, none⟩ = some (.int .i64 ((rd_T43 l0_1 x4_3).f2.f0)) ∧ w'.cell? ⟨(ad489.add ((x4_3).toNat * 7)).block, (ad489.add ((x4_3).toNat * 7)).off + 4, none⟩ = some (.int .i64 ((rd_T43 l0_1 x4_3).f2.f1)) ∧ w'.cell? ⟨(ad489.add ((x4_3).toNat * 7)).block, (ad489.add ((x4_3).toNat * 7)).off + 5, none⟩ = some (.int .i64 ((rd_T43 l0_1 x4_3).f3.f0)) ∧ w'.cell? ⟨(ad489.add ((x4_3).toNat * 7)).block, (ad489.add ((x4_3).toNat * 7)).off + 6, none⟩ = some (.int .i64 ((rd_T43 l0_1 x4_3).f3.f1))) (ds := []) #[false, false, false, false, false, false, false, false, false, false, false, false, false, false, false, false, false, false, false, false, false, false, false, false, false, false, false] (by kernel_rfl) rfl rfl ⟨(blk_cell BK484.out 0).trans rfl, (blk_cell BK484.out 1).trans rfl, ((HB.out.cell (World.block_lt_of_cell? w _ hw489_0)).trans hw489_0), ((HB.out.cell (World.block_lt_of_cell? w _ hw489_1)).trans hw489_1), ((HB.out.cell (World.block_lt_of_cell? w _ hw489_2)).trans hw489_2), ((HB.out.cell (World.block_lt_of_cell? w _ hw489_3)).trans hw489_3), ((HB.out.cell (World.block_lt_of_cell? w _ hw489_4)).trans hw489_4), ((HB.out.cell (World.block_lt_of_cell? w _ hw489_5)).trans hw489_5), ((HB.out.cell (World.block_lt_of_cell? w _ hw489_6)).trans hw489_6), ((HB.out.cell (World.block_lt_of_cell? w _ hw491_0)).trans hw491_0), ((HB.out.cell (World.block_lt_of_cell? w _ hw491_1)).trans hw491_1), ((HB.out.cell (World.block_lt_of_cell? w _ hw491_2)).trans hw491_2), ((HB.out.cell (World.block_lt_of_cell? w _ hw491_3)).trans hw491_3), ((HB.out.cell (World.block_lt_of_cell? w _ hw491_4)).trans hw491_4), ((HB.out.cell (World.block_lt_of_cell? w _ hw491_5)).trans hw491_5), ((HB.out.cell (World.block_lt_of_cell? w _ hw491_6)).trans hw491_6), ((HB.out.cell (World.block_lt_of_cell? w _ hw492_0)).trans hw492_0), ((HB.out.cell (World.block_lt_of_cell? w _ hw492_1)).trans hw492_1), ((HB.out.cell (World.block_lt_of_cell? w _ hw492_2)).trans hw492_2), ((HB.out.cell (World.block_lt_of_cell? w _ hw492_3)).trans hw492_3), ((HB.out.cell (World.block_lt_of_cell? w _ hw492_4)).trans hw492_4), ((HB.out.cell (World.block_lt_of_cell? w _ hw492_5)).trans hw492_5), ((HB.out.cell (World.block_lt_of_cell? w _ hw492_6)).trans hw492_6)⟩ (fun hHeld => ?_); refine with_tabW potbankref01_Check.tab11 potbankref01_Check.bits11 (fun HT_ HW_ => ?_)
                                generalize wr.drew = w43 at BK484 HB hx489_0 hx489_1 hx489_2 hx489_3 hx489_4 hx489_5 hx489_6 hx491_0 hx491_1 hx491_2 hx491_3 hx491_4 hx491_5 hx491_6 hx492_0 hx492_1 hx492_2 hx492_3 hx492_4 hx492_5 hx492_6 hHeld ⊢
                                refine pure_ (i := 0) (N := some 56) (v := ?_) (a' := ?_) #[true, false, false, false, false, false, false, false, false, false, false, false, false, false, false, false, false, false, false, false, false, false, false, false, false, false, false] rfl rfl (any_of HT_.out (by kernel_rfl)) (fun _ _ _ h => h) (Or.inl ⟨by rfl, ?_⟩) ?_ ?_
                                rotate_left
                                · intro w'
                                  go_simp
                                  with_reducible rfl
                                rotate_left
                                · simp only [Act.put, List.setIfInBounds_toArray, List.set_cons_zero, List.set_cons_succ, i64_w, i32_w]
                                  rfl
                                refine pure_ (i := 2) (N := some 58) (v := ?_) (a' := ?_) #[true, false, true, false, false, false, false, false, false, false, false, false, false, false, false, false, false, false, false, false, false, false, false, false, false, false, false] rfl rfl (any_of HT_.out (by kernel_rfl)) (fun _ _ _ h => h) (Or.inl ⟨by rfl, ?_⟩) ?_ ?_
                                rotate_left
                                · intro w'
                                  go_simp
                                  with_reducible rfl
                                rotate_left
                                · simp only [Act.put, List.setIfInBounds_toArray, List.set_cons_zero, List.set_cons_succ, i64_w, i32_w]
                                  rfl
                                refine take_ (i := 1) (N := some 57) (v := ?_) (a' := ?_) #[true, true, true, false, false, false, false, false, false, false, false, false, false, false, false, false, false, false, false, false, false, false, false, false, false, false, false] rfl rfl (take_ofW HT_.out HW_.out (by kernel_rfl)) (fun _ _ _ h => h) (Or.inl ⟨by rfl, ?_⟩) hHeld ?_ ?_
                                rotate_left
                                · rintro w' ⟨s0, s1, s2, s3, s4, s5, s6, s7, s8, s9, s10, s11, s12, s13, s14, s15, s16, s17, s18, s19, s20, s21, s22⟩
                                  go_simp
                                  with_reducible rfl
                                rotate_left
                                · simp only [Act.put, List.setIfInBounds_toArray, List.set_cons_zero, List.set_cons_succ, i64_w, i32_w]
                                  rfl
                                refine pure_ (i := 3) (N := some 59) (v := ?_) (a' := ?_) #[true, true, true, true, false, false, false, false, false, false, false, false, false, false, false, false, false, false, false, false, false, false, false, false, false, false, false] rfl rfl (any_of HT_.out (by kernel_rfl)) (fun _ _ _ h => h) (Or.inl ⟨by rfl, ?_⟩) ?_ ?_
                                rotate_left
                                · intro w'
                                  go_simp
                                  with_reducible rfl
                                rotate_left
                                · simp only [Act.put, List.setIfInBounds_toArray, List.set_cons_zero, List.set_cons_succ, i64_w, i32_w]
                                  rfl
                                refine take_ (i := 4) (N := some 60) (v := ?_) (a' := ?_) #[true, true, true, true, true, false, false, false, false, false, false, false, false, false, false, false, false, false, false, false, false, false, false, false, false, false, false] rfl rfl (take_ofW HT_.out HW_.out (by kernel_rfl)) (fun _ _ _ h => h) (Or.inl ⟨by rfl, ?_⟩) hHeld ?_ ?_
                                rotate_left
                                · rintro w' ⟨s0, s1, s2, s3, s4, s5, s6, s7, s8, s9, s10, s11, s12, s13, s14, s15, s16, s17, s18, s19, s20, s21, s22⟩
                                  go_simp
                                  with_reducible rfl
                                rotate_left
                                · simp only [Act.put, List.setIfInBounds_toArray, List.set_cons_zero, List.set_cons_succ, i64_w, i32_w]
                                  rfl
                                refine one_ (i := 5) (N := some 61) #[true, true, true, true, true, true, false, false, false, false, false, false, false, false, false, false, false, false, false, false, false, false, false, false, false, false, false] rfl rfl (one_of HT_.out (by kernel_rfl)) (by decide) (fun K hK => ?_)
                                refine goes_ Try.func46 (by kernel_rfl) rfl #[.agg #[.int .i64 ((rd_T43 l0_1 x4_3).f0), .int .i64 ((rd_T43 l0_1 x4_3).f1.f0), .int .i64 ((rd_T43 l0_1 x4_3).f1.f1), .int .i64 ((rd_T43 l0_1 x4_3).f2.f0), .int .i64 ((rd_T43 l0_1 x4_3).f2.f1), .int .i64 ((rd_T43 l0_1 x4_3).f3.f0), .int .i64 ((rd_T43 l0_1 x4_3).f3.f1)]] (by rfl) rfl rfl (by (try simp only [List.map_toArray, List.map_cons, List.map_nil]); first | done | rfl | (simp only [List.length_drop, List.length_take]; rfl)) ?_
                                with_reducible refine (potbankref01_CheckBody.calls ((rd_T43 l0_1 x4_3).f0) ((rd_T43 l0_1 x4_3).f1.f0) ((rd_T43 l0_1 x4_3).f1.f1) ((rd_T43 l0_1 x4_3).f2.f0) ((rd_T43 l0_1 x4_3).f2.f1) ((rd_T43 l0_1 x4_3).f3.f0) ((rd_T43 l0_1 x4_3).f3.f1) t490 _ A32.out).mono ?_
                                rintro e w44 ⟨rfl, hb⟩
                                refine ⟨_, rfl, ?_⟩
                                have n0_ := blkE BK484 hb
                                have n1_ := Aside0.mk (below_step (by repeat (first | (with_reducible first | exact HB.out | apply below_alloc | apply pw_below_drewN | apply below_drew1 | refine below_set ?_ GE484.out) | exact HB.out)) hb)
                                clear BK484
                                clear HB
                                have BK484 := n0_
                                have HB := n1_
                                clear n0_ n1_
                                (try clear hb)
                                (try clear hb2)
                                (try clear hk)
                                (try clear hi)
                                refine hK.out _ _ ⟨(blk_cell BK484.out 0).trans rfl, (blk_cell BK484.out 1).trans rfl, ((HB.out.cell (World.block_lt_of_cell? w _ hw489_0)).trans hw489_0), ((HB.out.cell (World.block_lt_of_cell? w _ hw489_1)).trans hw489_1), ((HB.out.cell (World.block_lt_of_cell? w _ hw489_2)).trans hw489_2), ((HB.out.cell (World.block_lt_of_cell? w _ hw489_3)).trans hw489_3), ((HB.out.cell (World.block_lt_of_cell? w _ hw489_4)).trans hw489_4), ((HB.out.cell (World.block_lt_of_cell? w _ hw489_5)).trans hw489_5), ((HB.out.cell (World.block_lt_of_cell? w _ hw489_6)).trans hw489_6), ((HB.out.cell (World.block_lt_of_cell? w _ hw491_0)).trans hw491_0), ((HB.out.cell (World.block_lt_of_cell? w _ hw491_1)).trans hw491_1), ((HB.out.cell (World.block_lt_of_cell? w _ hw491_2)).trans hw491_2), ((HB.out.cell (World.block_lt_of_cell? w _ hw491_3)).trans hw491_3), ((HB.out.cell (World.block_lt_of_cell? w _ hw491_4)).trans hw491_4), ((HB.out.cell (World.block_lt_of_cell? w _ hw491_5)).trans hw491_5), ((HB.out.cell (World.block_lt_of_cell? w _ hw491_6)).trans hw491_6), ((HB.out.cell (World.block_lt_of_cell? w _ hw492_0)).trans hw492_0), ((HB.out.cell (World.block_lt_of_cell? w _ hw492_1)).trans hw492_1), ((HB.out.cell (World.block_lt_of_cell? w _ hw492_2)).trans hw492_2), ((HB.out.cell (World.block_lt_of_cell? w _ hw492_3)).trans hw492_3), ((HB.out.cell (World.block_lt_of_cell? w _ hw492_4)).trans hw492_4), ((HB.out.cell (World.block_lt_of_cell? w _ hw492_5)).trans hw492_5), ((HB.out.cell (World.block_lt_of_cell? w _ hw492_6)).trans hw492_6)⟩ (fun hHeld => ?_)
                                clear hK K
                                refine norm_ (a' := ?_) ?_ ?_
                                rotate_left
                                · show Act.put _ (some 61) _ = _
                                  simp only [Act.put, List.setIfInBounds_toArray, List.set_cons_zero, List.set_cons_succ, i64_w, i32_w]
                                  rfl
                                refine pure_ (i := 6) (N := some 62) (v := ?_) (a' := ?_) #[true, true, true, true, true, true, true, false, false, false, false, false, false, false, false, false, false, false, false, false, false, false, false, false, false, false, false] rfl rfl (any_of HT_.out (by kernel_rfl)) (fun _ _ _ h => h) (Or.inl ⟨by rfl, ?_⟩) ?_ ?_
                                rotate_left
                                · intro w'
                                  go_simp
                                  with_reducible rfl
                                rotate_left
                                · simp only [Act.put, List.setIfInBounds_toArray, List.set_cons_zero, List.set_cons_succ, i64_w, i32_w]
                                  rfl
                                refine pure_ (i := 7) (N := some 63) (v := ?_) (a' := ?_) #[true, true, true, true, true, true, true, true, false, false, false, false, false, false, false, false, false, false, false, false, false, false, false, false, false, false, false] rfl rfl (any_of HT_.out (by kernel_rfl)) (fun _ _ _ h => h) (Or.inl ⟨by rfl, ?_⟩) ?_ ?_
                                rotate_left
                                · intro w'
                                  go_simp
                                  with_reducible rfl
                                rotate_left
                                · simp only [Act.put, List.setIfInBounds_toArray, List.set_cons_zero, List.set_cons_succ, i64_w, i32_w]
                                  rfl
                                refine pure_ (i := 8) (N := some 64) (v := ?_) (a' := ?_) #[true, true, true, true, true, true, true, true, true, false, false, false, false, false, false, false, false, false, false, false, false, false, false, false, false, false, false] rfl rfl (any_of HT_.out (by kernel_rfl)) (fun _ _ _ h => h) (Or.inl ⟨by rfl, ?_⟩) ?_ ?_
                                rotate_left
                                · intro w'
                                  go_simp
                                  with_reducible rfl
                                rotate_left
                                · simp only [Act.put, List.setIfInBounds_toArray, List.set_cons_zero, List.set_cons_succ, i64_w, i32_w]
                                  rfl
                                refine pure_ (i := 9) (N := some 65) (v := ?_) (a' := ?_) #[true, true, true, true, true, true, true, true, true, true, false, false, false, false, false, false, false, false, false, false, false, false, false, false, false, false, false] rfl rfl (any_of HT_.out (by kernel_rfl)) (fun _ _ _ h => h) (Or.inl ⟨by rfl, ?_⟩) ?_ ?_
                                rotate_left
                                · intro w'
                                  go_simp
                                  with_reducible rfl
                                rotate_left
                                · simp only [Act.put, List.setIfInBounds_toArray, List.set_cons_zero, List.set_cons_succ, i64_w, i32_w]
                                  rfl
                                refine pure_ (i := 10) (N := some 66) (v := ?_) (a' := ?_) #[true, true, true, true, true, true, true, true, true, true, true, false, false, false, false, false, false, false, false, false, false, false, false, false, false, false, false] rfl rfl (any_of HT_.out (by kernel_rfl)) (fun _ _ _ h => h) (Or.inl ⟨by rfl, ?_⟩) ?_ ?_
                                rotate_left
                                · intro w'
                                  go_simp
                                  with_reducible rfl
                                rotate_left
                                · simp only [Act.put, List.setIfInBounds_toArray, List.set_cons_zero, List.set_cons_succ, i64_w, i32_w]
                                  rfl
                                refine pure_ (i := 11) (N := some 67) (v := ?_) (a' := ?_) #[true, true, true, true, true, true, true, true, true, true, true, true, false, false, false, false, false, false, false, false, false, false, false, false, false, false, false] rfl rfl (any_of HT_.out (by kernel_rfl)) (fun _ _ _ h => h) (Or.inl ⟨by rfl, ?_⟩) ?_ ?_
                                rotate_left
                                · intro w'
                                  go_simp
                                  with_reducible rfl
                                rotate_left
                                · simp only [Act.put, List.setIfInBounds_toArray, List.set_cons_zero, List.set_cons_succ, i64_w, i32_w]
                                  rfl
                                refine pure_ (i := 13) (N := some 69) (v := ?_) (a' := ?_) #[true, true, true, true, true, true, true, true, true, true, true, true, false, true, false, false, false, false, false, false, false, false, false, false, false, false, false] rfl rfl (any_of HT_.out (by kernel_rfl)) (fun _ _ _ h => h) (Or.inl ⟨by rfl, ?_⟩) ?_ ?_
                                rotate_left
                                · intro w'
                                  go_simp
                                  with_reducible rfl
                                rotate_left
                                · simp only [Act.put, List.setIfInBounds_toArray, List.set_cons_zero, List.set_cons_succ, i64_w, i32_w]
                                  rfl
                                refine pure_ (i := 14) (N := some 70) (v := ?_) (a' := ?_) #[true, true, true, true, true, true, true, true, true, true, true, true, false, true, true, false, false, false, false, false, false, false, false, false, false, false, false] rfl rfl (any_of HT_.out (by kernel_rfl)) (fun _ _ _ h => h) (Or.inl ⟨by rfl, ?_⟩) ?_ ?_
                                rotate_left
                                · intro w'
                                  go_simp
                                  with_reducible rfl
                                rotate_left
                                · simp only [Act.put, List.setIfInBounds_toArray, List.set_cons_zero, List.set_cons_succ, i64_w, i32_w]
                                  rfl
                                refine pure_ (i := 18) (N := some 74) (v := ?_) (a' := ?_) #[true, true, true, true, true, true, true, true, true, true, true, true, false, true, true, false, false, false, true, false, false, false, false, false, false, false, false] rfl rfl (any_of HT_.out (by kernel_rfl)) (fun _ _ _ h => h) (Or.inl ⟨by rfl, ?_⟩) ?_ ?_
                                rotate_left
                                · intro w'
                                  go_simp
                                  with_reducible rfl
                                rotate_left
                                · simp only [Act.put, List.setIfInBounds_toArray, List.set_cons_zero, List.set_cons_succ, i64_w, i32_w]
                                  rfl
                                refine pure_ (i := 20) (N := some 76) (v := ?_) (a' := ?_) #[true, true, true, true, true, true, true, true, true, true, true, true, false, true, true, false, false, false, true, false, true, false, false, false, false, false, false] rfl rfl (any_of HT_.out (by kernel_rfl)) (fun _ _ _ h => h) (Or.inl ⟨by rfl, ?_⟩) ?_ ?_
                                rotate_left
                                · intro w'
                                  go_simp
                                  with_reducible rfl
                                rotate_left
                                · simp only [Act.put, List.setIfInBounds_toArray, List.set_cons_zero, List.set_cons_succ, i64_w, i32_w]
                                  rfl
                                refine take_ (i := 12) (N := some 68) (v := ?_) (a' := ?_) #[true, true, true, true, true, true, true, true, true, true, true, true, true, true, true, false, false, false, true, false, true, false, false, false, false, false, false] rfl rfl (take_ofW HT_.out HW_.out (by kernel_rfl)) (fun _ _ _ h => h) (Or.inl ⟨by rfl, ?_⟩) hHeld ?_ ?_
                                rotate_left
                                · rintro w' ⟨s0, s1, s2, s3, s4, s5, s6, s7, s8, s9, s10, s11, s12, s13, s14, s15, s16, s17, s18, s19, s20, s21, s22⟩
                                  go_simp
                                  with_reducible rfl
                                rotate_left
                                · simp only [Act.put, List.setIfInBounds_toArray, List.set_cons_zero, List.set_cons_succ, i64_w, i32_w]
                                  rfl
                                refine pure_ (i := 15) (N := some 71) (v := ?_) (a' := ?_) #[true, true, true, true, true, true, true, true, true, true, true, true, true, true, true, true, false, false, true, false, true, false, false, false, false, false, false] rfl rfl (any_of HT_.out (by kernel_rfl)) (fun _ _ _ h => h) (Or.inl ⟨by rfl, ?_⟩) ?_ ?_
                                rotate_left
                                · intro w'
                                  go_simp
                                  with_reducible rfl
                                rotate_left
                                · simp only [Act.put, List.setIfInBounds_toArray, List.set_cons_zero, List.set_cons_succ, i64_w, i32_w]
                                  rfl
                                refine pure_ (i := 16) (N := some 72) (v := ?_) (a' := ?_) #[true, true, true, true, true, true, true, true, true, true, true, true, true, true, true, true, true, false, true, false, true, false, false, false, false, false, false] rfl rfl (any_of HT_.out (by kernel_rfl)) (fun _ _ _ h => h) (Or.inl ⟨by rfl, ?_⟩) ?_ ?_
                                rotate_left
                                · intro w'
                                  go_simp
                                  with_reducible rfl
                                rotate_left
                                · simp only [Act.put, List.setIfInBounds_toArray, List.set_cons_zero, List.set_cons_succ, i64_w, i32_w]
                                  rfl
                                refine take_ (i := 17) (N := some 73) (v := ?_) (a' := ?_) #[true, true, true, true, true, true, true, true, true, true, true, true, true, true, true, true, true, true, true, false, true, false, false, false, false, false, false] rfl rfl (take_ofW HT_.out HW_.out (by kernel_rfl)) (fun _ _ _ h => h) (Or.inl ⟨by rfl, ?_⟩) hHeld ?_ ?_
                                rotate_left
                                · rintro w' ⟨s0, s1, s2, s3, s4, s5, s6, s7, s8, s9, s10, s11, s12, s13, s14, s15, s16, s17, s18, s19, s20, s21, s22⟩
                                  go_simp
                                  with_reducible rfl
                                rotate_left
                                · simp only [Act.put, List.setIfInBounds_toArray, List.set_cons_zero, List.set_cons_succ, i64_w, i32_w]
                                  rfl
                                refine take_ (i := 19) (N := some 75) (v := ?_) (a' := ?_) #[true, true, true, true, true, true, true, true, true, true, true, true, true, true, true, true, true, true, true, true, true, false, false, false, false, false, false] rfl rfl (take_ofW HT_.out HW_.out (by kernel_rfl)) (fun _ _ _ h => h) (Or.inl ⟨by rfl, ?_⟩) hHeld ?_ ?_
                                rotate_left
                                · rintro w' ⟨s0, s1, s2, s3, s4, s5, s6, s7, s8, s9, s10, s11, s12, s13, s14, s15, s16, s17, s18, s19, s20, s21, s22⟩
                                  go_simp
                                  with_reducible rfl
                                rotate_left
                                · simp only [Act.put, List.setIfInBounds_toArray, List.set_cons_zero, List.set_cons_succ, i64_w, i32_w]
                                  rfl
                                refine pure_ (i := 21) (N := some 77) (v := ?_) (a' := ?_) #[true, true, true, true, true, true, true, true, true, true, true, true, true, true, true, true, true, true, true, true, true, true, false, false, false, false, false] rfl rfl (any_of HT_.out (by kernel_rfl)) (fun _ _ _ h => h) (Or.inl ⟨by rfl, ?_⟩) ?_ ?_
                                rotate_left
                                · intro w'
                                  go_simp
                                  with_reducible rfl
                                rotate_left
                                · simp only [Act.put, List.setIfInBounds_toArray, List.set_cons_zero, List.set_cons_succ, i64_w, i32_w]
                                  rfl
                                refine pure_ (i := 22) (N := some 78) (v := ?_) (a' := ?_) #[true, true, true, true, true, true, true, true, true, true, true, true, true, true, true, true, true, true, true, true, true, true, true, false, false, false, false] rfl rfl (any_of HT_.out (by kernel_rfl)) (fun _ _ _ h => h) (Or.inl ⟨by rfl, ?_⟩) ?_ ?_
                                rotate_left
                                · intro w'
                                  go_simp
                                  with_reducible rfl
                                rotate_left
                                · simp only [Act.put, List.setIfInBounds_toArray, List.set_cons_zero, List.set_cons_succ, i64_w, i32_w]
                                  rfl
                                refine take_ (i := 23) (N := some 79) (v := ?_) (a' := ?_) #[true, true, true, true, true, true, true, true, true, true, true, true, true, true, true, true, true, true, true, true, true, true, true, true, false, false, false] rfl rfl (take_ofW HT_.out HW_.out (by kernel_rfl)) (fun _ _ _ h => h) (Or.inl ⟨by rfl, ?_⟩) hHeld ?_ ?_
                                rotate_left
                                · rintro w' ⟨s0, s1, s2, s3, s4, s5, s6, s7, s8, s9, s10, s11, s12, s13, s14, s15, s16, s17, s18, s19, s20, s21, s22⟩
                                  go_simp
                                  with_reducible rfl
                                rotate_left
                                · simp only [Act.put, List.setIfInBounds_toArray, List.set_cons_zero, List.set_cons_succ, i64_w, i32_w]
                                  rfl
                                refine pure_ (i := 24) (N := some 80) (v := ?_) (a' := ?_) #[true, true, true, true, true, true, true, true, true, true, true, true, true, true, true, true, true, true, true, true, true, true, true, true, true, false, false] rfl rfl (any_of HT_.out (by kernel_rfl)) (fun _ _ _ h => h) (Or.inl ⟨by rfl, ?_⟩) ?_ ?_
                                rotate_left
                                · intro w'
                                  go_simp
                                  with_reducible rfl
                                rotate_left
                                · simp only [Act.put, List.setIfInBounds_toArray, List.set_cons_zero, List.set_cons_succ, i64_w, i32_w]
                                  rfl
                                refine pure_ (i := 25) (N := some 81) (v := ?_) (a' := ?_) #[true, true, true, true, true, true, true, true, true, true, true, true, true, true, true, true, true, true, true, true, true, true, true, true, true, true, false] rfl rfl (any_of HT_.out (by kernel_rfl)) (fun _ _ _ h => h) (Or.inl ⟨by rfl, ?_⟩) ?_ ?_
                                rotate_left
                                · intro w'
                                  go_simp
                                  with_reducible rfl
                                rotate_left
                                · simp only [Act.put, List.setIfInBounds_toArray, List.set_cons_zero, List.set_cons_succ, i64_w, i32_w]
                                  rfl
                                refine pure_ (i := 26) (N := some 82) (v := ?_) (a' := ?_) #[true, true, true, true, true, true, true, true, true, true, true, true, true, true, true, true, true, true, true, true, true, true, true, true, true, true, true] rfl rfl (any_of HT_.out (by kernel_rfl)) (fun _ _ _ h => h) (Or.inl ⟨by rfl, ?_⟩) ?_ ?_
                                rotate_left
                                · intro w'
                                  go_simp
                                  with_reducible rfl
                                rotate_left
                                · simp only [Act.put, List.setIfInBounds_toArray, List.set_cons_zero, List.set_cons_succ, i64_w, i32_w]
                                  rfl
                                refine done_ (done_of HT_.out (by kernel_rfl)) ?_
                                try go_wp2
                                go_roundg k3
                                case measure => have := HJ1.out; have := HK2.out; have := HK3.out; omega
                                case rel => exact ⟨(wrap64 (x4_3 + 1)), (by first | rfl | (simp; done) | (simp [*]; done)), H', ⟨by have := HJ1.out; have := HK2.out; have := HK3.out; omega⟩, ⟨by (with_reducible repeat first | apply blk_drewN | apply blk_drew | apply blk_alloc); exact BK484.out⟩, ⟨by repeat (first | (with_reducible first | exact HB.out | apply below_alloc | apply pw_below_drewN | apply below_drew1 | refine below_set ?_ GE484.out) | exact HB.out)⟩⟩
                            · rw [if_neg c37] at H
                              exact absurd H (by simp)
                          · rw [if_neg c36] at H
                            exact absurd H (by simp)
                        · rw [if_neg c34] at H
                          have c34b0 : decide (0 < x4_3) = false := decide_eq_false c34
                          clear c34
                          have H' := Aside0.mk H
                          clear H
                          have hcz45_0 : wr.cell? ⟨gb484, 0, none⟩ = some (.slice A0_0 l0_0.length c0_0) := (blk_cell BK484.out 0).trans rfl
                          have hcz45_1 : wr.cell? ⟨gb484, 1, none⟩ = some (.slice A0_1 l0_1.length c0_1) := (blk_cell BK484.out 1).trans rfl
                          have hfz45_0 := blk_frozen BK484.out 0
                          have hfz45_1 := blk_frozen BK484.out 1
                          try go_wp2
                          have n0_ := Aside0.mk (blk_drew BK484.out)
                          have n1_ := Aside0.mk (below_drew1 HB.out)
                          clear BK484
                          clear HB
                          have BK484 := n0_
                          have HB := n1_
                          clear n0_ n1_
                          have p489 : 0 ≤ (x4_3 : Int) := of_decide_eq_true (by first | (with_reducible assumption) | assumption)
                          have q489 : x4_3 < (l0_1.length : Int) := of_decide_eq_true (by first | (with_reducible assumption) | assumption)
                          obtain ⟨ad489, e489, hx489_0, hx489_1, hx489_2, hx489_3, hx489_4, hx489_5, hx489_6⟩ := at_T43 HR0_1.out x4_3 p489 q489
                          have hw489_6 := hx489_6
                          have hw489_5 := hx489_5
                          have hw489_4 := hx489_4
                          have hw489_3 := hx489_3
                          have hw489_2 := hx489_2
                          have hw489_1 := hx489_1
                          have hw489_0 := hx489_0
                          cases e489
                          replace hx489_0 := (HB.out.cell (World.block_lt_of_cell? w _ hx489_0)).trans hx489_0
                          replace hx489_1 := (HB.out.cell (World.block_lt_of_cell? w _ hx489_1)).trans hx489_1
                          replace hx489_2 := (HB.out.cell (World.block_lt_of_cell? w _ hx489_2)).trans hx489_2
                          replace hx489_3 := (HB.out.cell (World.block_lt_of_cell? w _ hx489_3)).trans hx489_3
                          replace hx489_4 := (HB.out.cell (World.block_lt_of_cell? w _ hx489_4)).trans hx489_4
                          replace hx489_5 := (HB.out.cell (World.block_lt_of_cell? w _ hx489_5)).trans hx489_5
                          replace hx489_6 := (HB.out.cell (World.block_lt_of_cell? w _ hx489_6)).trans hx489_6
                          replace p489 := eq_true p489
                          replace q489 := eq_true q489
                          refine start_ (n := 27) (S := fun w' => w'.cell? ⟨gb484, 0, none⟩ = some (.slice A0_0 l0_0.length c0_0) ∧ w'.cell? ⟨gb484, 1, none⟩ = some (.slice (some ad489) l0_1.length c0_1) ∧ w'.cell? (ad489.add ((x4_3).toNat * 7)) = some (.int .i64 ((rd_T43 l0_1 x4_3).f0)) ∧ w'.cell? ⟨(ad489.add ((x4_3).toNat * 7)).block, (ad489.add ((x4_3).toNat * 7)).off + 1, none⟩ = some (.int .i64 ((rd_T43 l0_1 x4_3).f1.f0)) ∧ w'.cell? ⟨(ad489.add ((x4_3).toNat * 7)).block, (ad489.add ((x4_3).toNat * 7)).off + 2, none⟩ = some (.int .i64 ((rd_T43 l0_1 x4_3).f1.f1)) ∧ w'.cell? ⟨(ad489.add ((x4_3).toNat * 7)).block, (ad489.add ((x4_3).toNat * 7)).off + 3, none⟩ = some (.int .i64 ((rd_T43 l0_1 x4_3).f2.f0)) ∧ w'.cell? ⟨(ad489.add ((x4_3).toNat * 7)).block, (ad489.add ((x4_3).toNat * 7)).off + 4, none⟩ = some (.int .i64 ((rd_T43 l0_1 x4_3).f2.f1)) ∧ w'.cell? ⟨(ad489.add ((x4_3).toNat * 7)).block, (ad489.add ((x4_3).toNat * 7)).off + 5, none⟩ = some (.int .i64 ((rd_T43 l0_1 x4_3).f3.f0)) ∧ w'.cell? ⟨(ad489.add ((x4_3).toNat * 7)).block, (ad489.add ((x4_3).toNat * 7)).off + 6, none⟩ = some (.int .i64 ((rd_T43 l0_1 x4_3).f3.f1))) (ds := []) #[false, false, false, false, false, false, false, false, false, false, false, false, false, false, false, false, false, false, false, false, false, false, false, false, false, false, false] (by kernel_rfl) rfl rfl ⟨(blk_cell BK484.out 0).trans rfl, (blk_cell BK484.out 1).trans rfl, ((HB.out.cell (World.block_lt_of_cell? w _ hw489_0)).trans hw489_0), ((HB.out.cell (World.block_lt_of_cell? w _ hw489_1)).trans hw489_1), ((HB.out.cell (World.block_lt_of_cell? w _ hw489_2)).trans hw489_2), ((HB.out.cell (World.block_lt_of_cell? w _ hw489_3)).trans hw489_3), ((HB.out.cell (World.block_lt_of_cell? w _ hw489_4)).trans hw489_4), ((HB.out.cell (World.block_lt_of_cell? w _ hw489_5)).trans hw489_5), ((HB.out.cell (World.block_lt_of_cell? w _ hw489_6)).trans hw489_6)⟩ (fun hHeld => ?_); refine with_tabW potbankref01_Check.tab11 potbankref01_Check.bits11 (fun HT_ HW_ => ?_)
                          generalize wr.drew = w46 at BK484 HB hx489_0 hx489_1 hx489_2 hx489_3 hx489_4 hx489_5 hx489_6 hHeld ⊢
                          refine pure_ (i := 0) (N := some 56) (v := ?_) (a' := ?_) #[true, false, false, false, false, false, false, false, false, false, false, false, false, false, false, false, false, false, false, false, false, false, false, false, false, false, false] rfl rfl (any_of HT_.out (by kernel_rfl)) (fun _ _ _ h => h) (Or.inl ⟨by rfl, ?_⟩) ?_ ?_
                          rotate_left
                          · intro w'
                            go_simp
                            with_reducible rfl
                          rotate_left
                          · simp only [Act.put, List.setIfInBounds_toArray, List.set_cons_zero, List.set_cons_succ, i64_w, i32_w]
                            rfl
                          refine pure_ (i := 2) (N := some 58) (v := ?_) (a' := ?_) #[true, false, true, false, false, false, false, false, false, false, false, false, false, false, false, false, false, false, false, false, false, false, false, false, false, false, false] rfl rfl (any_of HT_.out (by kernel_rfl)) (fun _ _ _ h => h) (Or.inl ⟨by rfl, ?_⟩) ?_ ?_
                          rotate_left
                          · intro w'
                            go_simp
                            with_reducible rfl
                          rotate_left
                          · simp only [Act.put, List.setIfInBounds_toArray, List.set_cons_zero, List.set_cons_succ, i64_w, i32_w]
                            rfl
                          refine take_ (i := 1) (N := some 57) (v := ?_) (a' := ?_) #[true, true, true, false, false, false, false, false, false, false, false, false, false, false, false, false, false, false, false, false, false, false, false, false, false, false, false] rfl rfl (take_ofW HT_.out HW_.out (by kernel_rfl)) (fun _ _ _ h => h) (Or.inl ⟨by rfl, ?_⟩) hHeld ?_ ?_
                          rotate_left
                          · rintro w' ⟨s0, s1, s2, s3, s4, s5, s6, s7, s8⟩
                            go_simp
                            with_reducible rfl
                          rotate_left
                          · simp only [Act.put, List.setIfInBounds_toArray, List.set_cons_zero, List.set_cons_succ, i64_w, i32_w]
                            rfl
                          refine pure_ (i := 3) (N := some 59) (v := ?_) (a' := ?_) #[true, true, true, true, false, false, false, false, false, false, false, false, false, false, false, false, false, false, false, false, false, false, false, false, false, false, false] rfl rfl (any_of HT_.out (by kernel_rfl)) (fun _ _ _ h => h) (Or.inl ⟨by rfl, ?_⟩) ?_ ?_
                          rotate_left
                          · intro w'
                            go_simp
                            with_reducible rfl
                          rotate_left
                          · simp only [Act.put, List.setIfInBounds_toArray, List.set_cons_zero, List.set_cons_succ, i64_w, i32_w]
                            rfl
                          refine take_ (i := 4) (N := some 60) (v := ?_) (a' := ?_) #[true, true, true, true, true, false, false, false, false, false, false, false, false, false, false, false, false, false, false, false, false, false, false, false, false, false, false] rfl rfl (take_ofW HT_.out HW_.out (by kernel_rfl)) (fun _ _ _ h => h) (Or.inl ⟨by rfl, ?_⟩) hHeld ?_ ?_
                          rotate_left
                          · rintro w' ⟨s0, s1, s2, s3, s4, s5, s6, s7, s8⟩
                            go_simp
                            with_reducible rfl
                          rotate_left
                          · simp only [Act.put, List.setIfInBounds_toArray, List.set_cons_zero, List.set_cons_succ, i64_w, i32_w]
                            rfl
                          refine one_ (i := 5) (N := some 61) #[true, true, true, true, true, true, false, false, false, false, false, false, false, false, false, false, false, false, false, false, false, false, false, false, false, false, false] rfl rfl (one_of HT_.out (by kernel_rfl)) (by decide) (fun K hK => ?_)
                          refine goes_ Try.func46 (by kernel_rfl) rfl #[.agg #[.int .i64 ((rd_T43 l0_1 x4_3).f0), .int .i64 ((rd_T43 l0_1 x4_3).f1.f0), .int .i64 ((rd_T43 l0_1 x4_3).f1.f1), .int .i64 ((rd_T43 l0_1 x4_3).f2.f0), .int .i64 ((rd_T43 l0_1 x4_3).f2.f1), .int .i64 ((rd_T43 l0_1 x4_3).f3.f0), .int .i64 ((rd_T43 l0_1 x4_3).f3.f1)]] (by rfl) rfl rfl (by (try simp only [List.map_toArray, List.map_cons, List.map_nil]); first | done | rfl | (simp only [List.length_drop, List.length_take]; rfl)) ?_
                          with_reducible refine (potbankref01_CheckBody.calls ((rd_T43 l0_1 x4_3).f0) ((rd_T43 l0_1 x4_3).f1.f0) ((rd_T43 l0_1 x4_3).f1.f1) ((rd_T43 l0_1 x4_3).f2.f0) ((rd_T43 l0_1 x4_3).f2.f1) ((rd_T43 l0_1 x4_3).f3.f0) ((rd_T43 l0_1 x4_3).f3.f1) t490 _ A32.out).mono ?_
                          rintro e w47 ⟨rfl, hb⟩
                          refine ⟨_, rfl, ?_⟩
                          have n0_ := blkE BK484 hb
                          have n1_ := Aside0.mk (below_step (by repeat (first | (with_reducible first | exact HB.out | apply below_alloc | apply pw_below_drewN | apply below_drew1 | refine below_set ?_ GE484.out) | exact HB.out)) hb)
                          clear BK484
                          clear HB
                          have BK484 := n0_
                          have HB := n1_
                          clear n0_ n1_
                          (try clear hb)
                          (try clear hb2)
                          (try clear hk)
                          (try clear hi)
                          refine hK.out _ _ ⟨(blk_cell BK484.out 0).trans rfl, (blk_cell BK484.out 1).trans rfl, ((HB.out.cell (World.block_lt_of_cell? w _ hw489_0)).trans hw489_0), ((HB.out.cell (World.block_lt_of_cell? w _ hw489_1)).trans hw489_1), ((HB.out.cell (World.block_lt_of_cell? w _ hw489_2)).trans hw489_2), ((HB.out.cell (World.block_lt_of_cell? w _ hw489_3)).trans hw489_3), ((HB.out.cell (World.block_lt_of_cell? w _ hw489_4)).trans hw489_4), ((HB.out.cell (World.block_lt_of_cell? w _ hw489_5)).trans hw489_5), ((HB.out.cell (World.block_lt_of_cell? w _ hw489_6)).trans hw489_6)⟩ (fun hHeld => ?_)
                          clear hK K
                          refine norm_ (a' := ?_) ?_ ?_
                          rotate_left
                          · show Act.put _ (some 61) _ = _
                            simp only [Act.put, List.setIfInBounds_toArray, List.set_cons_zero, List.set_cons_succ, i64_w, i32_w]
                            rfl
                          refine pure_ (i := 6) (N := some 62) (v := ?_) (a' := ?_) #[true, true, true, true, true, true, true, false, false, false, false, false, false, false, false, false, false, false, false, false, false, false, false, false, false, false, false] rfl rfl (any_of HT_.out (by kernel_rfl)) (fun _ _ _ h => h) (Or.inl ⟨by rfl, ?_⟩) ?_ ?_
                          rotate_left
                          · intro w'
                            go_simp
                            with_reducible rfl
                          rotate_left
                          · simp only [Act.put, List.setIfInBounds_toArray, List.set_cons_zero, List.set_cons_succ, i64_w, i32_w]
                            rfl
                          refine pure_ (i := 7) (N := some 63) (v := ?_) (a' := ?_) #[true, true, true, true, true, true, true, true, false, false, false, false, false, false, false, false, false, false, false, false, false, false, false, false, false, false, false] rfl rfl (any_of HT_.out (by kernel_rfl)) (fun _ _ _ h => h) (Or.inl ⟨by rfl, ?_⟩) ?_ ?_
                          rotate_left
                          · intro w'
                            go_simp
                            with_reducible rfl
                          rotate_left
                          · simp only [Act.put, List.setIfInBounds_toArray, List.set_cons_zero, List.set_cons_succ, i64_w, i32_w]
                            rfl
                          refine pure_ (i := 8) (N := some 64) (v := ?_) (a' := ?_) #[true, true, true, true, true, true, true, true, true, false, false, false, false, false, false, false, false, false, false, false, false, false, false, false, false, false, false] rfl rfl (any_of HT_.out (by kernel_rfl)) (fun _ _ _ h => h) (Or.inl ⟨by rfl, ?_⟩) ?_ ?_
                          rotate_left
                          · intro w'
                            go_simp
                            with_reducible rfl
                          rotate_left
                          · simp only [Act.put, List.setIfInBounds_toArray, List.set_cons_zero, List.set_cons_succ, i64_w, i32_w]
                            rfl
                          refine pure_ (i := 9) (N := some 65) (v := ?_) (a' := ?_) #[true, true, true, true, true, true, true, true, true, true, false, false, false, false, false, false, false, false, false, false, false, false, false, false, false, false, false] rfl rfl (any_of HT_.out (by kernel_rfl)) (fun _ _ _ h => h) (Or.inl ⟨by rfl, ?_⟩) ?_ ?_
                          rotate_left
                          · intro w'
                            go_simp
                            with_reducible rfl
                          rotate_left
                          · simp only [Act.put, List.setIfInBounds_toArray, List.set_cons_zero, List.set_cons_succ, i64_w, i32_w]
                            rfl
                          refine pure_ (i := 10) (N := some 66) (v := ?_) (a' := ?_) #[true, true, true, true, true, true, true, true, true, true, true, false, false, false, false, false, false, false, false, false, false, false, false, false, false, false, false] rfl rfl (any_of HT_.out (by kernel_rfl)) (fun _ _ _ h => h) (Or.inl ⟨by rfl, ?_⟩) ?_ ?_
                          rotate_left
                          · intro w'
                            go_simp
                            with_reducible rfl
                          rotate_left
                          · simp only [Act.put, List.setIfInBounds_toArray, List.set_cons_zero, List.set_cons_succ, i64_w, i32_w]
                            rfl
                          refine pure_ (i := 11) (N := some 67) (v := undef) (a' := ?_) #[true, true, true, true, true, true, true, true, true, true, true, true, false, false, false, false, false, false, false, false, false, false, false, false, false, false, false] rfl rfl (any_of HT_.out (by kernel_rfl)) (fun _ _ _ h => h) (Or.inr ⟨by rfl, rfl⟩) ?_ ?_
                          rotate_left
                          · simp only [Act.put, List.setIfInBounds_toArray, List.set_cons_zero, List.set_cons_succ, i64_w, i32_w]
                            rfl
                          refine pure_ (i := 12) (N := some 68) (v := undef) (a' := ?_) #[true, true, true, true, true, true, true, true, true, true, true, true, true, false, false, false, false, false, false, false, false, false, false, false, false, false, false] rfl rfl (any_of HT_.out (by kernel_rfl)) (fun _ _ _ h => h) (Or.inr ⟨by rfl, rfl⟩) ?_ ?_
                          rotate_left
                          · simp only [Act.put, List.setIfInBounds_toArray, List.set_cons_zero, List.set_cons_succ, i64_w, i32_w]
                            rfl
                          refine pure_ (i := 13) (N := some 69) (v := undef) (a' := ?_) #[true, true, true, true, true, true, true, true, true, true, true, true, true, true, false, false, false, false, false, false, false, false, false, false, false, false, false] rfl rfl (any_of HT_.out (by kernel_rfl)) (fun _ _ _ h => h) (Or.inr ⟨by rfl, rfl⟩) ?_ ?_
                          rotate_left
                          · simp only [Act.put, List.setIfInBounds_toArray, List.set_cons_zero, List.set_cons_succ, i64_w, i32_w]
                            rfl
                          refine pure_ (i := 14) (N := some 70) (v := undef) (a' := ?_) #[true, true, true, true, true, true, true, true, true, true, true, true, true, true, true, false, false, false, false, false, false, false, false, false, false, false, false] rfl rfl (any_of HT_.out (by kernel_rfl)) (fun _ _ _ h => h) (Or.inr ⟨by rfl, rfl⟩) ?_ ?_
                          rotate_left
                          · simp only [Act.put, List.setIfInBounds_toArray, List.set_cons_zero, List.set_cons_succ, i64_w, i32_w]
                            rfl
                          refine pure_ (i := 15) (N := some 71) (v := undef) (a' := ?_) #[true, true, true, true, true, true, true, true, true, true, true, true, true, true, true, true, false, false, false, false, false, false, false, false, false, false, false] rfl rfl (any_of HT_.out (by kernel_rfl)) (fun _ _ _ h => h) (Or.inr ⟨by rfl, rfl⟩) ?_ ?_
                          rotate_left
                          · simp only [Act.put, List.setIfInBounds_toArray, List.set_cons_zero, List.set_cons_succ, i64_w, i32_w]
                            rfl
                          refine pure_ (i := 16) (N := some 72) (v := undef) (a' := ?_) #[true, true, true, true, true, true, true, true, true, true, true, true, true, true, true, true, true, false, false, false, false, false, false, false, false, false, false] rfl rfl (any_of HT_.out (by kernel_rfl)) (fun _ _ _ h => h) (Or.inr ⟨by rfl, rfl⟩) ?_ ?_
                          rotate_left
                          · simp only [Act.put, List.setIfInBounds_toArray, List.set_cons_zero, List.set_cons_succ, i64_w, i32_w]
                            rfl
                          refine pure_ (i := 17) (N := some 73) (v := undef) (a' := ?_) #[true, true, true, true, true, true, true, true, true, true, true, true, true, true, true, true, true, true, false, false, false, false, false, false, false, false, false] rfl rfl (any_of HT_.out (by kernel_rfl)) (fun _ _ _ h => h) (Or.inr ⟨by rfl, rfl⟩) ?_ ?_
                          rotate_left
                          · simp only [Act.put, List.setIfInBounds_toArray, List.set_cons_zero, List.set_cons_succ, i64_w, i32_w]
                            rfl
                          refine pure_ (i := 18) (N := some 74) (v := undef) (a' := ?_) #[true, true, true, true, true, true, true, true, true, true, true, true, true, true, true, true, true, true, true, false, false, false, false, false, false, false, false] rfl rfl (any_of HT_.out (by kernel_rfl)) (fun _ _ _ h => h) (Or.inr ⟨by rfl, rfl⟩) ?_ ?_
                          rotate_left
                          · simp only [Act.put, List.setIfInBounds_toArray, List.set_cons_zero, List.set_cons_succ, i64_w, i32_w]
                            rfl
                          refine pure_ (i := 19) (N := some 75) (v := undef) (a' := ?_) #[true, true, true, true, true, true, true, true, true, true, true, true, true, true, true, true, true, true, true, true, false, false, false, false, false, false, false] rfl rfl (any_of HT_.out (by kernel_rfl)) (fun _ _ _ h => h) (Or.inr ⟨by rfl, rfl⟩) ?_ ?_
                          rotate_left
                          · simp only [Act.put, List.setIfInBounds_toArray, List.set_cons_zero, List.set_cons_succ, i64_w, i32_w]
                            rfl
                          refine pure_ (i := 20) (N := some 76) (v := undef) (a' := ?_) #[true, true, true, true, true, true, true, true, true, true, true, true, true, true, true, true, true, true, true, true, true, false, false, false, false, false, false] rfl rfl (any_of HT_.out (by kernel_rfl)) (fun _ _ _ h => h) (Or.inr ⟨by rfl, rfl⟩) ?_ ?_
                          rotate_left
                          · simp only [Act.put, List.setIfInBounds_toArray, List.set_cons_zero, List.set_cons_succ, i64_w, i32_w]
                            rfl
                          refine pure_ (i := 21) (N := some 77) (v := undef) (a' := ?_) #[true, true, true, true, true, true, true, true, true, true, true, true, true, true, true, true, true, true, true, true, true, true, false, false, false, false, false] rfl rfl (any_of HT_.out (by kernel_rfl)) (fun _ _ _ h => h) (Or.inr ⟨by rfl, rfl⟩) ?_ ?_
                          rotate_left
                          · simp only [Act.put, List.setIfInBounds_toArray, List.set_cons_zero, List.set_cons_succ, i64_w, i32_w]
                            rfl
                          refine pure_ (i := 22) (N := some 78) (v := undef) (a' := ?_) #[true, true, true, true, true, true, true, true, true, true, true, true, true, true, true, true, true, true, true, true, true, true, true, false, false, false, false] rfl rfl (any_of HT_.out (by kernel_rfl)) (fun _ _ _ h => h) (Or.inr ⟨by rfl, rfl⟩) ?_ ?_
                          rotate_left
                          · simp only [Act.put, List.setIfInBounds_toArray, List.set_cons_zero, List.set_cons_succ, i64_w, i32_w]
                            rfl
                          refine pure_ (i := 23) (N := some 79) (v := undef) (a' := ?_) #[true, true, true, true, true, true, true, true, true, true, true, true, true, true, true, true, true, true, true, true, true, true, true, true, false, false, false] rfl rfl (any_of HT_.out (by kernel_rfl)) (fun _ _ _ h => h) (Or.inr ⟨by rfl, rfl⟩) ?_ ?_
                          rotate_left
                          · simp only [Act.put, List.setIfInBounds_toArray, List.set_cons_zero, List.set_cons_succ, i64_w, i32_w]
                            rfl
                          refine pure_ (i := 24) (N := some 80) (v := undef) (a' := ?_) #[true, true, true, true, true, true, true, true, true, true, true, true, true, true, true, true, true, true, true, true, true, true, true, true, true, false, false] rfl rfl (any_of HT_.out (by kernel_rfl)) (fun _ _ _ h => h) (Or.inr ⟨by rfl, rfl⟩) ?_ ?_
                          rotate_left
                          · simp only [Act.put, List.setIfInBounds_toArray, List.set_cons_zero, List.set_cons_succ, i64_w, i32_w]
                            rfl
                          refine pure_ (i := 25) (N := some 81) (v := ?_) (a' := ?_) #[true, true, true, true, true, true, true, true, true, true, true, true, true, true, true, true, true, true, true, true, true, true, true, true, true, true, false] rfl rfl (any_of HT_.out (by kernel_rfl)) (fun _ _ _ h => h) (Or.inl ⟨by rfl, ?_⟩) ?_ ?_
                          rotate_left
                          · intro w'
                            go_simp
                            with_reducible rfl
                          rotate_left
                          · simp only [Act.put, List.setIfInBounds_toArray, List.set_cons_zero, List.set_cons_succ, i64_w, i32_w]
                            rfl
                          refine pure_ (i := 26) (N := some 82) (v := ?_) (a' := ?_) #[true, true, true, true, true, true, true, true, true, true, true, true, true, true, true, true, true, true, true, true, true, true, true, true, true, true, true] rfl rfl (any_of HT_.out (by kernel_rfl)) (fun _ _ _ h => h) (Or.inl ⟨by rfl, ?_⟩) ?_ ?_
                          rotate_left
                          · intro w'
                            go_simp
                            with_reducible rfl
                          rotate_left
                          · simp only [Act.put, List.setIfInBounds_toArray, List.set_cons_zero, List.set_cons_succ, i64_w, i32_w]
                            rfl
                          refine done_ (done_of HT_.out (by kernel_rfl)) ?_
                          try go_wp2
                          go_roundg k3
                          case measure => have := HJ1.out; have := HK2.out; have := HK3.out; omega
                          case rel => exact ⟨(wrap64 (x4_3 + 1)), (by first | rfl | (simp; done) | (simp [*]; done)), H', ⟨by have := HJ1.out; have := HK2.out; have := HK3.out; omega⟩, ⟨by (with_reducible repeat first | apply blk_drewN | apply blk_drew | apply blk_alloc); exact BK484.out⟩, ⟨by repeat (first | (with_reducible first | exact HB.out | apply below_alloc | apply pw_below_drewN | apply below_drew1 | refine below_set ?_ GE484.out) | exact HB.out)⟩⟩
                      · rw [if_neg c33] at H
                        have c33b0 : (t490 == 0) = false := beq_eq_false_iff_ne.mpr c33
                        have c33b1 : (t490 != 0) = true := bne_iff_ne.mpr c33
                        obtain rfl := Option.some.inj H
                        have hcz48_0 : wr.cell? ⟨gb484, 0, none⟩ = some (.slice A0_0 l0_0.length c0_0) := (blk_cell BK484.out 0).trans rfl
                        have hcz48_1 : wr.cell? ⟨gb484, 1, none⟩ = some (.slice A0_1 l0_1.length c0_1) := (blk_cell BK484.out 1).trans rfl
                        have hfz48_0 := blk_frozen BK484.out 0
                        have hfz48_1 := blk_frozen BK484.out 1
                        try go_wp2
                        have n0_ := Aside0.mk (blk_drew BK484.out)
                        have n1_ := Aside0.mk (below_drew1 HB.out)
                        clear BK484
                        clear HB
                        have BK484 := n0_
                        have HB := n1_
                        clear n0_ n1_
                        have p489 : 0 ≤ (x4_3 : Int) := of_decide_eq_true (by first | (with_reducible assumption) | assumption)
                        have q489 : x4_3 < (l0_1.length : Int) := of_decide_eq_true (by first | (with_reducible assumption) | assumption)
                        obtain ⟨ad489, e489, hx489_0, hx489_1, hx489_2, hx489_3, hx489_4, hx489_5, hx489_6⟩ := at_T43 HR0_1.out x4_3 p489 q489
                        have hw489_6 := hx489_6
                        have hw489_5 := hx489_5
                        have hw489_4 := hx489_4
                        have hw489_3 := hx489_3
                        have hw489_2 := hx489_2
                        have hw489_1 := hx489_1
                        have hw489_0 := hx489_0
                        cases e489
                        replace hx489_0 := (HB.out.cell (World.block_lt_of_cell? w _ hx489_0)).trans hx489_0
                        replace hx489_1 := (HB.out.cell (World.block_lt_of_cell? w _ hx489_1)).trans hx489_1
                        replace hx489_2 := (HB.out.cell (World.block_lt_of_cell? w _ hx489_2)).trans hx489_2
                        replace hx489_3 := (HB.out.cell (World.block_lt_of_cell? w _ hx489_3)).trans hx489_3
                        replace hx489_4 := (HB.out.cell (World.block_lt_of_cell? w _ hx489_4)).trans hx489_4
                        replace hx489_5 := (HB.out.cell (World.block_lt_of_cell? w _ hx489_5)).trans hx489_5
                        replace hx489_6 := (HB.out.cell (World.block_lt_of_cell? w _ hx489_6)).trans hx489_6
                        replace p489 := eq_true p489
                        replace q489 := eq_true q489
                        refine start_ (n := 27) (S := fun w' => w'.cell? ⟨gb484, 0, none⟩ = some (.slice A0_0 l0_0.length c0_0) ∧ w'.cell? ⟨gb484, 1, none⟩ = some (.slice (some ad489) l0_1.length c0_1) ∧ w'.cell? (ad489.add ((x4_3).toNat * 7)) = some (.int .i64 ((rd_T43 l0_1 x4_3).f0)) ∧ w'.cell? ⟨(ad489.add ((x4_3).toNat * 7)).block, (ad489.add ((x4_3).toNat * 7)).off + 1, none⟩ = some (.int .i64 ((rd_T43 l0_1 x4_3).f1.f0)) ∧ w'.cell? ⟨(ad489.add ((x4_3).toNat * 7)).block, (ad489.add ((x4_3).toNat * 7)).off + 2, none⟩ = some (.int .i64 ((rd_T43 l0_1 x4_3).f1.f1)) ∧ w'.cell? ⟨(ad489.add ((x4_3).toNat * 7)).block, (ad489.add ((x4_3).toNat * 7)).off + 3, none⟩ = some (.int .i64 ((rd_T43 l0_1 x4_3).f2.f0)) ∧ w'.cell? ⟨(ad489.add ((x4_3).toNat * 7)).block, (ad489.add ((x4_3).toNat * 7)).off + 4, none⟩ = some (.int .i64 ((rd_T43 l0_1 x4_3).f2.f1)) ∧ w'.cell? ⟨(ad489.add ((x4_3).toNat * 7)).block, (ad489.add ((x4_3).toNat * 7)).off + 5, none⟩ = some (.int .i64 ((rd_T43 l0_1 x4_3).f3.f0)) ∧ w'.cell? ⟨(ad489.add ((x4_3).toNat * 7)).block, (ad489.add ((x4_3).toNat * 7)).off + 6, none⟩ = some (.int .i64 ((rd_T43 l0_1 x4_3).f3.f1))) (ds := []) #[false, false, false, false, false, false, false, false, false, false, false, false, false, false, false, false, false, false, false, false, false, false, false, false, false, false, false] (by kernel_rfl) rfl rfl ⟨(blk_cell BK484.out 0).trans rfl, (blk_cell BK484.out 1).trans rfl, ((HB.out.cell (World.block_lt_of_cell? w _ hw489_0)).trans hw489_0), ((HB.out.cell (World.block_lt_of_cell? w _ hw489_1)).trans hw489_1), ((HB.out.cell (World.block_lt_of_cell? w _ hw489_2)).trans hw489_2), ((HB.out.cell (World.block_lt_of_cell? w _ hw489_3)).trans hw489_3), ((HB.out.cell (World.block_lt_of_cell? w _ hw489_4)).trans hw489_4), ((HB.out.cell (World.block_lt_of_cell? w _ hw489_5)).trans hw489_5), ((HB.out.cell (World.block_lt_of_cell? w _ hw489_6)).trans hw489_6)⟩ (fun hHeld => ?_); refine with_tabW potbankref01_Check.tab11 potbankref01_Check.bits11 (fun HT_ HW_ => ?_)
                        generalize wr.drew = w49 at BK484 HB hx489_0 hx489_1 hx489_2 hx489_3 hx489_4 hx489_5 hx489_6 hHeld ⊢
                        refine pure_ (i := 0) (N := some 56) (v := ?_) (a' := ?_) #[true, false, false, false, false, false, false, false, false, false, false, false, false, false, false, false, false, false, false, false, false, false, false, false, false, false, false] rfl rfl (any_of HT_.out (by kernel_rfl)) (fun _ _ _ h => h) (Or.inl ⟨by rfl, ?_⟩) ?_ ?_
                        rotate_left
                        · intro w'
                          go_simp
                          with_reducible rfl
                        rotate_left
                        · simp only [Act.put, List.setIfInBounds_toArray, List.set_cons_zero, List.set_cons_succ, i64_w, i32_w]
                          rfl
                        refine pure_ (i := 2) (N := some 58) (v := ?_) (a' := ?_) #[true, false, true, false, false, false, false, false, false, false, false, false, false, false, false, false, false, false, false, false, false, false, false, false, false, false, false] rfl rfl (any_of HT_.out (by kernel_rfl)) (fun _ _ _ h => h) (Or.inl ⟨by rfl, ?_⟩) ?_ ?_
                        rotate_left
                        · intro w'
                          go_simp
                          with_reducible rfl
                        rotate_left
                        · simp only [Act.put, List.setIfInBounds_toArray, List.set_cons_zero, List.set_cons_succ, i64_w, i32_w]
                          rfl
                        refine take_ (i := 1) (N := some 57) (v := ?_) (a' := ?_) #[true, true, true, false, false, false, false, false, false, false, false, false, false, false, false, false, false, false, false, false, false, false, false, false, false, false, false] rfl rfl (take_ofW HT_.out HW_.out (by kernel_rfl)) (fun _ _ _ h => h) (Or.inl ⟨by rfl, ?_⟩) hHeld ?_ ?_
                        rotate_left
                        · rintro w' ⟨s0, s1, s2, s3, s4, s5, s6, s7, s8⟩
                          go_simp
                          with_reducible rfl
                        rotate_left
                        · simp only [Act.put, List.setIfInBounds_toArray, List.set_cons_zero, List.set_cons_succ, i64_w, i32_w]
                          rfl
                        refine pure_ (i := 3) (N := some 59) (v := ?_) (a' := ?_) #[true, true, true, true, false, false, false, false, false, false, false, false, false, false, false, false, false, false, false, false, false, false, false, false, false, false, false] rfl rfl (any_of HT_.out (by kernel_rfl)) (fun _ _ _ h => h) (Or.inl ⟨by rfl, ?_⟩) ?_ ?_
                        rotate_left
                        · intro w'
                          go_simp
                          with_reducible rfl
                        rotate_left
                        · simp only [Act.put, List.setIfInBounds_toArray, List.set_cons_zero, List.set_cons_succ, i64_w, i32_w]
                          rfl
                        refine take_ (i := 4) (N := some 60) (v := ?_) (a' := ?_) #[true, true, true, true, true, false, false, false, false, false, false, false, false, false, false, false, false, false, false, false, false, false, false, false, false, false, false] rfl rfl (take_ofW HT_.out HW_.out (by kernel_rfl)) (fun _ _ _ h => h) (Or.inl ⟨by rfl, ?_⟩) hHeld ?_ ?_
                        rotate_left
                        · rintro w' ⟨s0, s1, s2, s3, s4, s5, s6, s7, s8⟩
                          go_simp
                          with_reducible rfl
                        rotate_left
                        · simp only [Act.put, List.setIfInBounds_toArray, List.set_cons_zero, List.set_cons_succ, i64_w, i32_w]
                          rfl
                        refine one_ (i := 5) (N := some 61) #[true, true, true, true, true, true, false, false, false, false, false, false, false, false, false, false, false, false, false, false, false, false, false, false, false, false, false] rfl rfl (one_of HT_.out (by kernel_rfl)) (by decide) (fun K hK => ?_)
                        refine goes_ Try.func46 (by kernel_rfl) rfl #[.agg #[.int .i64 ((rd_T43 l0_1 x4_3).f0), .int .i64 ((rd_T43 l0_1 x4_3).f1.f0), .int .i64 ((rd_T43 l0_1 x4_3).f1.f1), .int .i64 ((rd_T43 l0_1 x4_3).f2.f0), .int .i64 ((rd_T43 l0_1 x4_3).f2.f1), .int .i64 ((rd_T43 l0_1 x4_3).f3.f0), .int .i64 ((rd_T43 l0_1 x4_3).f3.f1)]] (by rfl) rfl rfl (by (try simp only [List.map_toArray, List.map_cons, List.map_nil]); first | done | rfl | (simp only [List.length_drop, List.length_take]; rfl)) ?_
                        with_reducible refine (potbankref01_CheckBody.calls ((rd_T43 l0_1 x4_3).f0) ((rd_T43 l0_1 x4_3).f1.f0) ((rd_T43 l0_1 x4_3).f1.f1) ((rd_T43 l0_1 x4_3).f2.f0) ((rd_T43 l0_1 x4_3).f2.f1) ((rd_T43 l0_1 x4_3).f3.f0) ((rd_T43 l0_1 x4_3).f3.f1) t490 _ A32.out).mono ?_
                        rintro e w50 ⟨rfl, hb⟩
                        refine ⟨_, rfl, ?_⟩
                        have n0_ := blkE BK484 hb
                        have n1_ := Aside0.mk (below_step (by repeat (first | (with_reducible first | exact HB.out | apply below_alloc | apply pw_below_drewN | apply below_drew1 | refine below_set ?_ GE484.out) | exact HB.out)) hb)
                        clear BK484
                        clear HB
                        have BK484 := n0_
                        have HB := n1_
                        clear n0_ n1_
                        (try clear hb)
                        (try clear hb2)
                        (try clear hk)
                        (try clear hi)
                        refine hK.out _ _ ⟨(blk_cell BK484.out 0).trans rfl, (blk_cell BK484.out 1).trans rfl, ((HB.out.cell (World.block_lt_of_cell? w _ hw489_0)).trans hw489_0), ((HB.out.cell (World.block_lt_of_cell? w _ hw489_1)).trans hw489_1), ((HB.out.cell (World.block_lt_of_cell? w _ hw489_2)).trans hw489_2), ((HB.out.cell (World.block_lt_of_cell? w _ hw489_3)).trans hw489_3), ((HB.out.cell (World.block_lt_of_cell? w _ hw489_4)).trans hw489_4), ((HB.out.cell (World.block_lt_of_cell? w _ hw489_5)).trans hw489_5), ((HB.out.cell (World.block_lt_of_cell? w _ hw489_6)).trans hw489_6)⟩ (fun hHeld => ?_)
                        clear hK K
                        refine norm_ (a' := ?_) ?_ ?_
                        rotate_left
                        · show Act.put _ (some 61) _ = _
                          simp only [Act.put, List.setIfInBounds_toArray, List.set_cons_zero, List.set_cons_succ, i64_w, i32_w]
                          rfl
                        refine pure_ (i := 6) (N := some 62) (v := ?_) (a' := ?_) #[true, true, true, true, true, true, true, false, false, false, false, false, false, false, false, false, false, false, false, false, false, false, false, false, false, false, false] rfl rfl (any_of HT_.out (by kernel_rfl)) (fun _ _ _ h => h) (Or.inl ⟨by rfl, ?_⟩) ?_ ?_
                        rotate_left
                        · intro w'
                          go_simp
                          with_reducible rfl
                        rotate_left
                        · simp only [Act.put, List.setIfInBounds_toArray, List.set_cons_zero, List.set_cons_succ, i64_w, i32_w]
                          rfl
                        refine pure_ (i := 7) (N := some 63) (v := ?_) (a' := ?_) #[true, true, true, true, true, true, true, true, false, false, false, false, false, false, false, false, false, false, false, false, false, false, false, false, false, false, false] rfl rfl (any_of HT_.out (by kernel_rfl)) (fun _ _ _ h => h) (Or.inl ⟨by rfl, ?_⟩) ?_ ?_
                        rotate_left
                        · intro w'
                          go_simp
                          with_reducible rfl
                        rotate_left
                        · simp only [Act.put, List.setIfInBounds_toArray, List.set_cons_zero, List.set_cons_succ, i64_w, i32_w]
                          rfl
                        refine pure_ (i := 8) (N := some 64) (v := undef) (a' := ?_) #[true, true, true, true, true, true, true, true, true, false, false, false, false, false, false, false, false, false, false, false, false, false, false, false, false, false, false] rfl rfl (any_of HT_.out (by kernel_rfl)) (fun _ _ _ h => h) (Or.inr ⟨by rfl, rfl⟩) ?_ ?_
                        rotate_left
                        · simp only [Act.put, List.setIfInBounds_toArray, List.set_cons_zero, List.set_cons_succ, i64_w, i32_w]
                          rfl
                        refine pure_ (i := 9) (N := some 65) (v := undef) (a' := ?_) #[true, true, true, true, true, true, true, true, true, true, false, false, false, false, false, false, false, false, false, false, false, false, false, false, false, false, false] rfl rfl (any_of HT_.out (by kernel_rfl)) (fun _ _ _ h => h) (Or.inr ⟨by rfl, rfl⟩) ?_ ?_
                        rotate_left
                        · simp only [Act.put, List.setIfInBounds_toArray, List.set_cons_zero, List.set_cons_succ, i64_w, i32_w]
                          rfl
                        refine pure_ (i := 10) (N := some 66) (v := undef) (a' := ?_) #[true, true, true, true, true, true, true, true, true, true, true, false, false, false, false, false, false, false, false, false, false, false, false, false, false, false, false] rfl rfl (any_of HT_.out (by kernel_rfl)) (fun _ _ _ h => h) (Or.inr ⟨by rfl, rfl⟩) ?_ ?_
                        rotate_left
                        · simp only [Act.put, List.setIfInBounds_toArray, List.set_cons_zero, List.set_cons_succ, i64_w, i32_w]
                          rfl
                        refine pure_ (i := 11) (N := some 67) (v := undef) (a' := ?_) #[true, true, true, true, true, true, true, true, true, true, true, true, false, false, false, false, false, false, false, false, false, false, false, false, false, false, false] rfl rfl (any_of HT_.out (by kernel_rfl)) (fun _ _ _ h => h) (Or.inr ⟨by rfl, rfl⟩) ?_ ?_
                        rotate_left
                        · simp only [Act.put, List.setIfInBounds_toArray, List.set_cons_zero, List.set_cons_succ, i64_w, i32_w]
                          rfl
                        refine pure_ (i := 12) (N := some 68) (v := undef) (a' := ?_) #[true, true, true, true, true, true, true, true, true, true, true, true, true, false, false, false, false, false, false, false, false, false, false, false, false, false, false] rfl rfl (any_of HT_.out (by kernel_rfl)) (fun _ _ _ h => h) (Or.inr ⟨by rfl, rfl⟩) ?_ ?_
                        rotate_left
                        · simp only [Act.put, List.setIfInBounds_toArray, List.set_cons_zero, List.set_cons_succ, i64_w, i32_w]
                          rfl
                        refine pure_ (i := 13) (N := some 69) (v := undef) (a' := ?_) #[true, true, true, true, true, true, true, true, true, true, true, true, true, true, false, false, false, false, false, false, false, false, false, false, false, false, false] rfl rfl (any_of HT_.out (by kernel_rfl)) (fun _ _ _ h => h) (Or.inr ⟨by rfl, rfl⟩) ?_ ?_
                        rotate_left
                        · simp only [Act.put, List.setIfInBounds_toArray, List.set_cons_zero, List.set_cons_succ, i64_w, i32_w]
                          rfl
                        refine pure_ (i := 14) (N := some 70) (v := undef) (a' := ?_) #[true, true, true, true, true, true, true, true, true, true, true, true, true, true, true, false, false, false, false, false, false, false, false, false, false, false, false] rfl rfl (any_of HT_.out (by kernel_rfl)) (fun _ _ _ h => h) (Or.inr ⟨by rfl, rfl⟩) ?_ ?_
                        rotate_left
                        · simp only [Act.put, List.setIfInBounds_toArray, List.set_cons_zero, List.set_cons_succ, i64_w, i32_w]
                          rfl
                        refine pure_ (i := 15) (N := some 71) (v := undef) (a' := ?_) #[true, true, true, true, true, true, true, true, true, true, true, true, true, true, true, true, false, false, false, false, false, false, false, false, false, false, false] rfl rfl (any_of HT_.out (by kernel_rfl)) (fun _ _ _ h => h) (Or.inr ⟨by rfl, rfl⟩) ?_ ?_
                        rotate_left
                        · simp only [Act.put, List.setIfInBounds_toArray, List.set_cons_zero, List.set_cons_succ, i64_w, i32_w]
                          rfl
                        refine pure_ (i := 16) (N := some 72) (v := undef) (a' := ?_) #[true, true, true, true, true, true, true, true, true, true, true, true, true, true, true, true, true, false, false, false, false, false, false, false, false, false, false] rfl rfl (any_of HT_.out (by kernel_rfl)) (fun _ _ _ h => h) (Or.inr ⟨by rfl, rfl⟩) ?_ ?_
                        rotate_left
                        · simp only [Act.put, List.setIfInBounds_toArray, List.set_cons_zero, List.set_cons_succ, i64_w, i32_w]
                          rfl
                        refine pure_ (i := 17) (N := some 73) (v := undef) (a' := ?_) #[true, true, true, true, true, true, true, true, true, true, true, true, true, true, true, true, true, true, false, false, false, false, false, false, false, false, false] rfl rfl (any_of HT_.out (by kernel_rfl)) (fun _ _ _ h => h) (Or.inr ⟨by rfl, rfl⟩) ?_ ?_
                        rotate_left
                        · simp only [Act.put, List.setIfInBounds_toArray, List.set_cons_zero, List.set_cons_succ, i64_w, i32_w]
                          rfl
                        refine pure_ (i := 18) (N := some 74) (v := undef) (a' := ?_) #[true, true, true, true, true, true, true, true, true, true, true, true, true, true, true, true, true, true, true, false, false, false, false, false, false, false, false] rfl rfl (any_of HT_.out (by kernel_rfl)) (fun _ _ _ h => h) (Or.inr ⟨by rfl, rfl⟩) ?_ ?_
                        rotate_left
                        · simp only [Act.put, List.setIfInBounds_toArray, List.set_cons_zero, List.set_cons_succ, i64_w, i32_w]
                          rfl
                        refine pure_ (i := 19) (N := some 75) (v := undef) (a' := ?_) #[true, true, true, true, true, true, true, true, true, true, true, true, true, true, true, true, true, true, true, true, false, false, false, false, false, false, false] rfl rfl (any_of HT_.out (by kernel_rfl)) (fun _ _ _ h => h) (Or.inr ⟨by rfl, rfl⟩) ?_ ?_
                        rotate_left
                        · simp only [Act.put, List.setIfInBounds_toArray, List.set_cons_zero, List.set_cons_succ, i64_w, i32_w]
                          rfl
                        refine pure_ (i := 20) (N := some 76) (v := undef) (a' := ?_) #[true, true, true, true, true, true, true, true, true, true, true, true, true, true, true, true, true, true, true, true, true, false, false, false, false, false, false] rfl rfl (any_of HT_.out (by kernel_rfl)) (fun _ _ _ h => h) (Or.inr ⟨by rfl, rfl⟩) ?_ ?_
                        rotate_left
                        · simp only [Act.put, List.setIfInBounds_toArray, List.set_cons_zero, List.set_cons_succ, i64_w, i32_w]
                          rfl
                        refine pure_ (i := 21) (N := some 77) (v := undef) (a' := ?_) #[true, true, true, true, true, true, true, true, true, true, true, true, true, true, true, true, true, true, true, true, true, true, false, false, false, false, false] rfl rfl (any_of HT_.out (by kernel_rfl)) (fun _ _ _ h => h) (Or.inr ⟨by rfl, rfl⟩) ?_ ?_
                        rotate_left
                        · simp only [Act.put, List.setIfInBounds_toArray, List.set_cons_zero, List.set_cons_succ, i64_w, i32_w]
                          rfl
                        refine pure_ (i := 22) (N := some 78) (v := undef) (a' := ?_) #[true, true, true, true, true, true, true, true, true, true, true, true, true, true, true, true, true, true, true, true, true, true, true, false, false, false, false] rfl rfl (any_of HT_.out (by kernel_rfl)) (fun _ _ _ h => h) (Or.inr ⟨by rfl, rfl⟩) ?_ ?_
                        rotate_left
                        · simp only [Act.put, List.setIfInBounds_toArray, List.set_cons_zero, List.set_cons_succ, i64_w, i32_w]
                          rfl
                        refine pure_ (i := 23) (N := some 79) (v := undef) (a' := ?_) #[true, true, true, true, true, true, true, true, true, true, true, true, true, true, true, true, true, true, true, true, true, true, true, true, false, false, false] rfl rfl (any_of HT_.out (by kernel_rfl)) (fun _ _ _ h => h) (Or.inr ⟨by rfl, rfl⟩) ?_ ?_
                        rotate_left
                        · simp only [Act.put, List.setIfInBounds_toArray, List.set_cons_zero, List.set_cons_succ, i64_w, i32_w]
                          rfl
                        refine pure_ (i := 24) (N := some 80) (v := undef) (a' := ?_) #[true, true, true, true, true, true, true, true, true, true, true, true, true, true, true, true, true, true, true, true, true, true, true, true, true, false, false] rfl rfl (any_of HT_.out (by kernel_rfl)) (fun _ _ _ h => h) (Or.inr ⟨by rfl, rfl⟩) ?_ ?_
                        rotate_left
                        · simp only [Act.put, List.setIfInBounds_toArray, List.set_cons_zero, List.set_cons_succ, i64_w, i32_w]
                          rfl
                        refine pure_ (i := 25) (N := some 81) (v := undef) (a' := ?_) #[true, true, true, true, true, true, true, true, true, true, true, true, true, true, true, true, true, true, true, true, true, true, true, true, true, true, false] rfl rfl (any_of HT_.out (by kernel_rfl)) (fun _ _ _ h => h) (Or.inr ⟨by rfl, rfl⟩) ?_ ?_
                        rotate_left
                        · simp only [Act.put, List.setIfInBounds_toArray, List.set_cons_zero, List.set_cons_succ, i64_w, i32_w]
                          rfl
                        refine pure_ (i := 26) (N := some 82) (v := ?_) (a' := ?_) #[true, true, true, true, true, true, true, true, true, true, true, true, true, true, true, true, true, true, true, true, true, true, true, true, true, true, true] rfl rfl (any_of HT_.out (by kernel_rfl)) (fun _ _ _ h => h) (Or.inl ⟨by rfl, ?_⟩) ?_ ?_
                        rotate_left
                        · intro w'
                          go_simp
                          with_reducible rfl
                        rotate_left
                        · simp only [Act.put, List.setIfInBounds_toArray, List.set_cons_zero, List.set_cons_succ, i64_w, i32_w]
                          rfl
                        refine done_ (done_of HT_.out (by kernel_rfl)) ?_
                        try go_wp2
                        go_ret
                        exact ⟨by first | rfl | (simp [errW_none, errW_some] <;> rfl) | (simp [*, errW_none, errW_some] <;> rfl), by repeat (first | (with_reducible first | exact HB.out | apply below_alloc | apply pw_below_drewN | apply below_drew1 | refine below_set ?_ GE484.out) | exact HB.out)⟩
                    · rw [if_neg c31] at H
                      exact absurd H (by simp)
                  · rw [if_neg c30] at H
                    have c30b0 : decide (x4_3 < (l0_1.length : Int)) = false := decide_eq_false c30
                    clear c30
                    obtain rfl := Option.some.inj H
                    have hcz51_0 : wr.cell? ⟨gb484, 0, none⟩ = some (.slice A0_0 l0_0.length c0_0) := (blk_cell BK484.out 0).trans rfl
                    have hcz51_1 : wr.cell? ⟨gb484, 1, none⟩ = some (.slice A0_1 l0_1.length c0_1) := (blk_cell BK484.out 1).trans rfl
                    have hfz51_0 := blk_frozen BK484.out 0
                    have hfz51_1 := blk_frozen BK484.out 1
                    go_wp2
                    go_ret
                    exact ⟨by first | rfl | (simp [errW_none, errW_some] <;> rfl) | (simp [*, errW_none, errW_some] <;> rfl), by repeat (first | (with_reducible first | exact HB.out | apply below_alloc | apply pw_below_drewN | apply below_drew1 | refine below_set ?_ GE484.out) | exact HB.out)⟩

end Go.Proofs.Ytcgokimagimamaa.F
