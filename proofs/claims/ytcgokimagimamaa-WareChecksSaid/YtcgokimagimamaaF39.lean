/- Written by a program of mine out of the translation: what functions answer; Lean checks it. -/
import Derived.Test.YtcgokimagimamaaMRowCh1
import Derived.Test.YtcgokimagimamaaF44
namespace Go.Proofs.Ytcgokimagimamaa.F
open Go.RowKit Go.Proofs.YtcgokimagimamaaW.PrintWords Go.Proofs.YtcgokimagimamaaW.PrintLast Go.Proofs.YtcgokimagimamaaW.PrintMore
attribute [local go_sem] max2_int min2_int max_two min_two max_three min_three max_four min_four   -- for this text's walks alone
set_option linter.unusedVariables false
set_option linter.unusedSimpArgs false
/-! ### potbankref01_Shape: function 39 -/
def potbankref01_Shape.l0 : Nat → Int → Int → List (S25) → List (S43) → Option (Int × Int × Int × Int × Int × Int × Int × Int × Int × Int × Int × Int)
  | 0, _, _, _, _ => none
  | k + 1, x1, x6, x494000, x494001 => if x6 < (x494000.length : Int) then (if 0 ≤ x6 then (if ((rd_T25 x494000 x6).f0) = x1 then (some ((rd_T25 x494000 x6).f0, (rd_T25 x494000 x6).f1.f0, (rd_T25 x494000 x6).f1.f1, (rd_T25 x494000 x6).f2.f0, (rd_T25 x494000 x6).f2.f1, (rd_T25 x494000 x6).f3.f0, (rd_T25 x494000 x6).f3.f1, (rd_T25 x494000 x6).f4, (rd_T25 x494000 x6).f5.f0, (rd_T25 x494000 x6).f5.f1, (rd_T25 x494000 x6).f6, 0)) else (potbankref01_Shape.l0 k x1 (wrap64 (x6 + 1)) x494000 x494001)) else (none)) else (some (0, 0, 0, 0, 0, 0, 0, 0, 0, 0, 0, 3))
def potbankref01_Shape.f (k : Nat) (l0_0 : List (S25)) (l0_1 : List (S43)) (a1 : Int) : Option (Int × Int × Int × Int × Int × Int × Int × Int × Int × Int × Int × Int) := (potbankref01_Check.f k l0_0 l0_1).bind fun t495 => (if t495 = 0 then (potbankref01_Shape.l0 k a1 0 l0_0 l0_1) else (some (0, 0, 0, 0, 0, 0, 0, 0, 0, 0, 0, 12)))
theorem potbankref01_Shape.mono_l : ∀ k, (∀ y0 y1 y2 y3, LeO (potbankref01_Shape.l0 k y0 y1 y2 y3) (potbankref01_Shape.l0 (k + 1) y0 y1 y2 y3))
  | 0 => fun _ _ _ _ r h => by simp [potbankref01_Shape.l0] at h
  | k + 1 => by
    have ih0 := potbankref01_Shape.mono_l k
    · intro y0 y1 y2 y3
      unfold potbankref01_Shape.l0
      repeat' first
      | (with_reducible exact ih0 _ _ _ _)
      | (with_reducible exact potbankref01_Check.mono _ _ _)
      | (with_reducible exact LeO.refl _)
      | (with_reducible exact LeO.none _)
      | (with_reducible refine LeO.ite ?_ ?_)
      | (with_reducible refine LeO.bind ?_ (fun _ => ?_))
      | exact ih0 _ _ _ _
      | exact potbankref01_Check.mono _ _ _
      | exact LeO.none _
      | refine LeO.ite ?_ ?_
      | refine LeO.bind ?_ (fun _ => ?_)
theorem potbankref01_Shape.mono : ∀ a0 a1 a2 k, LeO (potbankref01_Shape.f k a0 a1 a2) (potbankref01_Shape.f (k + 1) a0 a1 a2) := by
  intro a0 a1 a2 k
  have ih0 := potbankref01_Shape.mono_l k
  unfold potbankref01_Shape.f
  repeat' first
      | (with_reducible exact ih0 _ _ _ _)
      | (with_reducible exact potbankref01_Check.mono _ _ _)
      | (with_reducible exact LeO.refl _)
      | (with_reducible exact LeO.none _)
      | (with_reducible refine LeO.ite ?_ ?_)
      | (with_reducible refine LeO.bind ?_ (fun _ => ?_))
      | exact ih0 _ _ _ _
      | exact potbankref01_Check.mono _ _ _
      | exact LeO.none _
      | refine LeO.ite ?_ ?_
      | refine LeO.bind ?_ (fun _ => ?_)
set_option maxHeartbeats 8000000 in
set_option maxRecDepth 100000 in
theorem potbankref01_Shape.calls (k : Nat) (A0_0 : Option Addr) (c0_0 : Nat) (l0_0 : List (S25)) (A0_1 : Option Addr) (c0_1 : Nat) (l0_1 : List (S43)) (a1 : Int) (r1 : Int) (r2 : Int) (r3 : Int) (r4 : Int) (r5 : Int) (r6 : Int) (r7 : Int) (r8 : Int) (r9 : Int) (r10 : Int) (r11 : Int) (r12 : Int) (w : World) (hr0_0 : Kd.C k25 w A0_0 l0_0.length l0_0) (hc0_0 : l0_0.length ≤ c0_0) (hr0_1 : Kd.C k43 w A0_1 l0_1.length l0_1) (hc0_1 : l0_1.length ≤ c0_1) (h : potbankref01_Shape.f k l0_0 l0_1 a1 = some (r1, r2, r3, r4, r5, r6, r7, r8, r9, r10, r11, r12)) :
    Calls Try.prog 39 #[.agg #[.slice A0_0 l0_0.length c0_0, .slice A0_1 l0_1.length c0_1], .int .i64 a1] w fun e w' => e = .returned (.tuple #[.agg #[.int .i64 r1, .int .i64 r2, .int .i64 r3, .int .i64 r4, .int .i64 r5, .int .i64 r6, .int .i64 r7, .int .i64 r8, .int .i64 r9, .int .i64 r10, .int .i64 r11], .int .i64 r12]) ∧ Below w.heap.size w w' := by
  have hu66 := Try.underlying66
  have hu25 := Try.underlying25
  have HR0_0 := Aside0.mk hr0_0
  have HC0_0 := Aside0.mk hc0_0
  clear hr0_0 hc0_0
  have HR0_1 := Aside0.mk hr0_1
  have HC0_1 := Aside0.mk hc0_1
  clear hr0_1 hc0_1
  have HB := Aside0.mk (Below.refl w.heap.size w)
  have H : ((potbankref01_Check.f k l0_0 l0_1).bind fun t495 => (if t495 = 0 then (potbankref01_Shape.l0 k a1 0 l0_0 l0_1) else (some (0, 0, 0, 0, 0, 0, 0, 0, 0, 0, 0, 12)))) = some (r1, r2, r3, r4, r5, r6, r7, r8, r9, r10, r11, r12) := h
  clear h
  replace H := Option.bind_eq_some_iff.mp H
  obtain ⟨t495, A30, H⟩ := H
  replace H : (if t495 = 0 then (potbankref01_Shape.l0 k a1 0 l0_0 l0_1) else (some (0, 0, 0, 0, 0, 0, 0, 0, 0, 0, 0, 12))) = some (r1, r2, r3, r4, r5, r6, r7, r8, r9, r10, r11, r12) := H
  have A3 := Aside0.mk A30
  clear A30
  by_cases c4 : t495 = 0
  · rw [if_pos c4] at H
    have c4b0 : (t495 == 0) = true := beq_iff_eq.mpr c4
    have c4b1 : (t495 != 0) = false := bne_eq_false_iff_eq.mpr c4
    clear c4
    have H' := Aside0.mk H
    clear H
    go_enter Try.func39, Try.ntmps39
    go_wp2_with (first | ((with_reducible refine gate_dst (N := 2) rfl ?_); refine box_event ?hg (N := 2) ?hd (cs := #[.slice A0_0 l0_0.length c0_0, .slice A0_1 l0_1.length c0_1]) (t := 66) ?hr ?_; (case hd => rfl); (case hg => rfl); (case hr => first | (go_simp; done) | (go_simp; rfl)); intro gb493 hg w5 hbox hb; have BK493 := Aside0.mk (hbox); have GW493 := Aside0.mk ((by rw [hg]; exact (below_size (by repeat (first | (with_reducible first | exact HB.out | apply below_alloc | apply pw_below_drewN | apply below_drew1) | exact HB.out))) : w.heap.size ≤ gb493)); have GE493 := Aside0.mk ((by rw [hg]; exact (below_size (by repeat (first | (with_reducible first | exact HB.out | apply below_alloc | apply pw_below_drewN | apply below_drew1) | exact HB.out))) : w.heap.size ≤ gb493)); replace HB := Aside0.mk (below_step (by repeat (first | (with_reducible first | exact HB.out | apply below_alloc | apply pw_below_drewN | apply below_drew1) | exact HB.out)) hb); clear hb hbox hg) | ((with_reducible refine gate_dst (N := 4) rfl ?_); refine box_event ?hg (N := 4) ?hd (cs := #[.int .i64 0, .int .i64 0, .int .i64 0, .int .i64 0, .int .i64 0, .int .i64 0, .int .i64 0, .int .i64 0, .int .i64 0, .int .i64 0, .int .i64 0]) (t := 25) ?hr ?_; (case hd => rfl); (case hg => rfl); (case hr => first | (go_simp; done) | (go_simp; rfl)); intro gb494 hg w6 hbox hb; have BK494 := Aside0.mk (hbox); have GW494 := Aside0.mk ((by rw [hg]; exact (below_size (by repeat (first | (with_reducible first | exact HB.out | apply below_alloc | apply pw_below_drewN | apply below_drew1 | refine below_set ?_ GE493.out) | exact HB.out))) : w.heap.size ≤ gb494)); have GE494 := Aside0.mk ((by rw [hg]; exact (below_size (by repeat (first | (with_reducible first | exact HB.out | apply below_alloc | apply pw_below_drewN | apply below_drew1 | refine below_set ?_ GE493.out) | exact HB.out))) : w.heap.size ≤ gb494)); replace HB := Aside0.mk (below_step (by repeat (first | (with_reducible first | exact HB.out | apply below_alloc | apply pw_below_drewN | apply below_drew1 | refine below_set ?_ GE493.out) | exact HB.out)) hb); have NB493_494 := Aside0.mk ((by rw [hg]; exact Nat.ne_of_lt (blk_lt (g := gb493) (o := .cells #[.slice A0_0 l0_0.length c0_0, .slice A0_1 l0_1.length c0_1] 66 (0, 0)) (by (with_reducible repeat first | apply blk_drewN | apply blk_drew | apply blk_alloc); exact BK493.out)) : gb493 ≠ gb494)); have NB494_493 := Aside0.mk ((by rw [hg]; exact Nat.ne_of_gt (blk_lt (g := gb493) (o := .cells #[.slice A0_0 l0_0.length c0_0, .slice A0_1 l0_1.length c0_1] 66 (0, 0)) (by (with_reducible repeat first | apply blk_drewN | apply blk_drew | apply blk_alloc); exact BK493.out)) : gb494 ≠ gb493)); replace BK493 := blkE BK493 hb; clear hb hbox hg; have hnb7 := NB493_494.out; have hnc7 := NB494_493.out; obtain ⟨hcz8_0, hcz8_1⟩ := cells2 BK493.out; obtain ⟨hfz8_0, hfz8_1⟩ := froz2 BK493.out) | ((with_reducible refine gate_callee (f := 44) rfl ?_); refine goesL_ (some 8) rfl rfl Try.func44 (by kernel_rfl) rfl #[.agg #[.slice A0_0 l0_0.length c0_0, .slice A0_1 l0_1.length c0_1]] rfl (by (try simp only [List.map_toArray, List.map_cons, List.map_nil]); first | done | rfl | (simp only [List.length_drop, List.length_take]; rfl)) ?_; (with_reducible refine (potbankref01_Check.calls k _ _ l0_0 _ _ l0_1 t495 _ ?side1 ?side2 ?side3 ?side4 A3.out).mono ?_); (case side1 => repeat (first | exact (Kd.C_below HR0_0.out HB.out) | (with_reducible refine Kd.C_alloc ?_ _) | (with_reducible refine Kd.C_drewN ?_ _) | (with_reducible refine Kd.C_drew ?_))); (case side2 => exact HC0_0.out); (case side3 => repeat (first | exact (Kd.C_below HR0_1.out HB.out) | (with_reducible refine Kd.C_alloc ?_ _) | (with_reducible refine Kd.C_drewN ?_ _) | (with_reducible refine Kd.C_drew ?_))); (case side4 => exact HC0_1.out); rintro e w9 ⟨rfl, hb⟩; refine ⟨_, rfl, ?_⟩; replace BK493 := blkE BK493 hb; replace BK494 := blkE BK494 hb; replace HB := Aside0.mk (below_step (by repeat (first | (with_reducible first | exact HB.out | apply below_alloc | apply pw_below_drewN | apply below_drew1 | refine below_set ?_ GE493.out | refine below_set ?_ GE494.out) | exact HB.out)) hb); (try clear hb); (try clear hb2); (try clear hk); (try clear hi)))
    go_loopg [6] k (fun kq v6 w' => ∃ (x6_1 : Int) (x495000_1 : Int) (x495001_1 : Int) (x495002_1 : Int) (x495003_1 : Int) (x495004_1 : Int) (x495005_1 : Int) (x495006_1 : Int) (x495007_1 : Int) (x495008_1 : Int) (x495009_1 : Int) (x495010_1 : Int), v6 = .int .i64 x6_1 ∧ Aside0 (potbankref01_Shape.l0 kq a1 x6_1 l0_0 l0_1 = some (r1, r2, r3, r4, r5, r6, r7, r8, r9, r10, r11, r12)) ∧ Aside0 (kq ≤ k) ∧ Aside0 (w'.heap[gb493]? = some (.cells #[(.slice A0_0 l0_0.length c0_0), (.slice A0_1 l0_1.length c0_1)] 66 (0, 0))) ∧ Aside0 (w'.heap[gb494]? = some (.cells #[.int .i64 x495000_1, .int .i64 x495001_1, .int .i64 x495002_1, .int .i64 x495003_1, .int .i64 x495004_1, .int .i64 x495005_1, .int .i64 x495006_1, .int .i64 x495007_1, .int .i64 x495008_1, .int .i64 x495009_1, .int .i64 x495010_1] 25 (0, 0))) ∧ Aside0 (Below w.heap.size w w'))
    case atStart => exact ⟨(0), (0), (0), (0), (0), (0), (0), (0), (0), (0), (0), (0), (by first | rfl | (simp; done) | (simp [*]; done)), H', ⟨Nat.le_refl _⟩, ⟨by (with_reducible repeat first | apply blk_drewN | apply blk_drew | apply blk_alloc); exact BK493.out⟩, ⟨by (with_reducible repeat first | apply blk_drewN | apply blk_drew | apply blk_alloc); exact BK494.out⟩, ⟨by repeat (first | (with_reducible first | exact HB.out | apply below_alloc | apply pw_below_drewN | apply below_drew1 | refine below_set ?_ GE493.out | refine below_set ?_ GE494.out) | exact HB.out)⟩⟩
    case round =>
      clear H'
      try clear p2
      try clear c3
      try clear c4
      try clear c4b0
      try clear c4b1
      try clear c7
      try clear hcz8_0
      try clear hcz8_1
      try clear hfz8_0
      try clear hfz8_1
      obtain ⟨x6_1, x495000_1, x495001_1, x495002_1, x495003_1, x495004_1, x495005_1, x495006_1, x495007_1, x495008_1, x495009_1, x495010_1, rfl, HA, HK1, BK493, BK494, HB⟩ := hrel
      cases gk with
      | zero => exact absurd HA.out (by simp [potbankref01_Shape.l0])
      | succ k1 =>
        have H := HA.out
        clear HA
        simp only [potbankref01_Shape.l0] at H
        by_cases c10 : x6_1 < (l0_0.length : Int)
        · rw [if_pos c10] at H
          have c10b0 : decide (x6_1 < (l0_0.length : Int)) = true := decide_eq_true c10
          clear c10
          by_cases c11 : 0 ≤ x6_1
          · rw [if_pos c11] at H
            have c11b0 : decide (0 ≤ x6_1) = true := decide_eq_true c11
            clear c11
            by_cases c12 : ((rd_T25 l0_0 x6_1).f0) = a1
            · rw [if_pos c12] at H
              have c12b0 : (((rd_T25 l0_0 x6_1).f0) == a1) = true := beq_iff_eq.mpr c12
              have c12b1 : (((rd_T25 l0_0 x6_1).f0) != a1) = false := bne_eq_false_iff_eq.mpr c12
              clear c12
              simp only [Option.some.injEq, Prod.mk.injEq] at H
              obtain ⟨rfl, rfl, rfl, rfl, rfl, rfl, rfl, rfl, rfl, rfl, rfl, rfl⟩ := H
              have hnb13 := NB493_494.out
              have hnc13 := NB494_493.out
              have hcz14_0 : wr.cell? ⟨gb493, 0, none⟩ = some (.slice A0_0 l0_0.length c0_0) := (blk_cell BK493.out 0).trans rfl
              have hcz14_1 : wr.cell? ⟨gb493, 1, none⟩ = some (.slice A0_1 l0_1.length c0_1) := (blk_cell BK493.out 1).trans rfl
              have hfz14_0 := blk_frozen BK493.out 0
              have hfz14_1 := blk_frozen BK493.out 1
              have p496 : 0 ≤ (x6_1 : Int) := of_decide_eq_true (by first | (with_reducible assumption) | assumption)
              have q496 : x6_1 < (l0_0.length : Int) := of_decide_eq_true (by first | (with_reducible assumption) | assumption)
              obtain ⟨ad496, e496, hx496_0, hx496_1, hx496_2, hx496_3, hx496_4, hx496_5, hx496_6, hx496_7, hx496_8, hx496_9, hx496_10⟩ := at_T25 HR0_0.out x6_1 p496 q496
              cases e496
              replace hx496_0 := (HB.out.cell (World.block_lt_of_cell? w _ hx496_0)).trans hx496_0
              replace hx496_1 := (HB.out.cell (World.block_lt_of_cell? w _ hx496_1)).trans hx496_1
              replace hx496_2 := (HB.out.cell (World.block_lt_of_cell? w _ hx496_2)).trans hx496_2
              replace hx496_3 := (HB.out.cell (World.block_lt_of_cell? w _ hx496_3)).trans hx496_3
              replace hx496_4 := (HB.out.cell (World.block_lt_of_cell? w _ hx496_4)).trans hx496_4
              replace hx496_5 := (HB.out.cell (World.block_lt_of_cell? w _ hx496_5)).trans hx496_5
              replace hx496_6 := (HB.out.cell (World.block_lt_of_cell? w _ hx496_6)).trans hx496_6
              replace hx496_7 := (HB.out.cell (World.block_lt_of_cell? w _ hx496_7)).trans hx496_7
              replace hx496_8 := (HB.out.cell (World.block_lt_of_cell? w _ hx496_8)).trans hx496_8
              replace hx496_9 := (HB.out.cell (World.block_lt_of_cell? w _ hx496_9)).trans hx496_9
              replace hx496_10 := (HB.out.cell (World.block_lt_of_cell? w _ hx496_10)).trans hx496_10
              replace p496 := eq_true p496
              replace q496 := eq_true q496
              have p497 : 0 ≤ (x6_1 : Int) := of_decide_eq_true (by first | (with_reducible assumption) | assumption)
              have q497 : x6_1 < (l0_0.length : Int) := of_decide_eq_true (by first | (with_reducible assumption) | assumption)
              obtain ⟨ad497, e497, hx497_0, hx497_1, hx497_2, hx497_3, hx497_4, hx497_5, hx497_6, hx497_7, hx497_8, hx497_9, hx497_10⟩ := at_T25 HR0_0.out x6_1 p497 q497
              obtain rfl : ad496 = ad497 := (by injection e497)
              replace hx497_0 := (HB.out.cell (World.block_lt_of_cell? w _ hx497_0)).trans hx497_0
              replace hx497_1 := (HB.out.cell (World.block_lt_of_cell? w _ hx497_1)).trans hx497_1
              replace hx497_2 := (HB.out.cell (World.block_lt_of_cell? w _ hx497_2)).trans hx497_2
              replace hx497_3 := (HB.out.cell (World.block_lt_of_cell? w _ hx497_3)).trans hx497_3
              replace hx497_4 := (HB.out.cell (World.block_lt_of_cell? w _ hx497_4)).trans hx497_4
              replace hx497_5 := (HB.out.cell (World.block_lt_of_cell? w _ hx497_5)).trans hx497_5
              replace hx497_6 := (HB.out.cell (World.block_lt_of_cell? w _ hx497_6)).trans hx497_6
              replace hx497_7 := (HB.out.cell (World.block_lt_of_cell? w _ hx497_7)).trans hx497_7
              replace hx497_8 := (HB.out.cell (World.block_lt_of_cell? w _ hx497_8)).trans hx497_8
              replace hx497_9 := (HB.out.cell (World.block_lt_of_cell? w _ hx497_9)).trans hx497_9
              replace hx497_10 := (HB.out.cell (World.block_lt_of_cell? w _ hx497_10)).trans hx497_10
              replace p497 := eq_true p497
              replace q497 := eq_true q497
              have hcz15_0 : wr.cell? ⟨gb494, 0, none⟩ = some (.int .i64 x495000_1) := (blk_cell BK494.out 0).trans rfl
              have hcz15_1 : wr.cell? ⟨gb494, 1, none⟩ = some (.int .i64 x495001_1) := (blk_cell BK494.out 1).trans rfl
              have hcz15_2 : wr.cell? ⟨gb494, 2, none⟩ = some (.int .i64 x495002_1) := (blk_cell BK494.out 2).trans rfl
              have hcz15_3 : wr.cell? ⟨gb494, 3, none⟩ = some (.int .i64 x495003_1) := (blk_cell BK494.out 3).trans rfl
              have hcz15_4 : wr.cell? ⟨gb494, 4, none⟩ = some (.int .i64 x495004_1) := (blk_cell BK494.out 4).trans rfl
              have hcz15_5 : wr.cell? ⟨gb494, 5, none⟩ = some (.int .i64 x495005_1) := (blk_cell BK494.out 5).trans rfl
              have hcz15_6 : wr.cell? ⟨gb494, 6, none⟩ = some (.int .i64 x495006_1) := (blk_cell BK494.out 6).trans rfl
              have hcz15_7 : wr.cell? ⟨gb494, 7, none⟩ = some (.int .i64 x495007_1) := (blk_cell BK494.out 7).trans rfl
              have hcz15_8 : wr.cell? ⟨gb494, 8, none⟩ = some (.int .i64 x495008_1) := (blk_cell BK494.out 8).trans rfl
              have hcz15_9 : wr.cell? ⟨gb494, 9, none⟩ = some (.int .i64 x495009_1) := (blk_cell BK494.out 9).trans rfl
              have hcz15_10 : wr.cell? ⟨gb494, 10, none⟩ = some (.int .i64 x495010_1) := (blk_cell BK494.out 10).trans rfl
              have hfz15_0 := blk_frozen BK494.out 0
              have hfz15_1 := blk_frozen BK494.out 1
              have hfz15_2 := blk_frozen BK494.out 2
              have hfz15_3 := blk_frozen BK494.out 3
              have hfz15_4 := blk_frozen BK494.out 4
              have hfz15_5 := blk_frozen BK494.out 5
              have hfz15_6 := blk_frozen BK494.out 6
              have hfz15_7 := blk_frozen BK494.out 7
              have hfz15_8 := blk_frozen BK494.out 8
              have hfz15_9 := blk_frozen BK494.out 9
              have hfz15_10 := blk_frozen BK494.out 10
              go_wp2
              refine bodyPost_ret (results_ct rfl _ _ gb494 25 #[.int .i64 ((rd_T25 l0_0 x6_1).f0), .int .i64 ((rd_T25 l0_0 x6_1).f1.f0), .int .i64 ((rd_T25 l0_0 x6_1).f1.f1), .int .i64 ((rd_T25 l0_0 x6_1).f2.f0), .int .i64 ((rd_T25 l0_0 x6_1).f2.f1), .int .i64 ((rd_T25 l0_0 x6_1).f3.f0), .int .i64 ((rd_T25 l0_0 x6_1).f3.f1), .int .i64 ((rd_T25 l0_0 x6_1).f4), .int .i64 ((rd_T25 l0_0 x6_1).f5.f0), .int .i64 ((rd_T25 l0_0 x6_1).f5.f1), .int .i64 ((rd_T25 l0_0 x6_1).f6)] (0, 0) _ rfl (by (with_reducible repeat first | apply blk_drewN | apply blk_drew | apply blk_alloc); refine blk_put (cs := #[.int .i64 ((rd_T25 l0_0 x6_1).f0), .int .i64 ((rd_T25 l0_0 x6_1).f1.f0), .int .i64 ((rd_T25 l0_0 x6_1).f1.f1), .int .i64 ((rd_T25 l0_0 x6_1).f2.f0), .int .i64 ((rd_T25 l0_0 x6_1).f2.f1), .int .i64 ((rd_T25 l0_0 x6_1).f3.f0), .int .i64 ((rd_T25 l0_0 x6_1).f3.f1), .int .i64 ((rd_T25 l0_0 x6_1).f4), .int .i64 ((rd_T25 l0_0 x6_1).f5.f0), .int .i64 ((rd_T25 l0_0 x6_1).f5.f1), .int .i64 x495010_1]) ?_ 10 _ rfl; (with_reducible repeat first | apply blk_drewN | apply blk_drew | apply blk_alloc); refine blk_put (cs := #[.int .i64 ((rd_T25 l0_0 x6_1).f0), .int .i64 ((rd_T25 l0_0 x6_1).f1.f0), .int .i64 ((rd_T25 l0_0 x6_1).f1.f1), .int .i64 ((rd_T25 l0_0 x6_1).f2.f0), .int .i64 ((rd_T25 l0_0 x6_1).f2.f1), .int .i64 ((rd_T25 l0_0 x6_1).f3.f0), .int .i64 ((rd_T25 l0_0 x6_1).f3.f1), .int .i64 ((rd_T25 l0_0 x6_1).f4), .int .i64 ((rd_T25 l0_0 x6_1).f5.f0), .int .i64 x495009_1, .int .i64 x495010_1]) ?_ 9 _ rfl; (with_reducible repeat first | apply blk_drewN | apply blk_drew | apply blk_alloc); refine blk_put (cs := #[.int .i64 ((rd_T25 l0_0 x6_1).f0), .int .i64 ((rd_T25 l0_0 x6_1).f1.f0), .int .i64 ((rd_T25 l0_0 x6_1).f1.f1), .int .i64 ((rd_T25 l0_0 x6_1).f2.f0), .int .i64 ((rd_T25 l0_0 x6_1).f2.f1), .int .i64 ((rd_T25 l0_0 x6_1).f3.f0), .int .i64 ((rd_T25 l0_0 x6_1).f3.f1), .int .i64 ((rd_T25 l0_0 x6_1).f4), .int .i64 x495008_1, .int .i64 x495009_1, .int .i64 x495010_1]) ?_ 8 _ rfl; (with_reducible repeat first | apply blk_drewN | apply blk_drew | apply blk_alloc); refine blk_put (cs := #[.int .i64 ((rd_T25 l0_0 x6_1).f0), .int .i64 ((rd_T25 l0_0 x6_1).f1.f0), .int .i64 ((rd_T25 l0_0 x6_1).f1.f1), .int .i64 ((rd_T25 l0_0 x6_1).f2.f0), .int .i64 ((rd_T25 l0_0 x6_1).f2.f1), .int .i64 ((rd_T25 l0_0 x6_1).f3.f0), .int .i64 ((rd_T25 l0_0 x6_1).f3.f1), .int .i64 x495007_1, .int .i64 x495008_1, .int .i64 x495009_1, .int .i64 x495010_1]) ?_ 7 _ rfl; (with_reducible repeat first | apply blk_drewN | apply blk_drew | apply blk_alloc); refine blk_put (cs := #[.int .i64 ((rd_T25 l0_0 x6_1).f0), .int .i64 ((rd_T25 l0_0 x6_1).f1.f0), .int .i64 ((rd_T25 l0_0 x6_1).f1.f1), .int .i64 ((rd_T25 l0_0 x6_1).f2.f0), .int .i64 ((rd_T25 l0_0 x6_1).f2.f1), .int .i64 ((rd_T25 l0_0 x6_1).f3.f0), .int .i64 x495006_1, .int .i64 x495007_1, .int .i64 x495008_1, .int .i64 x495009_1, .int .i64 x495010_1]) ?_ 6 _ rfl; (with_reducible repeat first | apply blk_drewN | apply blk_drew | apply blk_alloc); refine blk_put (cs := #[.int .i64 ((rd_T25 l0_0 x6_1).f0), .int .i64 ((rd_T25 l0_0 x6_1).f1.f0), .int .i64 ((rd_T25 l0_0 x6_1).f1.f1), .int .i64 ((rd_T25 l0_0 x6_1).f2.f0), .int .i64 ((rd_T25 l0_0 x6_1).f2.f1), .int .i64 x495005_1, .int .i64 x495006_1, .int .i64 x495007_1, .int .i64 x495008_1, .int .i64 x495009_1, .int .i64 x495010_1]) ?_ 5 _ rfl; (with_reducible repeat first | apply blk_drewN | apply blk_drew | apply blk_alloc); refine blk_put (cs := #[.int .i64 ((rd_T25 l0_0 x6_1).f0), .int .i64 ((rd_T25 l0_0 x6_1).f1.f0), .int .i64 ((rd_T25 l0_0 x6_1).f1.f1), .int .i64 ((rd_T25 l0_0 x6_1).f2.f0), .int .i64 x495004_1, .int .i64 x495005_1, .int .i64 x495006_1, .int .i64 x495007_1, .int .i64 x495008_1, .int .i64 x495009_1, .int .i64 x495010_1]) ?_ 4 _ rfl; (with_reducible repeat first | apply blk_drewN | apply blk_drew | apply blk_alloc); refine blk_put (cs := #[.int .i64 ((rd_T25 l0_0 x6_1).f0), .int .i64 ((rd_T25 l0_0 x6_1).f1.f0), .int .i64 ((rd_T25 l0_0 x6_1).f1.f1), .int .i64 x495003_1, .int .i64 x495004_1, .int .i64 x495005_1, .int .i64 x495006_1, .int .i64 x495007_1, .int .i64 x495008_1, .int .i64 x495009_1, .int .i64 x495010_1]) ?_ 3 _ rfl; (with_reducible repeat first | apply blk_drewN | apply blk_drew | apply blk_alloc); refine blk_put (cs := #[.int .i64 ((rd_T25 l0_0 x6_1).f0), .int .i64 ((rd_T25 l0_0 x6_1).f1.f0), .int .i64 x495002_1, .int .i64 x495003_1, .int .i64 x495004_1, .int .i64 x495005_1, .int .i64 x495006_1, .int .i64 x495007_1, .int .i64 x495008_1, .int .i64 x495009_1, .int .i64 x495010_1]) ?_ 2 _ rfl; (with_reducible repeat first | apply blk_drewN | apply blk_drew | apply blk_alloc); refine blk_put (cs := #[.int .i64 ((rd_T25 l0_0 x6_1).f0), .int .i64 x495001_1, .int .i64 x495002_1, .int .i64 x495003_1, .int .i64 x495004_1, .int .i64 x495005_1, .int .i64 x495006_1, .int .i64 x495007_1, .int .i64 x495008_1, .int .i64 x495009_1, .int .i64 x495010_1]) ?_ 1 _ rfl; (with_reducible repeat first | apply blk_drewN | apply blk_drew | apply blk_alloc); refine blk_put (cs := #[.int .i64 x495000_1, .int .i64 x495001_1, .int .i64 x495002_1, .int .i64 x495003_1, .int .i64 x495004_1, .int .i64 x495005_1, .int .i64 x495006_1, .int .i64 x495007_1, .int .i64 x495008_1, .int .i64 x495009_1, .int .i64 x495010_1]) ?_ 0 _ rfl; (with_reducible repeat first | apply blk_drewN | apply blk_drew | apply blk_alloc); exact BK494.out) Try.underlying25 rfl (by kernel_rfl)) rfl ?_
              exact ⟨by first | rfl | (simp [errW_none, errW_some] <;> rfl) | (simp [*, errW_none, errW_some] <;> rfl), by repeat (first | (with_reducible first | exact HB.out | apply below_alloc | apply pw_below_drewN | apply below_drew1 | refine below_set ?_ GE493.out | refine below_set ?_ GE494.out) | exact HB.out)⟩
            · rw [if_neg c12] at H
              have c12b0 : (((rd_T25 l0_0 x6_1).f0) == a1) = false := beq_eq_false_iff_ne.mpr c12
              have c12b1 : (((rd_T25 l0_0 x6_1).f0) != a1) = true := bne_iff_ne.mpr c12
              have H' := Aside0.mk H
              clear H
              have hnb16 := NB493_494.out
              have hnc16 := NB494_493.out
              have hcz17_0 : wr.cell? ⟨gb493, 0, none⟩ = some (.slice A0_0 l0_0.length c0_0) := (blk_cell BK493.out 0).trans rfl
              have hcz17_1 : wr.cell? ⟨gb493, 1, none⟩ = some (.slice A0_1 l0_1.length c0_1) := (blk_cell BK493.out 1).trans rfl
              have hfz17_0 := blk_frozen BK493.out 0
              have hfz17_1 := blk_frozen BK493.out 1
              have p496 : 0 ≤ (x6_1 : Int) := of_decide_eq_true (by first | (with_reducible assumption) | assumption)
              have q496 : x6_1 < (l0_0.length : Int) := of_decide_eq_true (by first | (with_reducible assumption) | assumption)
              obtain ⟨ad496, e496, hx496_0, hx496_1, hx496_2, hx496_3, hx496_4, hx496_5, hx496_6, hx496_7, hx496_8, hx496_9, hx496_10⟩ := at_T25 HR0_0.out x6_1 p496 q496
              cases e496
              replace hx496_0 := (HB.out.cell (World.block_lt_of_cell? w _ hx496_0)).trans hx496_0
              replace hx496_1 := (HB.out.cell (World.block_lt_of_cell? w _ hx496_1)).trans hx496_1
              replace hx496_2 := (HB.out.cell (World.block_lt_of_cell? w _ hx496_2)).trans hx496_2
              replace hx496_3 := (HB.out.cell (World.block_lt_of_cell? w _ hx496_3)).trans hx496_3
              replace hx496_4 := (HB.out.cell (World.block_lt_of_cell? w _ hx496_4)).trans hx496_4
              replace hx496_5 := (HB.out.cell (World.block_lt_of_cell? w _ hx496_5)).trans hx496_5
              replace hx496_6 := (HB.out.cell (World.block_lt_of_cell? w _ hx496_6)).trans hx496_6
              replace hx496_7 := (HB.out.cell (World.block_lt_of_cell? w _ hx496_7)).trans hx496_7
              replace hx496_8 := (HB.out.cell (World.block_lt_of_cell? w _ hx496_8)).trans hx496_8
              replace hx496_9 := (HB.out.cell (World.block_lt_of_cell? w _ hx496_9)).trans hx496_9
              replace hx496_10 := (HB.out.cell (World.block_lt_of_cell? w _ hx496_10)).trans hx496_10
              replace p496 := eq_true p496
              replace q496 := eq_true q496
              go_wp2
              go_roundg k1
              case measure => have := HK1.out; omega
              case rel => exact ⟨(wrap64 (x6_1 + 1)), (x495000_1), (x495001_1), (x495002_1), (x495003_1), (x495004_1), (x495005_1), (x495006_1), (x495007_1), (x495008_1), (x495009_1), (x495010_1), (by first | rfl | (simp; done) | (simp [*]; done)), H', ⟨by have := HK1.out; omega⟩, ⟨by (with_reducible repeat first | apply blk_drewN | apply blk_drew | apply blk_alloc); exact BK493.out⟩, ⟨by (with_reducible repeat first | apply blk_drewN | apply blk_drew | apply blk_alloc); exact BK494.out⟩, ⟨by repeat (first | (with_reducible first | exact HB.out | apply below_alloc | apply pw_below_drewN | apply below_drew1 | refine below_set ?_ GE493.out | refine below_set ?_ GE494.out) | exact HB.out)⟩⟩
          · rw [if_neg c11] at H
            exact absurd H (by simp)
        · rw [if_neg c10] at H
          have c10b0 : decide (x6_1 < (l0_0.length : Int)) = false := decide_eq_false c10
          clear c10
          simp only [Option.some.injEq, Prod.mk.injEq] at H
          obtain ⟨rfl, rfl, rfl, rfl, rfl, rfl, rfl, rfl, rfl, rfl, rfl, rfl⟩ := H
          have hnb18 := NB493_494.out
          have hnc18 := NB494_493.out
          have hcz19_0 : wr.cell? ⟨gb493, 0, none⟩ = some (.slice A0_0 l0_0.length c0_0) := (blk_cell BK493.out 0).trans rfl
          have hcz19_1 : wr.cell? ⟨gb493, 1, none⟩ = some (.slice A0_1 l0_1.length c0_1) := (blk_cell BK493.out 1).trans rfl
          have hfz19_0 := blk_frozen BK493.out 0
          have hfz19_1 := blk_frozen BK493.out 1
          have hcz20_0 : wr.cell? ⟨gb494, 0, none⟩ = some (.int .i64 x495000_1) := (blk_cell BK494.out 0).trans rfl
          have hcz20_1 : wr.cell? ⟨gb494, 1, none⟩ = some (.int .i64 x495001_1) := (blk_cell BK494.out 1).trans rfl
          have hcz20_2 : wr.cell? ⟨gb494, 2, none⟩ = some (.int .i64 x495002_1) := (blk_cell BK494.out 2).trans rfl
          have hcz20_3 : wr.cell? ⟨gb494, 3, none⟩ = some (.int .i64 x495003_1) := (blk_cell BK494.out 3).trans rfl
          have hcz20_4 : wr.cell? ⟨gb494, 4, none⟩ = some (.int .i64 x495004_1) := (blk_cell BK494.out 4).trans rfl
          have hcz20_5 : wr.cell? ⟨gb494, 5, none⟩ = some (.int .i64 x495005_1) := (blk_cell BK494.out 5).trans rfl
          have hcz20_6 : wr.cell? ⟨gb494, 6, none⟩ = some (.int .i64 x495006_1) := (blk_cell BK494.out 6).trans rfl
          have hcz20_7 : wr.cell? ⟨gb494, 7, none⟩ = some (.int .i64 x495007_1) := (blk_cell BK494.out 7).trans rfl
          have hcz20_8 : wr.cell? ⟨gb494, 8, none⟩ = some (.int .i64 x495008_1) := (blk_cell BK494.out 8).trans rfl
          have hcz20_9 : wr.cell? ⟨gb494, 9, none⟩ = some (.int .i64 x495009_1) := (blk_cell BK494.out 9).trans rfl
          have hcz20_10 : wr.cell? ⟨gb494, 10, none⟩ = some (.int .i64 x495010_1) := (blk_cell BK494.out 10).trans rfl
          have hfz20_0 := blk_frozen BK494.out 0
          have hfz20_1 := blk_frozen BK494.out 1
          have hfz20_2 := blk_frozen BK494.out 2
          have hfz20_3 := blk_frozen BK494.out 3
          have hfz20_4 := blk_frozen BK494.out 4
          have hfz20_5 := blk_frozen BK494.out 5
          have hfz20_6 := blk_frozen BK494.out 6
          have hfz20_7 := blk_frozen BK494.out 7
          have hfz20_8 := blk_frozen BK494.out 8
          have hfz20_9 := blk_frozen BK494.out 9
          have hfz20_10 := blk_frozen BK494.out 10
          go_wp2
          refine bodyPost_ret (results_ct rfl _ _ gb494 25 #[.int .i64 0, .int .i64 0, .int .i64 0, .int .i64 0, .int .i64 0, .int .i64 0, .int .i64 0, .int .i64 0, .int .i64 0, .int .i64 0, .int .i64 0] (0, 0) _ rfl (by (with_reducible repeat first | apply blk_drewN | apply blk_drew | apply blk_alloc); refine blk_put (cs := #[.int .i64 0, .int .i64 0, .int .i64 0, .int .i64 0, .int .i64 0, .int .i64 0, .int .i64 0, .int .i64 0, .int .i64 0, .int .i64 0, .int .i64 x495010_1]) ?_ 10 _ rfl; (with_reducible repeat first | apply blk_drewN | apply blk_drew | apply blk_alloc); refine blk_put (cs := #[.int .i64 0, .int .i64 0, .int .i64 0, .int .i64 0, .int .i64 0, .int .i64 0, .int .i64 0, .int .i64 0, .int .i64 0, .int .i64 x495009_1, .int .i64 x495010_1]) ?_ 9 _ rfl; (with_reducible repeat first | apply blk_drewN | apply blk_drew | apply blk_alloc); refine blk_put (cs := #[.int .i64 0, .int .i64 0, .int .i64 0, .int .i64 0, .int .i64 0, .int .i64 0, .int .i64 0, .int .i64 0, .int .i64 x495008_1, .int .i64 x495009_1, .int .i64 x495010_1]) ?_ 8 _ rfl; (with_reducible repeat first | apply blk_drewN | apply blk_drew | apply blk_alloc); refine blk_put (cs := #[.int .i64 0, .int .i64 0, .int .i64 0, .int .i64 0, .int .i64 0, .int .i64 0, .int .i64 0, .int .i64 x495007_1, .int .i64 x495008_1, .int .i64 x495009_1, .int .i64 x495010_1]) ?_ 7 _ rfl; (with_reducible repeat first | apply blk_drewN | apply blk_drew | apply blk_alloc); refine blk_put (cs := #[.int .i64 0, .int .i64 0, .int .i64 0, .int .i64 0, .int .i64 0, .int .i64 0, .int .i64 x495006_1, .int .i64 x495007_1, .int .i64 x495008_1, .int .i64 x495009_1, .int .i64 x495010_1]) ?_ 6 _ rfl; (with_reducible repeat first | apply blk_drewN | apply blk_drew | apply blk_alloc); refine blk_put (cs := #[.int .i64 0, .int .i64 0, .int .i64 0, .int .i64 0, .int .i64 0, .int .i64 x495005_1, .int .i64 x495006_1, .int .i64 x495007_1, .int .i64 x495008_1, .int .i64 x495009_1, .int .i64 x495010_1]) ?_ 5 _ rfl; (with_reducible repeat first | apply blk_drewN | apply blk_drew | apply blk_alloc); refine blk_put (cs := #[.int .i64 0, .int .i64 0, .int .i64 0, .int .i64 0, .int .i64 x495004_1, .int .i64 x495005_1, .int .i64 x495006_1, .int .i64 x495007_1, .int .i64 x495008_1, .int .i64 x495009_1, .int .i64 x495010_1]) ?_ 4 _ rfl; (with_reducible repeat first | apply blk_drewN | apply blk_drew | apply blk_alloc); refine blk_put (cs := #[.int .i64 0, .int .i64 0, .int .i64 0, .int .i64 x495003_1, .int .i64 x495004_1, .int .i64 x495005_1, .int .i64 x495006_1, .int .i64 x495007_1, .int .i64 x495008_1, .int .i64 x495009_1, .int .i64 x495010_1]) ?_ 3 _ rfl; (with_reducible repeat first | apply blk_drewN | apply blk_drew | apply blk_alloc); refine blk_put (cs := #[.int .i64 0, .int .i64 0, .int .i64 x495002_1, .int .i64 x495003_1, .int .i64 x495004_1, .int .i64 x495005_1, .int .i64 x495006_1, .int .i64 x495007_1, .int .i64 x495008_1, .int .i64 x495009_1, .int .i64 x495010_1]) ?_ 2 _ rfl; (with_reducible repeat first | apply blk_drewN | apply blk_drew | apply blk_alloc); refine blk_put (cs := #[.int .i64 0, .int .i64 x495001_1, .int .i64 x495002_1, .int .i64 x495003_1, .int .i64 x495004_1, .int .i64 x495005_1, .int .i64 x495006_1, .int .i64 x495007_1, .int .i64 x495008_1, .int .i64 x495009_1, .int .i64 x495010_1]) ?_ 1 _ rfl; (with_reducible repeat first | apply blk_drewN | apply blk_drew | apply blk_alloc); refine blk_put (cs := #[.int .i64 x495000_1, .int .i64 x495001_1, .int .i64 x495002_1, .int .i64 x495003_1, .int .i64 x495004_1, .int .i64 x495005_1, .int .i64 x495006_1, .int .i64 x495007_1, .int .i64 x495008_1, .int .i64 x495009_1, .int .i64 x495010_1]) ?_ 0 _ rfl; (with_reducible repeat first | apply blk_drewN | apply blk_drew | apply blk_alloc); exact BK494.out) Try.underlying25 rfl (by kernel_rfl)) rfl ?_
          exact ⟨by first | rfl | (simp [errW_none, errW_some] <;> rfl) | (simp [*, errW_none, errW_some] <;> rfl), by repeat (first | (with_reducible first | exact HB.out | apply below_alloc | apply pw_below_drewN | apply below_drew1 | refine below_set ?_ GE493.out | refine below_set ?_ GE494.out) | exact HB.out)⟩
  · rw [if_neg c4] at H
    have c4b0 : (t495 == 0) = false := beq_eq_false_iff_ne.mpr c4
    have c4b1 : (t495 != 0) = true := bne_iff_ne.mpr c4
    simp only [Option.some.injEq, Prod.mk.injEq] at H
    obtain ⟨rfl, rfl, rfl, rfl, rfl, rfl, rfl, rfl, rfl, rfl, rfl, rfl⟩ := H
    go_enter Try.func39, Try.ntmps39
    go_wp2_with (first | ((with_reducible refine gate_dst (N := 2) rfl ?_); refine box_event ?hg (N := 2) ?hd (cs := #[.slice A0_0 l0_0.length c0_0, .slice A0_1 l0_1.length c0_1]) (t := 66) ?hr ?_; (case hd => rfl); (case hg => rfl); (case hr => first | (go_simp; done) | (go_simp; rfl)); intro gb493 hg w21 hbox hb; have BK493 := Aside0.mk (hbox); have GW493 := Aside0.mk ((by rw [hg]; exact (below_size (by repeat (first | (with_reducible first | exact HB.out | apply below_alloc | apply pw_below_drewN | apply below_drew1) | exact HB.out))) : w.heap.size ≤ gb493)); have GE493 := Aside0.mk ((by rw [hg]; exact (below_size (by repeat (first | (with_reducible first | exact HB.out | apply below_alloc | apply pw_below_drewN | apply below_drew1) | exact HB.out))) : w.heap.size ≤ gb493)); replace HB := Aside0.mk (below_step (by repeat (first | (with_reducible first | exact HB.out | apply below_alloc | apply pw_below_drewN | apply below_drew1) | exact HB.out)) hb); clear hb hbox hg) | ((with_reducible refine gate_dst (N := 4) rfl ?_); refine box_event ?hg (N := 4) ?hd (cs := #[.int .i64 0, .int .i64 0, .int .i64 0, .int .i64 0, .int .i64 0, .int .i64 0, .int .i64 0, .int .i64 0, .int .i64 0, .int .i64 0, .int .i64 0]) (t := 25) ?hr ?_; (case hd => rfl); (case hg => rfl); (case hr => first | (go_simp; done) | (go_simp; rfl)); intro gb494 hg w22 hbox hb; have BK494 := Aside0.mk (hbox); have GW494 := Aside0.mk ((by rw [hg]; exact (below_size (by repeat (first | (with_reducible first | exact HB.out | apply below_alloc | apply pw_below_drewN | apply below_drew1 | refine below_set ?_ GE493.out) | exact HB.out))) : w.heap.size ≤ gb494)); have GE494 := Aside0.mk ((by rw [hg]; exact (below_size (by repeat (first | (with_reducible first | exact HB.out | apply below_alloc | apply pw_below_drewN | apply below_drew1 | refine below_set ?_ GE493.out) | exact HB.out))) : w.heap.size ≤ gb494)); replace HB := Aside0.mk (below_step (by repeat (first | (with_reducible first | exact HB.out | apply below_alloc | apply pw_below_drewN | apply below_drew1 | refine below_set ?_ GE493.out) | exact HB.out)) hb); have NB493_494 := Aside0.mk ((by rw [hg]; exact Nat.ne_of_lt (blk_lt (g := gb493) (o := .cells #[.slice A0_0 l0_0.length c0_0, .slice A0_1 l0_1.length c0_1] 66 (0, 0)) (by (with_reducible repeat first | apply blk_drewN | apply blk_drew | apply blk_alloc); exact BK493.out)) : gb493 ≠ gb494)); have NB494_493 := Aside0.mk ((by rw [hg]; exact Nat.ne_of_gt (blk_lt (g := gb493) (o := .cells #[.slice A0_0 l0_0.length c0_0, .slice A0_1 l0_1.length c0_1] 66 (0, 0)) (by (with_reducible repeat first | apply blk_drewN | apply blk_drew | apply blk_alloc); exact BK493.out)) : gb494 ≠ gb493)); replace BK493 := blkE BK493 hb; clear hb hbox hg; have hnb23 := NB493_494.out; have hnc23 := NB494_493.out; obtain ⟨hcz24_0, hcz24_1⟩ := cells2 BK493.out; obtain ⟨hfz24_0, hfz24_1⟩ := froz2 BK493.out) | ((with_reducible refine gate_callee (f := 44) rfl ?_); refine goesL_ (some 8) rfl rfl Try.func44 (by kernel_rfl) rfl #[.agg #[.slice A0_0 l0_0.length c0_0, .slice A0_1 l0_1.length c0_1]] rfl (by (try simp only [List.map_toArray, List.map_cons, List.map_nil]); first | done | rfl | (simp only [List.length_drop, List.length_take]; rfl)) ?_; (with_reducible refine (potbankref01_Check.calls k _ _ l0_0 _ _ l0_1 t495 _ ?side1 ?side2 ?side3 ?side4 A3.out).mono ?_); (case side1 => repeat (first | exact (Kd.C_below HR0_0.out HB.out) | (with_reducible refine Kd.C_alloc ?_ _) | (with_reducible refine Kd.C_drewN ?_ _) | (with_reducible refine Kd.C_drew ?_))); (case side2 => exact HC0_0.out); (case side3 => repeat (first | exact (Kd.C_below HR0_1.out HB.out) | (with_reducible refine Kd.C_alloc ?_ _) | (with_reducible refine Kd.C_drewN ?_ _) | (with_reducible refine Kd.C_drew ?_))); (case side4 => exact HC0_1.out); rintro e w25 ⟨rfl, hb⟩; refine ⟨_, rfl, ?_⟩; replace BK493 := blkE BK493 hb; replace BK494 := blkE BK494 hb; replace HB := Aside0.mk (below_step (by repeat (first | (with_reducible first | exact HB.out | apply below_alloc | apply pw_below_drewN | apply below_drew1 | refine below_set ?_ GE493.out | refine below_set ?_ GE494.out) | exact HB.out)) hb); (try clear hb); (try clear hb2); (try clear hk); (try clear hi); obtain ⟨hcz26_0, hcz26_1, hcz26_2, hcz26_3, hcz26_4, hcz26_5, hcz26_6, hcz26_7, hcz26_8, hcz26_9, hcz26_10⟩ := cells11 BK494.out; obtain ⟨hfz26_0, hfz26_1, hfz26_2, hfz26_3, hfz26_4, hfz26_5, hfz26_6, hfz26_7, hfz26_8, hfz26_9, hfz26_10⟩ := froz11 BK494.out))
    refine bodyPost_ret (results_ct rfl _ _ gb494 25 #[.int .i64 0, .int .i64 0, .int .i64 0, .int .i64 0, .int .i64 0, .int .i64 0, .int .i64 0, .int .i64 0, .int .i64 0, .int .i64 0, .int .i64 0] (0, 0) _ rfl (by (with_reducible repeat first | apply blk_drewN | apply blk_drew | apply blk_alloc); refine blk_put (cs := #[.int .i64 0, .int .i64 0, .int .i64 0, .int .i64 0, .int .i64 0, .int .i64 0, .int .i64 0, .int .i64 0, .int .i64 0, .int .i64 0, .int .i64 0]) ?_ 10 _ rfl; (with_reducible repeat first | apply blk_drewN | apply blk_drew | apply blk_alloc); refine blk_put (cs := #[.int .i64 0, .int .i64 0, .int .i64 0, .int .i64 0, .int .i64 0, .int .i64 0, .int .i64 0, .int .i64 0, .int .i64 0, .int .i64 0, .int .i64 0]) ?_ 9 _ rfl; (with_reducible repeat first | apply blk_drewN | apply blk_drew | apply blk_alloc); refine blk_put (cs := #[.int .i64 0, .int .i64 0, .int .i64 0, .int .i64 0, .int .i64 0, .int .i64 0, .int .i64 0, .int .i64 0, .int .i64 0, .int .i64 0, .int .i64 0]) ?_ 8 _ rfl; (with_reducible repeat first | apply blk_drewN | apply blk_drew | apply blk_alloc); refine blk_put (cs := #[.int .i64 0, .int .i64 0, .int .i64 0, .int .i64 0, .int .i64 0, .int .i64 0, .int .i64 0, .int .i64 0, .int .i64 0, .int .i64 0, .int .i64 0]) ?_ 7 _ rfl; (with_reducible repeat first | apply blk_drewN | apply blk_drew | apply blk_alloc); refine blk_put (cs := #[.int .i64 0, .int .i64 0, .int .i64 0, .int .i64 0, .int .i64 0, .int .i64 0, .int .i64 0, .int .i64 0, .int .i64 0, .int .i64 0, .int .i64 0]) ?_ 6 _ rfl; (with_reducible repeat first | apply blk_drewN | apply blk_drew | apply blk_alloc); refine blk_put (cs := #[.int .i64 0, .int .i64 0, .int .i64 0, .int .i64 0, .int .i64 0, .int .i64 0, .int .i64 0, .int .i64 0, .int .i64 0, .int .i64 0, .int .i64 0]) ?_ 5 _ rfl; (with_reducible repeat first | apply blk_drewN | apply blk_drew | apply blk_alloc); refine blk_put (cs := #[.int .i64 0, .int .i64 0, .int .i64 0, .int .i64 0, .int .i64 0, .int .i64 0, .int .i64 0, .int .i64 0, .int .i64 0, .int .i64 0, .int .i64 0]) ?_ 4 _ rfl; (with_reducible repeat first | apply blk_drewN | apply blk_drew | apply blk_alloc); refine blk_put (cs := #[.int .i64 0, .int .i64 0, .int .i64 0, .int .i64 0, .int .i64 0, .int .i64 0, .int .i64 0, .int .i64 0, .int .i64 0, .int .i64 0, .int .i64 0]) ?_ 3 _ rfl; (with_reducible repeat first | apply blk_drewN | apply blk_drew | apply blk_alloc); refine blk_put (cs := #[.int .i64 0, .int .i64 0, .int .i64 0, .int .i64 0, .int .i64 0, .int .i64 0, .int .i64 0, .int .i64 0, .int .i64 0, .int .i64 0, .int .i64 0]) ?_ 2 _ rfl; (with_reducible repeat first | apply blk_drewN | apply blk_drew | apply blk_alloc); refine blk_put (cs := #[.int .i64 0, .int .i64 0, .int .i64 0, .int .i64 0, .int .i64 0, .int .i64 0, .int .i64 0, .int .i64 0, .int .i64 0, .int .i64 0, .int .i64 0]) ?_ 1 _ rfl; (with_reducible repeat first | apply blk_drewN | apply blk_drew | apply blk_alloc); refine blk_put (cs := #[.int .i64 0, .int .i64 0, .int .i64 0, .int .i64 0, .int .i64 0, .int .i64 0, .int .i64 0, .int .i64 0, .int .i64 0, .int .i64 0, .int .i64 0]) ?_ 0 _ rfl; (with_reducible repeat first | apply blk_drewN | apply blk_drew | apply blk_alloc); exact BK494.out) Try.underlying25 rfl (by kernel_rfl)) rfl ?_
    exact ⟨by first | rfl | (simp [errW_none, errW_some] <;> rfl) | (simp [*, errW_none, errW_some] <;> rfl), by repeat (first | (with_reducible first | exact HB.out | apply below_alloc | apply pw_below_drewN | apply below_drew1 | refine below_set ?_ GE493.out | refine below_set ?_ GE494.out) | exact HB.out)⟩

end Go.Proofs.Ytcgokimagimamaa.F
