/- Written by a program of mine out of the translation: what functions answer; Lean checks it. -/
import Derived.Test.YtcgokimagimamaaMRowCh1
import Derived.Test.YtcgokimagimamaaF44
namespace Go.Proofs.Ytcgokimagimamaa.F
open Go.RowKit Go.Proofs.YtcgokimagimamaaW.PrintWords Go.Proofs.YtcgokimagimamaaW.PrintLast Go.Proofs.YtcgokimagimamaaW.PrintMore
attribute [local go_sem] max2_int min2_int max_two min_two max_three min_three max_four min_four   -- for this text's walks alone
set_option linter.unusedVariables false
set_option linter.unusedSimpArgs false
/-! ### potbankref01_Body: function 41 -/
def potbankref01_Body.l0 : Nat → Int → Int → List (S25) → List (S43) → Option (Int × Int × Int × Int × Int × Int × Int × Int)
  | 0, _, _, _, _ => none
  | k + 1, x1, x6, x519000, x519001 => if x6 < (x519001.length : Int) then (if 0 ≤ x6 then (if ((rd_T43 x519001 x6).f0) = x1 then (some ((rd_T43 x519001 x6).f0, (rd_T43 x519001 x6).f1.f0, (rd_T43 x519001 x6).f1.f1, (rd_T43 x519001 x6).f2.f0, (rd_T43 x519001 x6).f2.f1, (rd_T43 x519001 x6).f3.f0, (rd_T43 x519001 x6).f3.f1, 0)) else (potbankref01_Body.l0 k x1 (wrap64 (x6 + 1)) x519000 x519001)) else (none)) else (some (0, 0, 0, 0, 0, 0, 0, 3))
def potbankref01_Body.f (k : Nat) (l0_0 : List (S25)) (l0_1 : List (S43)) (a1 : Int) : Option (Int × Int × Int × Int × Int × Int × Int × Int) := (potbankref01_Check.f k l0_0 l0_1).bind fun t520 => (if t520 = 0 then (potbankref01_Body.l0 k a1 0 l0_0 l0_1) else (some (0, 0, 0, 0, 0, 0, 0, 12)))
theorem potbankref01_Body.mono_l : ∀ k, (∀ y0 y1 y2 y3, LeO (potbankref01_Body.l0 k y0 y1 y2 y3) (potbankref01_Body.l0 (k + 1) y0 y1 y2 y3))
  | 0 => fun _ _ _ _ r h => by simp [potbankref01_Body.l0] at h
  | k + 1 => by
    have ih0 := potbankref01_Body.mono_l k
    · intro y0 y1 y2 y3
      unfold potbankref01_Body.l0
      repeat' first
      | (with_reducible exact ih0 _ _ _ _)
      | (with_reducible exact potbankref01_Check.mono _ _ _)
      | (with_reducible exact LeO.refl _)
      | (with_reducible exact LeO.none _)
      | (with_reducible refine LeO.ite ?_ ?_)
      | (with_reducible refine LeO.bind ?_ (fun _ => ?_))
      | exact ih0 _ _ _ _
      | exact potbankref01_Check.mono _ _ _
      | exact LeO.none _
      | refine LeO.ite ?_ ?_
      | refine LeO.bind ?_ (fun _ => ?_)
theorem potbankref01_Body.mono : ∀ a0 a1 a2 k, LeO (potbankref01_Body.f k a0 a1 a2) (potbankref01_Body.f (k + 1) a0 a1 a2) := by
  intro a0 a1 a2 k
  have ih0 := potbankref01_Body.mono_l k
  unfold potbankref01_Body.f
  repeat' first
      | (with_reducible exact ih0 _ _ _ _)
      | (with_reducible exact potbankref01_Check.mono _ _ _)
      | (with_reducible exact LeO.refl _)
      | (with_reducible exact LeO.none _)
      | (with_reducible refine LeO.ite ?_ ?_)
      | (with_reducible refine LeO.bind ?_ (fun _ => ?_))
      | exact ih0 _ _ _ _
      | exact potbankref01_Check.mono _ _ _
      | exact LeO.none _
      | refine LeO.ite ?_ ?_
      | refine LeO.bind ?_ (fun _ => ?_)
set_option maxHeartbeats 8000000 in
set_option maxRecDepth 100000 in
theorem potbankref01_Body.calls (k : Nat) (A0_0 : Option Addr) (c0_0 : Nat) (l0_0 : List (S25)) (A0_1 : Option Addr) (c0_1 : Nat) (l0_1 : List (S43)) (a1 : Int) (r1 : Int) (r2 : Int) (r3 : Int) (r4 : Int) (r5 : Int) (r6 : Int) (r7 : Int) (r8 : Int) (w : World) (hr0_0 : Kd.C k25 w A0_0 l0_0.length l0_0) (hc0_0 : l0_0.length ≤ c0_0) (hr0_1 : Kd.C k43 w A0_1 l0_1.length l0_1) (hc0_1 : l0_1.length ≤ c0_1) (h : potbankref01_Body.f k l0_0 l0_1 a1 = some (r1, r2, r3, r4, r5, r6, r7, r8)) :
    Calls Try.prog 41 #[.agg #[.slice A0_0 l0_0.length c0_0, .slice A0_1 l0_1.length c0_1], .int .i64 a1] w fun e w' => e = .returned (.tuple #[.agg #[.int .i64 r1, .int .i64 r2, .int .i64 r3, .int .i64 r4, .int .i64 r5, .int .i64 r6, .int .i64 r7], .int .i64 r8]) ∧ Below w.heap.size w w' := by
  have hu66 := Try.underlying66
  have hu43 := Try.underlying43
  have HR0_0 := Aside0.mk hr0_0
  have HC0_0 := Aside0.mk hc0_0
  clear hr0_0 hc0_0
  have HR0_1 := Aside0.mk hr0_1
  have HC0_1 := Aside0.mk hc0_1
  clear hr0_1 hc0_1
  have HB := Aside0.mk (Below.refl w.heap.size w)
  have H : ((potbankref01_Check.f k l0_0 l0_1).bind fun t520 => (if t520 = 0 then (potbankref01_Body.l0 k a1 0 l0_0 l0_1) else (some (0, 0, 0, 0, 0, 0, 0, 12)))) = some (r1, r2, r3, r4, r5, r6, r7, r8) := h
  clear h
  replace H := Option.bind_eq_some_iff.mp H
  obtain ⟨t520, A30, H⟩ := H
  replace H : (if t520 = 0 then (potbankref01_Body.l0 k a1 0 l0_0 l0_1) else (some (0, 0, 0, 0, 0, 0, 0, 12))) = some (r1, r2, r3, r4, r5, r6, r7, r8) := H
  have A3 := Aside0.mk A30
  clear A30
  by_cases c4 : t520 = 0
  · rw [if_pos c4] at H
    have c4b0 : (t520 == 0) = true := beq_iff_eq.mpr c4
    have c4b1 : (t520 != 0) = false := bne_eq_false_iff_eq.mpr c4
    clear c4
    have H' := Aside0.mk H
    clear H
    go_enter Try.func41, Try.ntmps41
    go_wp2_with (first | ((with_reducible refine gate_dst (N := 2) rfl ?_); refine box_event ?hg (N := 2) ?hd (cs := #[.slice A0_0 l0_0.length c0_0, .slice A0_1 l0_1.length c0_1]) (t := 66) ?hr ?_; (case hd => rfl); (case hg => rfl); (case hr => first | (go_simp; done) | (go_simp; rfl)); intro gb518 hg w5 hbox hb; have BK518 := Aside0.mk (hbox); have GW518 := Aside0.mk ((by rw [hg]; exact (below_size (by repeat (first | (with_reducible first | exact HB.out | apply below_alloc | apply pw_below_drewN | apply below_drew1) | exact HB.out))) : w.heap.size ≤ gb518)); have GE518 := Aside0.mk ((by rw [hg]; exact (below_size (by repeat (first | (with_reducible first | exact HB.out | apply below_alloc | apply pw_below_drewN | apply below_drew1) | exact HB.out))) : w.heap.size ≤ gb518)); replace HB := Aside0.mk (below_step (by repeat (first | (with_reducible first | exact HB.out | apply below_alloc | apply pw_below_drewN | apply below_drew1) | exact HB.out)) hb); clear hb hbox hg) | ((with_reducible refine gate_dst (N := 4) rfl ?_); refine box_event ?hg (N := 4) ?hd (cs := #[.int .i64 0, .int .i64 0, .int .i64 0, .int .i64 0, .int .i64 0, .int .i64 0, .int .i64 0]) (t := 43) ?hr ?_; (case hd => rfl); (case hg => rfl); (case hr => first | (go_simp; done) | (go_simp; rfl)); intro gb519 hg w6 hbox hb; have BK519 := Aside0.mk (hbox); have GW519 := Aside0.mk ((by rw [hg]; exact (below_size (by repeat (first | (with_reducible first | exact HB.out | apply below_alloc | apply pw_below_drewN | apply below_drew1 | refine below_set ?_ GE518.out) | exact HB.out))) : w.heap.size ≤ gb519)); have GE519 := Aside0.mk ((by rw [hg]; exact (below_size (by repeat (first | (with_reducible first | exact HB.out | apply below_alloc | apply pw_below_drewN | apply below_drew1 | refine below_set ?_ GE518.out) | exact HB.out))) : w.heap.size ≤ gb519)); replace HB := Aside0.mk (below_step (by repeat (first | (with_reducible first | exact HB.out | apply below_alloc | apply pw_below_drewN | apply below_drew1 | refine below_set ?_ GE518.out) | exact HB.out)) hb); have NB518_519 := Aside0.mk ((by rw [hg]; exact Nat.ne_of_lt (blk_lt (g := gb518) (o := .cells #[.slice A0_0 l0_0.length c0_0, .slice A0_1 l0_1.length c0_1] 66 (0, 0)) (by (with_reducible repeat first | apply blk_drewN | apply blk_drew | apply blk_alloc); exact BK518.out)) : gb518 ≠ gb519)); have NB519_518 := Aside0.mk ((by rw [hg]; exact Nat.ne_of_gt (blk_lt (g := gb518) (o := .cells #[.slice A0_0 l0_0.length c0_0, .slice A0_1 l0_1.length c0_1] 66 (0, 0)) (by (with_reducible repeat first | apply blk_drewN | apply blk_drew | apply blk_alloc); exact BK518.out)) : gb519 ≠ gb518)); replace BK518 := blkE BK518 hb; clear hb hbox hg; have hnb7 := NB518_519.out; have hnc7 := NB519_518.out; obtain ⟨hcz8_0, hcz8_1⟩ := cells2 BK518.out; obtain ⟨hfz8_0, hfz8_1⟩ := froz2 BK518.out) | ((with_reducible refine gate_callee (f := 44) rfl ?_); refine goesL_ (some 8) rfl rfl Try.func44 (by kernel_rfl) rfl #[.agg #[.slice A0_0 l0_0.length c0_0, .slice A0_1 l0_1.length c0_1]] rfl (by (try simp only [List.map_toArray, List.map_cons, List.map_nil]); first | done | rfl | (simp only [List.length_drop, List.length_take]; rfl)) ?_; (with_reducible refine (potbankref01_Check.calls k _ _ l0_0 _ _ l0_1 t520 _ ?side1 ?side2 ?side3 ?side4 A3.out).mono ?_); (case side1 => repeat (first | exact (Kd.C_below HR0_0.out HB.out) | (with_reducible refine Kd.C_alloc ?_ _) | (with_reducible refine Kd.C_drewN ?_ _) | (with_reducible refine Kd.C_drew ?_))); (case side2 => exact HC0_0.out); (case side3 => repeat (first | exact (Kd.C_below HR0_1.out HB.out) | (with_reducible refine Kd.C_alloc ?_ _) | (with_reducible refine Kd.C_drewN ?_ _) | (with_reducible refine Kd.C_drew ?_))); (case side4 => exact HC0_1.out); rintro e w9 ⟨rfl, hb⟩; refine ⟨_, rfl, ?_⟩; replace BK518 := blkE BK518 hb; replace BK519 := blkE BK519 hb; replace HB := Aside0.mk (below_step (by repeat (first | (with_reducible first | exact HB.out | apply below_alloc | apply pw_below_drewN | apply below_drew1 | refine below_set ?_ GE518.out | refine below_set ?_ GE519.out) | exact HB.out)) hb); (try clear hb); (try clear hb2); (try clear hk); (try clear hi)))
    go_loopg [6] k (fun kq v6 w' => ∃ (x6_1 : Int) (x520000_1 : Int) (x520001_1 : Int) (x520002_1 : Int) (x520003_1 : Int) (x520004_1 : Int) (x520005_1 : Int) (x520006_1 : Int), v6 = .int .i64 x6_1 ∧ Aside0 (potbankref01_Body.l0 kq a1 x6_1 l0_0 l0_1 = some (r1, r2, r3, r4, r5, r6, r7, r8)) ∧ Aside0 (kq ≤ k) ∧ Aside0 (w'.heap[gb518]? = some (.cells #[(.slice A0_0 l0_0.length c0_0), (.slice A0_1 l0_1.length c0_1)] 66 (0, 0))) ∧ Aside0 (w'.heap[gb519]? = some (.cells #[.int .i64 x520000_1, .int .i64 x520001_1, .int .i64 x520002_1, .int .i64 x520003_1, .int .i64 x520004_1, .int .i64 x520005_1, .int .i64 x520006_1] 43 (0, 0))) ∧ Aside0 (Below w.heap.size w w'))
    case atStart => exact ⟨(0), (0), (0), (0), (0), (0), (0), (0), (by first | rfl | (simp; done) | (simp [*]; done)), H', ⟨Nat.le_refl _⟩, ⟨by (with_reducible repeat first | apply blk_drewN | apply blk_drew | apply blk_alloc); exact BK518.out⟩, ⟨by (with_reducible repeat first | apply blk_drewN | apply blk_drew | apply blk_alloc); exact BK519.out⟩, ⟨by repeat (first | (with_reducible first | exact HB.out | apply below_alloc | apply pw_below_drewN | apply below_drew1 | refine below_set ?_ GE518.out | refine below_set ?_ GE519.out) | exact HB.out)⟩⟩
    case round =>
      clear H'
      try clear p2
      try clear c4
      try clear c4b0
      try clear c4b1
      try clear c7
      try clear hcz8_0
      try clear hcz8_1
      try clear hfz8_0
      try clear hfz8_1
      obtain ⟨x6_1, x520000_1, x520001_1, x520002_1, x520003_1, x520004_1, x520005_1, x520006_1, rfl, HA, HK1, BK518, BK519, HB⟩ := hrel
      cases gk with
      | zero => exact absurd HA.out (by simp [potbankref01_Body.l0])
      | succ k1 =>
        have H := HA.out
        clear HA
        simp only [potbankref01_Body.l0] at H
        by_cases c10 : x6_1 < (l0_1.length : Int)
        · rw [if_pos c10] at H
          have c10b0 : decide (x6_1 < (l0_1.length : Int)) = true := decide_eq_true c10
          clear c10
          by_cases c11 : 0 ≤ x6_1
          · rw [if_pos c11] at H
            have c11b0 : decide (0 ≤ x6_1) = true := decide_eq_true c11
            clear c11
            by_cases c12 : ((rd_T43 l0_1 x6_1).f0) = a1
            · rw [if_pos c12] at H
              have c12b0 : (((rd_T43 l0_1 x6_1).f0) == a1) = true := beq_iff_eq.mpr c12
              have c12b1 : (((rd_T43 l0_1 x6_1).f0) != a1) = false := bne_eq_false_iff_eq.mpr c12
              clear c12
              simp only [Option.some.injEq, Prod.mk.injEq] at H
              obtain ⟨rfl, rfl, rfl, rfl, rfl, rfl, rfl, rfl⟩ := H
              have hnb13 := NB518_519.out
              have hnc13 := NB519_518.out
              have hcz14_0 : wr.cell? ⟨gb518, 0, none⟩ = some (.slice A0_0 l0_0.length c0_0) := (blk_cell BK518.out 0).trans rfl
              have hcz14_1 : wr.cell? ⟨gb518, 1, none⟩ = some (.slice A0_1 l0_1.length c0_1) := (blk_cell BK518.out 1).trans rfl
              have hfz14_0 := blk_frozen BK518.out 0
              have hfz14_1 := blk_frozen BK518.out 1
              have p521 : 0 ≤ (x6_1 : Int) := of_decide_eq_true (by first | (with_reducible assumption) | assumption)
              have q521 : x6_1 < (l0_1.length : Int) := of_decide_eq_true (by first | (with_reducible assumption) | assumption)
              obtain ⟨ad521, e521, hx521_0, hx521_1, hx521_2, hx521_3, hx521_4, hx521_5, hx521_6⟩ := at_T43 HR0_1.out x6_1 p521 q521
              cases e521
              replace hx521_0 := (HB.out.cell (World.block_lt_of_cell? w _ hx521_0)).trans hx521_0
              replace hx521_1 := (HB.out.cell (World.block_lt_of_cell? w _ hx521_1)).trans hx521_1
              replace hx521_2 := (HB.out.cell (World.block_lt_of_cell? w _ hx521_2)).trans hx521_2
              replace hx521_3 := (HB.out.cell (World.block_lt_of_cell? w _ hx521_3)).trans hx521_3
              replace hx521_4 := (HB.out.cell (World.block_lt_of_cell? w _ hx521_4)).trans hx521_4
              replace hx521_5 := (HB.out.cell (World.block_lt_of_cell? w _ hx521_5)).trans hx521_5
              replace hx521_6 := (HB.out.cell (World.block_lt_of_cell? w _ hx521_6)).trans hx521_6
              replace p521 := eq_true p521
              replace q521 := eq_true q521
              have p522 : 0 ≤ (x6_1 : Int) := of_decide_eq_true (by first | (with_reducible assumption) | assumption)
              have q522 : x6_1 < (l0_1.length : Int) := of_decide_eq_true (by first | (with_reducible assumption) | assumption)
              obtain ⟨ad522, e522, hx522_0, hx522_1, hx522_2, hx522_3, hx522_4, hx522_5, hx522_6⟩ := at_T43 HR0_1.out x6_1 p522 q522
              obtain rfl : ad521 = ad522 := (by injection e522)
              replace hx522_0 := (HB.out.cell (World.block_lt_of_cell? w _ hx522_0)).trans hx522_0
              replace hx522_1 := (HB.out.cell (World.block_lt_of_cell? w _ hx522_1)).trans hx522_1
              replace hx522_2 := (HB.out.cell (World.block_lt_of_cell? w _ hx522_2)).trans hx522_2
              replace hx522_3 := (HB.out.cell (World.block_lt_of_cell? w _ hx522_3)).trans hx522_3
              replace hx522_4 := (HB.out.cell (World.block_lt_of_cell? w _ hx522_4)).trans hx522_4
              replace hx522_5 := (HB.out.cell (World.block_lt_of_cell? w _ hx522_5)).trans hx522_5
              replace hx522_6 := (HB.out.cell (World.block_lt_of_cell? w _ hx522_6)).trans hx522_6
              replace p522 := eq_true p522
              replace q522 := eq_true q522
              have hcz15_0 : wr.cell? ⟨gb519, 0, none⟩ = some (.int .i64 x520000_1) := (blk_cell BK519.out 0).trans rfl
              have hcz15_1 : wr.cell? ⟨gb519, 1, none⟩ = some (.int .i64 x520001_1) := (blk_cell BK519.out 1).trans rfl
              have hcz15_2 : wr.cell? ⟨gb519, 2, none⟩ = some (.int .i64 x520002_1) := (blk_cell BK519.out 2).trans rfl
              have hcz15_3 : wr.cell? ⟨gb519, 3, none⟩ = some (.int .i64 x520003_1) := (blk_cell BK519.out 3).trans rfl
              have hcz15_4 : wr.cell? ⟨gb519, 4, none⟩ = some (.int .i64 x520004_1) := (blk_cell BK519.out 4).trans rfl
              have hcz15_5 : wr.cell? ⟨gb519, 5, none⟩ = some (.int .i64 x520005_1) := (blk_cell BK519.out 5).trans rfl
              have hcz15_6 : wr.cell? ⟨gb519, 6, none⟩ = some (.int .i64 x520006_1) := (blk_cell BK519.out 6).trans rfl
              have hfz15_0 := blk_frozen BK519.out 0
              have hfz15_1 := blk_frozen BK519.out 1
              have hfz15_2 := blk_frozen BK519.out 2
              have hfz15_3 := blk_frozen BK519.out 3
              have hfz15_4 := blk_frozen BK519.out 4
              have hfz15_5 := blk_frozen BK519.out 5
              have hfz15_6 := blk_frozen BK519.out 6
              go_wp2
              refine bodyPost_ret (results_ct rfl _ _ gb519 43 #[.int .i64 ((rd_T43 l0_1 x6_1).f0), .int .i64 ((rd_T43 l0_1 x6_1).f1.f0), .int .i64 ((rd_T43 l0_1 x6_1).f1.f1), .int .i64 ((rd_T43 l0_1 x6_1).f2.f0), .int .i64 ((rd_T43 l0_1 x6_1).f2.f1), .int .i64 ((rd_T43 l0_1 x6_1).f3.f0), .int .i64 ((rd_T43 l0_1 x6_1).f3.f1)] (0, 0) _ rfl (by (with_reducible repeat first | apply blk_drewN | apply blk_drew | apply blk_alloc); refine blk_put (cs := #[.int .i64 ((rd_T43 l0_1 x6_1).f0), .int .i64 ((rd_T43 l0_1 x6_1).f1.f0), .int .i64 ((rd_T43 l0_1 x6_1).f1.f1), .int .i64 ((rd_T43 l0_1 x6_1).f2.f0), .int .i64 ((rd_T43 l0_1 x6_1).f2.f1), .int .i64 ((rd_T43 l0_1 x6_1).f3.f0), .int .i64 x520006_1]) ?_ 6 _ rfl; (with_reducible repeat first | apply blk_drewN | apply blk_drew | apply blk_alloc); refine blk_put (cs := #[.int .i64 ((rd_T43 l0_1 x6_1).f0), .int .i64 ((rd_T43 l0_1 x6_1).f1.f0), .int .i64 ((rd_T43 l0_1 x6_1).f1.f1), .int .i64 ((rd_T43 l0_1 x6_1).f2.f0), .int .i64 ((rd_T43 l0_1 x6_1).f2.f1), .int .i64 x520005_1, .int .i64 x520006_1]) ?_ 5 _ rfl; (with_reducible repeat first | apply blk_drewN | apply blk_drew | apply blk_alloc); refine blk_put (cs := #[.int .i64 ((rd_T43 l0_1 x6_1).f0), .int .i64 ((rd_T43 l0_1 x6_1).f1.f0), .int .i64 ((rd_T43 l0_1 x6_1).f1.f1), .int .i64 ((rd_T43 l0_1 x6_1).f2.f0), .int .i64 x520004_1, .int .i64 x520005_1, .int .i64 x520006_1]) ?_ 4 _ rfl; (with_reducible repeat first | apply blk_drewN | apply blk_drew | apply blk_alloc); refine blk_put (cs := #[.int .i64 ((rd_T43 l0_1 x6_1).f0), .int .i64 ((rd_T43 l0_1 x6_1).f1.f0), .int .i64 ((rd_T43 l0_1 x6_1).f1.f1), .int .i64 x520003_1, .int .i64 x520004_1, .int .i64 x520005_1, .int .i64 x520006_1]) ?_ 3 _ rfl; (with_reducible repeat first | apply blk_drewN | apply blk_drew | apply blk_alloc); refine blk_put (cs := #[.int .i64 ((rd_T43 l0_1 x6_1).f0), .int .i64 ((rd_T43 l0_1 x6_1).f1.f0), .int .i64 x520002_1, .int .i64 x520003_1, .int .i64 x520004_1, .int .i64 x520005_1, .int .i64 x520006_1]) ?_ 2 _ rfl; (with_reducible repeat first | apply blk_drewN | apply blk_drew | apply blk_alloc); refine blk_put (cs := #[.int .i64 ((rd_T43 l0_1 x6_1).f0), .int .i64 x520001_1, .int .i64 x520002_1, .int .i64 x520003_1, .int .i64 x520004_1, .int .i64 x520005_1, .int .i64 x520006_1]) ?_ 1 _ rfl; (with_reducible repeat first | apply blk_drewN | apply blk_drew | apply blk_alloc); refine blk_put (cs := #[.int .i64 x520000_1, .int .i64 x520001_1, .int .i64 x520002_1, .int .i64 x520003_1, .int .i64 x520004_1, .int .i64 x520005_1, .int .i64 x520006_1]) ?_ 0 _ rfl; (with_reducible repeat first | apply blk_drewN | apply blk_drew | apply blk_alloc); exact BK519.out) Try.underlying43 rfl (by kernel_rfl)) rfl ?_
              exact ⟨by first | rfl | (simp [errW_none, errW_some] <;> rfl) | (simp [*, errW_none, errW_some] <;> rfl), by repeat (first | (with_reducible first | exact HB.out | apply below_alloc | apply pw_below_drewN | apply below_drew1 | refine below_set ?_ GE518.out | refine below_set ?_ GE519.out) | exact HB.out)⟩
            · rw [if_neg c12] at H
              have c12b0 : (((rd_T43 l0_1 x6_1).f0) == a1) = false := beq_eq_false_iff_ne.mpr c12
              have c12b1 : (((rd_T43 l0_1 x6_1).f0) != a1) = true := bne_iff_ne.mpr c12
              have H' := Aside0.mk H
              clear H
              have hnb16 := NB518_519.out
              have hnc16 := NB519_518.out
              have hcz17_0 : wr.cell? ⟨gb518, 0, none⟩ = some (.slice A0_0 l0_0.length c0_0) := (blk_cell BK518.out 0).trans rfl
              have hcz17_1 : wr.cell? ⟨gb518, 1, none⟩ = some (.slice A0_1 l0_1.length c0_1) := (blk_cell BK518.out 1).trans rfl
              have hfz17_0 := blk_frozen BK518.out 0
              have hfz17_1 := blk_frozen BK518.out 1
              have p521 : 0 ≤ (x6_1 : Int) := of_decide_eq_true (by first | (with_reducible assumption) | assumption)
              have q521 : x6_1 < (l0_1.length : Int) := of_decide_eq_true (by first | (with_reducible assumption) | assumption)
              obtain ⟨ad521, e521, hx521_0, hx521_1, hx521_2, hx521_3, hx521_4, hx521_5, hx521_6⟩ := at_T43 HR0_1.out x6_1 p521 q521
              cases e521
              replace hx521_0 := (HB.out.cell (World.block_lt_of_cell? w _ hx521_0)).trans hx521_0
              replace hx521_1 := (HB.out.cell (World.block_lt_of_cell? w _ hx521_1)).trans hx521_1
              replace hx521_2 := (HB.out.cell (World.block_lt_of_cell? w _ hx521_2)).trans hx521_2
              replace hx521_3 := (HB.out.cell (World.block_lt_of_cell? w _ hx521_3)).trans hx521_3
              replace hx521_4 := (HB.out.cell (World.block_lt_of_cell? w _ hx521_4)).trans hx521_4
              replace hx521_5 := (HB.out.cell (World.block_lt_of_cell? w _ hx521_5)).trans hx521_5
              replace hx521_6 := (HB.out.cell (World.block_lt_of_cell? w _ hx521_6)).trans hx521_6
              replace p521 := eq_true p521
              replace q521 := eq_true q521
              go_wp2
              go_roundg k1
              case measure => have := HK1.out; omega
              case rel => exact ⟨(wrap64 (x6_1 + 1)), (x520000_1), (x520001_1), (x520002_1), (x520003_1), (x520004_1), (x520005_1), (x520006_1), (by first | rfl | (simp; done) | (simp [*]; done)), H', ⟨by have := HK1.out; omega⟩, ⟨by (with_reducible repeat first | apply blk_drewN | apply blk_drew | apply blk_alloc); exact BK518.out⟩, ⟨by (with_reducible repeat first | apply blk_drewN | apply blk_drew | apply blk_alloc); exact BK519.out⟩, ⟨by repeat (first | (with_reducible first | exact HB.out | apply below_alloc | apply pw_below_drewN | apply below_drew1 | refine below_set ?_ GE518.out | refine below_set ?_ GE519.out) | exact HB.out)⟩⟩
          · rw [if_neg c11] at H
            exact absurd H (by simp)
        · rw [if_neg c10] at H
          have c10b0 : decide (x6_1 < (l0_1.length : Int)) = false := decide_eq_false c10
          clear c10
          simp only [Option.some.injEq, Prod.mk.injEq] at H
          obtain ⟨rfl, rfl, rfl, rfl, rfl, rfl, rfl, rfl⟩ := H
          have hnb18 := NB518_519.out
          have hnc18 := NB519_518.out
          have hcz19_0 : wr.cell? ⟨gb518, 0, none⟩ = some (.slice A0_0 l0_0.length c0_0) := (blk_cell BK518.out 0).trans rfl
          have hcz19_1 : wr.cell? ⟨gb518, 1, none⟩ = some (.slice A0_1 l0_1.length c0_1) := (blk_cell BK518.out 1).trans rfl
          have hfz19_0 := blk_frozen BK518.out 0
          have hfz19_1 := blk_frozen BK518.out 1
          have hcz20_0 : wr.cell? ⟨gb519, 0, none⟩ = some (.int .i64 x520000_1) := (blk_cell BK519.out 0).trans rfl
          have hcz20_1 : wr.cell? ⟨gb519, 1, none⟩ = some (.int .i64 x520001_1) := (blk_cell BK519.out 1).trans rfl
          have hcz20_2 : wr.cell? ⟨gb519, 2, none⟩ = some (.int .i64 x520002_1) := (blk_cell BK519.out 2).trans rfl
          have hcz20_3 : wr.cell? ⟨gb519, 3, none⟩ = some (.int .i64 x520003_1) := (blk_cell BK519.out 3).trans rfl
          have hcz20_4 : wr.cell? ⟨gb519, 4, none⟩ = some (.int .i64 x520004_1) := (blk_cell BK519.out 4).trans rfl
          have hcz20_5 : wr.cell? ⟨gb519, 5, none⟩ = some (.int .i64 x520005_1) := (blk_cell BK519.out 5).trans rfl
          have hcz20_6 : wr.cell? ⟨gb519, 6, none⟩ = some (.int .i64 x520006_1) := (blk_cell BK519.out 6).trans rfl
          have hfz20_0 := blk_frozen BK519.out 0
          have hfz20_1 := blk_frozen BK519.out 1
          have hfz20_2 := blk_frozen BK519.out 2
          have hfz20_3 := blk_frozen BK519.out 3
          have hfz20_4 := blk_frozen BK519.out 4
          have hfz20_5 := blk_frozen BK519.out 5
          have hfz20_6 := blk_frozen BK519.out 6
          go_wp2
          refine bodyPost_ret (results_ct rfl _ _ gb519 43 #[.int .i64 0, .int .i64 0, .int .i64 0, .int .i64 0, .int .i64 0, .int .i64 0, .int .i64 0] (0, 0) _ rfl (by (with_reducible repeat first | apply blk_drewN | apply blk_drew | apply blk_alloc); refine blk_put (cs := #[.int .i64 0, .int .i64 0, .int .i64 0, .int .i64 0, .int .i64 0, .int .i64 0, .int .i64 x520006_1]) ?_ 6 _ rfl; (with_reducible repeat first | apply blk_drewN | apply blk_drew | apply blk_alloc); refine blk_put (cs := #[.int .i64 0, .int .i64 0, .int .i64 0, .int .i64 0, .int .i64 0, .int .i64 x520005_1, .int .i64 x520006_1]) ?_ 5 _ rfl; (with_reducible repeat first | apply blk_drewN | apply blk_drew | apply blk_alloc); refine blk_put (cs := #[.int .i64 0, .int .i64 0, .int .i64 0, .int .i64 0, .int .i64 x520004_1, .int .i64 x520005_1, .int .i64 x520006_1]) ?_ 4 _ rfl; (with_reducible repeat first | apply blk_drewN | apply blk_drew | apply blk_alloc); refine blk_put (cs := #[.int .i64 0, .int .i64 0, .int .i64 0, .int .i64 x520003_1, .int .i64 x520004_1, .int .i64 x520005_1, .int .i64 x520006_1]) ?_ 3 _ rfl; (with_reducible repeat first | apply blk_drewN | apply blk_drew | apply blk_alloc); refine blk_put (cs := #[.int .i64 0, .int .i64 0, .int .i64 x520002_1, .int .i64 x520003_1, .int .i64 x520004_1, .int .i64 x520005_1, .int .i64 x520006_1]) ?_ 2 _ rfl; (with_reducible repeat first | apply blk_drewN | apply blk_drew | apply blk_alloc); refine blk_put (cs := #[.int .i64 0, .int .i64 x520001_1, .int .i64 x520002_1, .int .i64 x520003_1, .int .i64 x520004_1, .int .i64 x520005_1, .int .i64 x520006_1]) ?_ 1 _ rfl; (with_reducible repeat first | apply blk_drewN | apply blk_drew | apply blk_alloc); refine blk_put (cs := #[.int .i64 x520000_1, .int .i64 x520001_1, .int .i64 x520002_1, .int .i64 x520003_1, .int .i64 x520004_1, .int .i64 x520005_1, .int .i64 x520006_1]) ?_ 0 _ rfl; (with_reducible repeat first | apply blk_drewN | apply blk_drew | apply blk_alloc); exact BK519.out) Try.underlying43 rfl (by kernel_rfl)) rfl ?_
          exact ⟨by first | rfl | (simp [errW_none, errW_some] <;> rfl) | (simp [*, errW_none, errW_some] <;> rfl), by repeat (first | (with_reducible first | exact HB.out | apply below_alloc | apply pw_below_drewN | apply below_drew1 | refine below_set ?_ GE518.out | refine below_set ?_ GE519.out) | exact HB.out)⟩
  · rw [if_neg c4] at H
    have c4b0 : (t520 == 0) = false := beq_eq_false_iff_ne.mpr c4
    have c4b1 : (t520 != 0) = true := bne_iff_ne.mpr c4
    simp only [Option.some.injEq, Prod.mk.injEq] at H
    obtain ⟨rfl, rfl, rfl, rfl, rfl, rfl, rfl, rfl⟩ := H
    go_enter Try.func41, Try.ntmps41
    go_wp2_with (first | ((with_reducible refine gate_dst (N := 2) rfl ?_); refine box_event ?hg (N := 2) ?hd (cs := #[.slice A0_0 l0_0.length c0_0, .slice A0_1 l0_1.length c0_1]) (t := 66) ?hr ?_; (case hd => rfl); (case hg => rfl); (case hr => first | (go_simp; done) | (go_simp; rfl)); intro gb518 hg w21 hbox hb; have BK518 := Aside0.mk (hbox); have GW518 := Aside0.mk ((by rw [hg]; exact (below_size (by repeat (first | (with_reducible first | exact HB.out | apply below_alloc | apply pw_below_drewN | apply below_drew1) | exact HB.out))) : w.heap.size ≤ gb518)); have GE518 := Aside0.mk ((by rw [hg]; exact (below_size (by repeat (first | (with_reducible first | exact HB.out | apply below_alloc | apply pw_below_drewN | apply below_drew1) | exact HB.out))) : w.heap.size ≤ gb518)); replace HB := Aside0.mk (below_step (by repeat (first | (with_reducible first | exact HB.out | apply below_alloc | apply pw_below_drewN | apply below_drew1) | exact HB.out)) hb); clear hb hbox hg) | ((with_reducible refine gate_dst (N := 4) rfl ?_); refine box_event ?hg (N := 4) ?hd (cs := #[.int .i64 0, .int .i64 0, .int .i64 0, .int .i64 0, .int .i64 0, .int .i64 0, .int .i64 0]) (t := 43) ?hr ?_; (case hd => rfl); (case hg => rfl); (case hr => first | (go_simp; done) | (go_simp; rfl)); intro gb519 hg w22 hbox hb; have BK519 := Aside0.mk (hbox); have GW519 := Aside0.mk ((by rw [hg]; exact (below_size (by repeat (first | (with_reducible first | exact HB.out | apply below_alloc | apply pw_below_drewN | apply below_drew1 | refine below_set ?_ GE518.out) | exact HB.out))) : w.heap.size ≤ gb519)); have GE519 := Aside0.mk ((by rw [hg]; exact (below_size (by repeat (first | (with_reducible first | exact HB.out | apply below_alloc | apply pw_below_drewN | apply below_drew1 | refine below_set ?_ GE518.out) | exact HB.out))) : w.heap.size ≤ gb519)); replace HB := Aside0.mk (below_step (by repeat (first | (with_reducible first | exact HB.out | apply below_alloc | apply pw_below_drewN | apply below_drew1 | refine below_set ?_ GE518.out) | exact HB.out)) hb); have NB518_519 := Aside0.mk ((by rw [hg]; exact Nat.ne_of_lt (blk_lt (g := gb518) (o := .cells #[.slice A0_0 l0_0.length c0_0, .slice A0_1 l0_1.length c0_1] 66 (0, 0)) (by (with_reducible repeat first | apply blk_drewN | apply blk_drew | apply blk_alloc); exact BK518.out)) : gb518 ≠ gb519)); have NB519_518 := Aside0.mk ((by rw [hg]; exact Nat.ne_of_gt (blk_lt (g := gb518) (o := .cells #[.slice A0_0 l0_0.length c0_0, .slice A0_1 l0_1.length c0_1] 66 (0, 0)) (by (with_reducible repeat first | apply blk_drewN | apply blk_drew | apply blk_alloc); exact BK518.out)) : gb519 ≠ gb518)); replace BK518 := blkE BK518 hb; clear hb hbox hg; have hnb23 := NB518_519.out; have hnc23 := NB519_518.out; obtain ⟨hcz24_0, hcz24_1⟩ := cells2 BK518.out; obtain ⟨hfz24_0, hfz24_1⟩ := froz2 BK518.out) | ((with_reducible refine gate_callee (f := 44) rfl ?_); refine goesL_ (some 8) rfl rfl Try.func44 (by kernel_rfl) rfl #[.agg #[.slice A0_0 l0_0.length c0_0, .slice A0_1 l0_1.length c0_1]] rfl (by (try simp only [List.map_toArray, List.map_cons, List.map_nil]); first | done | rfl | (simp only [List.length_drop, List.length_take]; rfl)) ?_; (with_reducible refine (potbankref01_Check.calls k _ _ l0_0 _ _ l0_1 t520 _ ?side1 ?side2 ?side3 ?side4 A3.out).mono ?_); (case side1 => repeat (first | exact (Kd.C_below HR0_0.out HB.out) | (with_reducible refine Kd.C_alloc ?_ _) | (with_reducible refine Kd.C_drewN ?_ _) | (with_reducible refine Kd.C_drew ?_))); (case side2 => exact HC0_0.out); (case side3 => repeat (first | exact (Kd.C_below HR0_1.out HB.out) | (with_reducible refine Kd.C_alloc ?_ _) | (with_reducible refine Kd.C_drewN ?_ _) | (with_reducible refine Kd.C_drew ?_))); (case side4 => exact HC0_1.out); rintro e w25 ⟨rfl, hb⟩; refine ⟨_, rfl, ?_⟩; replace BK518 := blkE BK518 hb; replace BK519 := blkE BK519 hb; replace HB := Aside0.mk (below_step (by repeat (first | (with_reducible first | exact HB.out | apply below_alloc | apply pw_below_drewN | apply below_drew1 | refine below_set ?_ GE518.out | refine below_set ?_ GE519.out) | exact HB.out)) hb); (try clear hb); (try clear hb2); (try clear hk); (try clear hi); obtain ⟨hcz26_0, hcz26_1, hcz26_2, hcz26_3, hcz26_4, hcz26_5, hcz26_6⟩ := cells7 BK519.out; obtain ⟨hfz26_0, hfz26_1, hfz26_2, hfz26_3, hfz26_4, hfz26_5, hfz26_6⟩ := froz7 BK519.out))
    refine bodyPost_ret (results_ct rfl _ _ gb519 43 #[.int .i64 0, .int .i64 0, .int .i64 0, .int .i64 0, .int .i64 0, .int .i64 0, .int .i64 0] (0, 0) _ rfl (by (with_reducible repeat first | apply blk_drewN | apply blk_drew | apply blk_alloc); refine blk_put (cs := #[.int .i64 0, .int .i64 0, .int .i64 0, .int .i64 0, .int .i64 0, .int .i64 0, .int .i64 0]) ?_ 6 _ rfl; (with_reducible repeat first | apply blk_drewN | apply blk_drew | apply blk_alloc); refine blk_put (cs := #[.int .i64 0, .int .i64 0, .int .i64 0, .int .i64 0, .int .i64 0, .int .i64 0, .int .i64 0]) ?_ 5 _ rfl; (with_reducible repeat first | apply blk_drewN | apply blk_drew | apply blk_alloc); refine blk_put (cs := #[.int .i64 0, .int .i64 0, .int .i64 0, .int .i64 0, .int .i64 0, .int .i64 0, .int .i64 0]) ?_ 4 _ rfl; (with_reducible repeat first | apply blk_drewN | apply blk_drew | apply blk_alloc); refine blk_put (cs := #[.int .i64 0, .int .i64 0, .int .i64 0, .int .i64 0, .int .i64 0, .int .i64 0, .int .i64 0]) ?_ 3 _ rfl; (with_reducible repeat first | apply blk_drewN | apply blk_drew | apply blk_alloc); refine blk_put (cs := #[.int .i64 0, .int .i64 0, .int .i64 0, .int .i64 0, .int .i64 0, .int .i64 0, .int .i64 0]) ?_ 2 _ rfl; (with_reducible repeat first | apply blk_drewN | apply blk_drew | apply blk_alloc); refine blk_put (cs := #[.int .i64 0, .int .i64 0, .int .i64 0, .int .i64 0, .int .i64 0, .int .i64 0, .int .i64 0]) ?_ 1 _ rfl; (with_reducible repeat first | apply blk_drewN | apply blk_drew | apply blk_alloc); refine blk_put (cs := #[.int .i64 0, .int .i64 0, .int .i64 0, .int .i64 0, .int .i64 0, .int .i64 0, .int .i64 0]) ?_ 0 _ rfl; (with_reducible repeat first | apply blk_drewN | apply blk_drew | apply blk_alloc); exact BK519.out) Try.underlying43 rfl (by kernel_rfl)) rfl ?_
    exact ⟨by first | rfl | (simp [errW_none, errW_some] <;> rfl) | (simp [*, errW_none, errW_some] <;> rfl), by repeat (first | (with_reducible first | exact HB.out | apply below_alloc | apply pw_below_drewN | apply below_drew1 | refine below_set ?_ GE518.out | refine below_set ?_ GE519.out) | exact HB.out)⟩

end Go.Proofs.Ytcgokimagimamaa.F
