/- Written by a program of mine out of the translation: what functions answer; Lean checks it. -/
import Derived.Test.YtcgokimagimamaaF
import Derived.Test.YtcgokimagimamaaE23
import Derived.Test.YtcgokimagimamaaE43
import Derived.Test.YtcgokimagimamaaGJ
import Derived.Test.YtcgokimagimamaaF36
import Derived.Test.YtcgokimagimamaaF37
import Derived.Test.YtcgokimagimamaaGH
namespace Go.Proofs.Ytcgokimagimamaa.F
open Go.RowKit Go.Proofs.YtcgokimagimamaaW.PrintWords Go.Proofs.YtcgokimagimamaaW.PrintLast Go.Proofs.YtcgokimagimamaaW.PrintMore
attribute [local go_sem] max2_int min2_int max_two min_two max_three min_three max_four min_four   -- for this text's walks alone
set_option linter.unusedVariables false
set_option linter.unusedSimpArgs false
attribute [local go_sem high] eqA23 eqA43
/-! ### potbanklaw01_WareNarrows: function 8 -/
mutual
def potbanklaw01_WareNarrows.l0 : Nat → List (S46) → Int → List (S57) → Int → Int → Int → Int → Int → Int → Int → Int → Int → Int → Option (Bool)
  | 0, _, _, _, _, _, _, _, _, _, _, _, _, _ => none
  | k + 1, x2, x8, x9, x11, x388000, x388001, x388002, x388003, x388004, x388005, x388006, x390000, x390001 => if x11 < (x2.length : Int) then (potbanklaw01_WareNarrows.j1 k x2 x8 x9 x11 (decide (x11 < 12)) x388000 x388001 x388002 x388003 x388004 x388005 x388006 x390000 x390001) else (potbanklaw01_WareNarrows.j1 k x2 x8 x9 x11 false x388000 x388001 x388002 x388003 x388004 x388005 x388006 x390000 x390001)
def potbanklaw01_WareNarrows.j1 : Nat → List (S46) → Int → List (S57) → Int → Bool → Int → Int → Int → Int → Int → Int → Int → Int → Int → Option (Bool)
  | 0, _, _, _, _, _, _, _, _, _, _, _, _, _, _ => none
  | k + 1, x2, x8, x9, x11, x47, x388000, x388001, x388002, x388003, x388004, x388005, x388006, x390000, x390001 => if x47 = true then (if 0 ≤ x11 then (if x11 < (x2.length : Int) then ((potbankref01_Mod.f ((rd_T46 x2 x11).f0) 900).bind fun t392 => ((potbankref01_Mod.f ((rd_T46 x2 x11).f1) 4).bind fun t394 => ((potbankref01_Down.f (wrap64 ((wrap64 (1 + t392)) * (wrap64 (1000 - x8)))) 1000).bind fun t395 => ((potbankref01_Mod.f ((rd_T46 x2 x11).f2) 3).bind fun t397 => ((potbankref01_Up.f (wrap64 ((wrap64 (1 + t392)) * (wrap64 (1000 - x8)))) 1000).bind fun t398 => (if x9.length < 3518437208883 then ((some (x9 ++ [(⟨wrap64 (1 + x11), (⟨mx (wrap64 ((wrap64 (1 + t392)) - t394)) 1, wrap64 ((wrap64 (1 + t392)) + t394)⟩ : S23), (⟨mx (wrap64 (t395 - t397)) 0, t398⟩ : S23)⟩ : S57)] : List (S57))).bind fun y400 => ((ware_Narrow.f x388000 x388001 x388002 x388003 x388004 x388005 x388006 y400).bind fun bt403 => (if bt403.2.2.2.2.2.2.2 = 0 then (if bt403.2.1 > x8 then (potbanklaw01_WareNarrows.j2 k x2 x8 y400 x11 (wrap64 (1 + t392)) true x388000 x388001 x388002 x388003 x388004 x388005 x388006 bt403.1 bt403.2.1 bt403.2.2.1 bt403.2.2.2.1 bt403.2.2.2.2.1 bt403.2.2.2.2.2.1 bt403.2.2.2.2.2.2.1) else (if bt403.2.2.1 < x8 then (potbanklaw01_WareNarrows.j2 k x2 x8 y400 x11 (wrap64 (1 + t392)) true x388000 x388001 x388002 x388003 x388004 x388005 x388006 bt403.1 bt403.2.1 bt403.2.2.1 bt403.2.2.2.1 bt403.2.2.2.2.1 bt403.2.2.2.2.2.1 bt403.2.2.2.2.2.2.1) else (if bt403.2.1 < x390000 then (potbanklaw01_WareNarrows.j2 k x2 x8 y400 x11 (wrap64 (1 + t392)) true x388000 x388001 x388002 x388003 x388004 x388005 x388006 bt403.1 bt403.2.1 bt403.2.2.1 bt403.2.2.2.1 bt403.2.2.2.2.1 bt403.2.2.2.2.2.1 bt403.2.2.2.2.2.2.1) else (if bt403.2.2.1 > x390001 then (potbanklaw01_WareNarrows.j2 k x2 x8 y400 x11 (wrap64 (1 + t392)) true x388000 x388001 x388002 x388003 x388004 x388005 x388006 bt403.1 bt403.2.1 bt403.2.2.1 bt403.2.2.2.1 bt403.2.2.2.2.1 bt403.2.2.2.2.2.1 bt403.2.2.2.2.2.2.1) else (if (!(bt403.2.2.2.2.2.1 == x388005) || (!(bt403.2.2.2.2.2.2.1 == x388006))) = true then (potbanklaw01_WareNarrows.j2 k x2 x8 y400 x11 (wrap64 (1 + t392)) true x388000 x388001 x388002 x388003 x388004 x388005 x388006 bt403.1 bt403.2.1 bt403.2.2.1 bt403.2.2.2.1 bt403.2.2.2.2.1 bt403.2.2.2.2.2.1 bt403.2.2.2.2.2.2.1) else (potbanklaw01_WareNarrows.j2 k x2 x8 y400 x11 (wrap64 (1 + t392)) (!(bt403.2.2.2.1 == x388003) || (!(bt403.2.2.2.2.1 == x388004))) x388000 x388001 x388002 x388003 x388004 x388005 x388006 bt403.1 bt403.2.1 bt403.2.2.1 bt403.2.2.2.1 bt403.2.2.2.2.1 bt403.2.2.2.2.2.1 bt403.2.2.2.2.2.2.1)))))) else (potbanklaw01_WareNarrows.j2 k x2 x8 y400 x11 (wrap64 (1 + t392)) true x388000 x388001 x388002 x388003 x388004 x388005 x388006 bt403.1 bt403.2.1 bt403.2.2.1 bt403.2.2.2.1 bt403.2.2.2.2.1 bt403.2.2.2.2.2.1 bt403.2.2.2.2.2.2.1)))) else (none))))))) else (none)) else (none)) else ((potbanklaw01_sane.f).bind fun t390 => (some t390))
def potbanklaw01_WareNarrows.j2 : Nat → List (S46) → Int → List (S57) → Int → Int → Bool → Int → Int → Int → Int → Int → Int → Int → Int → Int → Int → Int → Int → Int → Int → Option (Bool)
  | 0, _, _, _, _, _, _, _, _, _, _, _, _, _, _, _, _, _, _, _, _ => none
  | k + 1, x2, x8, x9, x11, x12, x146, x388000, x388001, x388002, x388003, x388004, x388005, x388006, x412000, x412001, x412002, x412003, x412004, x412005, x412006 => if x146 = true then (none) else ((ware_Bar.f x412000 x412001 x412002 x412003 x412004 x412005 x412006 99 x12).bind fun bt412 => ((ware_Narrow.f x412000 x412001 x412002 x412003 x412004 x412005 x412006 (([(⟨bt412.1, (⟨bt412.2.1, bt412.2.2.1⟩ : S23), (⟨bt412.2.2.2.1, bt412.2.2.2.2.1⟩ : S23)⟩ : S57)] : List (S57)))).bind fun bt422 => (if bt412.2.2.2.2.2 = 0 then (if bt422.2.2.2.2.2.2.2 = 0 then (if (!(bt422.1 == x412000) || ((!(bt422.2.1 == x412001) || (!(bt422.2.2.1 == x412002))) || ((!(bt422.2.2.2.1 == x412003) || (!(bt422.2.2.2.2.1 == x412004))) || ((!(bt422.2.2.2.2.2.1 == x412005) || (!(bt422.2.2.2.2.2.2.1 == x412006))))))) = true then (none) else (potbanklaw01_WareNarrows.l0 k x2 x8 x9 (wrap64 (x11 + 1)) x388000 x388001 x388002 x388003 x388004 x388005 x388006 x412001 x412002)) else (none)) else (none))))
end
def potbanklaw01_WareNarrows.f (k : Nat) (l0 : List Int) (a1 : Int) (l2 : List (S46)) : Option (Bool) := (potbankref01_MadeBody.f 1 l0).bind fun bt380 => ((potbankref01_Mod.f a1 (wrap64 ((wrap64 (bt380.2.2.1 - bt380.2.1)) + 1))).bind fun t388 => (potbanklaw01_WareNarrows.l0 k l2 (wrap64 (bt380.2.1 + t388)) ([] : List (S57)) 0 bt380.1 bt380.2.1 bt380.2.2.1 bt380.2.2.2.1 bt380.2.2.2.2.1 bt380.2.2.2.2.2.1 bt380.2.2.2.2.2.2 bt380.2.1 bt380.2.2.1))
theorem potbanklaw01_WareNarrows.mono_l : ∀ k, (∀ y0 y1 y2 y3 y4 y5 y6 y7 y8 y9 y10 y11 y12, LeO (potbanklaw01_WareNarrows.l0 k y0 y1 y2 y3 y4 y5 y6 y7 y8 y9 y10 y11 y12) (potbanklaw01_WareNarrows.l0 (k + 1) y0 y1 y2 y3 y4 y5 y6 y7 y8 y9 y10 y11 y12)) ∧ (∀ y0 y1 y2 y3 y4 y5 y6 y7 y8 y9 y10 y11 y12 y13, LeO (potbanklaw01_WareNarrows.j1 k y0 y1 y2 y3 y4 y5 y6 y7 y8 y9 y10 y11 y12 y13) (potbanklaw01_WareNarrows.j1 (k + 1) y0 y1 y2 y3 y4 y5 y6 y7 y8 y9 y10 y11 y12 y13)) ∧ (∀ y0 y1 y2 y3 y4 y5 y6 y7 y8 y9 y10 y11 y12 y13 y14 y15 y16 y17 y18 y19, LeO (potbanklaw01_WareNarrows.j2 k y0 y1 y2 y3 y4 y5 y6 y7 y8 y9 y10 y11 y12 y13 y14 y15 y16 y17 y18 y19) (potbanklaw01_WareNarrows.j2 (k + 1) y0 y1 y2 y3 y4 y5 y6 y7 y8 y9 y10 y11 y12 y13 y14 y15 y16 y17 y18 y19))
  | 0 => ⟨fun _ _ _ _ _ _ _ _ _ _ _ _ _ r h => by simp [potbanklaw01_WareNarrows.l0] at h, fun _ _ _ _ _ _ _ _ _ _ _ _ _ _ r h => by simp [potbanklaw01_WareNarrows.j1] at h, fun _ _ _ _ _ _ _ _ _ _ _ _ _ _ _ _ _ _ _ _ r h => by simp [potbanklaw01_WareNarrows.j2] at h⟩
  | k + 1 => by
    obtain ⟨ih0, ih1, ih2⟩ := potbanklaw01_WareNarrows.mono_l k
    refine ⟨?_, ?_, ?_⟩
    · intro y0 y1 y2 y3 y4 y5 y6 y7 y8 y9 y10 y11 y12
      unfold potbanklaw01_WareNarrows.l0
      repeat' first
      | (with_reducible exact ih0 _ _ _ _ _ _ _ _ _ _ _ _ _)
      | (with_reducible exact ih1 _ _ _ _ _ _ _ _ _ _ _ _ _ _)
      | (with_reducible exact ih2 _ _ _ _ _ _ _ _ _ _ _ _ _ _ _ _ _ _ _ _)
      | (with_reducible exact LeO.refl _)
      | (with_reducible exact LeO.none _)
      | (with_reducible refine LeO.ite ?_ ?_)
      | (with_reducible refine LeO.bind ?_ (fun _ => ?_))
      | exact ih0 _ _ _ _ _ _ _ _ _ _ _ _ _
      | exact ih1 _ _ _ _ _ _ _ _ _ _ _ _ _ _
      | exact ih2 _ _ _ _ _ _ _ _ _ _ _ _ _ _ _ _ _ _ _ _
      | exact LeO.none _
      | refine LeO.ite ?_ ?_
      | refine LeO.bind ?_ (fun _ => ?_)
    · intro y0 y1 y2 y3 y4 y5 y6 y7 y8 y9 y10 y11 y12 y13
      unfold potbanklaw01_WareNarrows.j1
      repeat' first
      | (with_reducible exact ih0 _ _ _ _ _ _ _ _ _ _ _ _ _)
      | (with_reducible exact ih1 _ _ _ _ _ _ _ _ _ _ _ _ _ _)
      | (with_reducible exact ih2 _ _ _ _ _ _ _ _ _ _ _ _ _ _ _ _ _ _ _ _)
      | (with_reducible exact LeO.refl _)
      | (with_reducible exact LeO.none _)
      | (with_reducible refine LeO.ite ?_ ?_)
      | (with_reducible refine LeO.bind ?_ (fun _ => ?_))
      | exact ih0 _ _ _ _ _ _ _ _ _ _ _ _ _
      | exact ih1 _ _ _ _ _ _ _ _ _ _ _ _ _ _
      | exact ih2 _ _ _ _ _ _ _ _ _ _ _ _ _ _ _ _ _ _ _ _
      | exact LeO.none _
      | refine LeO.ite ?_ ?_
      | refine LeO.bind ?_ (fun _ => ?_)
    · intro y0 y1 y2 y3 y4 y5 y6 y7 y8 y9 y10 y11 y12 y13 y14 y15 y16 y17 y18 y19
      unfold potbanklaw01_WareNarrows.j2
      repeat' first
      | (with_reducible exact ih0 _ _ _ _ _ _ _ _ _ _ _ _ _)
      | (with_reducible exact ih1 _ _ _ _ _ _ _ _ _ _ _ _ _ _)
      | (with_reducible exact ih2 _ _ _ _ _ _ _ _ _ _ _ _ _ _ _ _ _ _ _ _)
      | (with_reducible exact LeO.refl _)
      | (with_reducible exact LeO.none _)
      | (with_reducible refine LeO.ite ?_ ?_)
      | (with_reducible refine LeO.bind ?_ (fun _ => ?_))
      | exact ih0 _ _ _ _ _ _ _ _ _ _ _ _ _
      | exact ih1 _ _ _ _ _ _ _ _ _ _ _ _ _ _
      | exact ih2 _ _ _ _ _ _ _ _ _ _ _ _ _ _ _ _ _ _ _ _
      | exact LeO.none _
      | refine LeO.ite ?_ ?_
      | refine LeO.bind ?_ (fun _ => ?_)
theorem potbanklaw01_WareNarrows.mono : ∀ a0 a1 a2 k, LeO (potbanklaw01_WareNarrows.f k a0 a1 a2) (potbanklaw01_WareNarrows.f (k + 1) a0 a1 a2) := by
  intro a0 a1 a2 k
  obtain ⟨ih0, ih1, ih2⟩ := potbanklaw01_WareNarrows.mono_l k
  unfold potbanklaw01_WareNarrows.f
  repeat' first
      | (with_reducible exact ih0 _ _ _ _ _ _ _ _ _ _ _ _ _)
      | (with_reducible exact ih1 _ _ _ _ _ _ _ _ _ _ _ _ _ _)
      | (with_reducible exact ih2 _ _ _ _ _ _ _ _ _ _ _ _ _ _ _ _ _ _ _ _)
      | (with_reducible exact LeO.refl _)
      | (with_reducible exact LeO.none _)
      | (with_reducible refine LeO.ite ?_ ?_)
      | (with_reducible refine LeO.bind ?_ (fun _ => ?_))
      | exact ih0 _ _ _ _ _ _ _ _ _ _ _ _ _
      | exact ih1 _ _ _ _ _ _ _ _ _ _ _ _ _ _
      | exact ih2 _ _ _ _ _ _ _ _ _ _ _ _ _ _ _ _ _ _ _ _
      | exact LeO.none _
      | refine LeO.ite ?_ ?_
      | refine LeO.bind ?_ (fun _ => ?_)
def potbanklaw01_WareNarrows.T2 : Bool × List (List Nat × List Nat) := (true, [([], []), ([0], [0]), ([1], [1]), ([], []), ([], []), ([4], [4]), ([5], [5]), ([], []), ([7], [7]), ([8], [8]), ([6, 9], [6, 9]), ([10], [10]), ([3, 11], [3, 11]), ([2, 12], [2, 12]), ([13, 12, 0, 1, 2, 3, 4, 5, 6, 7, 8, 9, 10, 11, 12, 13], [13])])
def potbanklaw01_WareNarrows.B2 : List Nat := [0, 1, 3, 0, 0, 16, 48, 0, 128, 384, 1008, 2032, 4088, 8191, 16383]
theorem potbanklaw01_WareNarrows.tab2 : rtab .any (opsOf Try.f8 2) = potbanklaw01_WareNarrows.T2 := by kernel_rfl
theorem potbanklaw01_WareNarrows.bits2 : waitsOk potbanklaw01_WareNarrows.T2.2 potbanklaw01_WareNarrows.B2 = true := by kernel_rfl
def potbanklaw01_WareNarrows.T11 : Bool × List (List Nat × List Nat) := (true, [([], []), ([0], [0]), ([], []), ([], []), ([2, 3], [2, 3]), ([4], [4]), ([], []), ([], []), ([6, 7], [6, 7]), ([5, 8], [5, 8]), ([], []), ([10], [10]), ([], []), ([], []), ([12, 13], [12, 13]), ([14], [14]), ([15], [15]), ([16, 11], [16]), ([11, 17], [11, 17]), ([18], [18]), ([], []), ([20, 17], [20]), ([19, 21], [19, 21]), ([1, 9, 22], [1, 9, 22]), ([], []), ([24, 23, 21, 0, 1, 2, 3, 4, 5, 6, 7, 8, 9, 10, 11, 12, 13, 14, 15, 16, 17, 18, 19, 20, 21, 22, 23, 24], [23, 24])])
def potbanklaw01_WareNarrows.B11 : List Nat := [0, 1, 0, 0, 12, 28, 0, 0, 192, 508, 0, 1024, 0, 0, 12288, 28672, 61440, 130048, 261120, 523264, 0, 1309696, 4193280, 8388607, 0, 33554431]
theorem potbanklaw01_WareNarrows.tab11 : rtab .any (opsOf Try.f8 11) = potbanklaw01_WareNarrows.T11 := by kernel_rfl
theorem potbanklaw01_WareNarrows.bits11 : waitsOk potbanklaw01_WareNarrows.T11.2 potbanklaw01_WareNarrows.B11 = true := by kernel_rfl
set_option maxHeartbeats 8000000 in
set_option maxRecDepth 100000 in
theorem potbanklaw01_WareNarrows.calls (k : Nat) (A0 : Option Addr) (c0 : Nat) (l0 : List Int) (a1 : Int) (A2 : Option Addr) (c2 : Nat) (l2 : List (S46)) (r : Bool) (w : World) (hr0 : Kd.C (Kd.int .i64) w A0 l0.length l0) (hc0 : l0.length ≤ c0) (hr2 : Kd.C k46 w A2 l2.length l2) (hc2 : l2.length ≤ c2) (h : potbanklaw01_WareNarrows.f k l0 a1 l2 = some r) :
    Calls Try.prog 8 #[.slice A0 l0.length c0, .int .i64 a1, .slice A2 l2.length c2] w fun e w' => e = .returned (.bool r) ∧ Below w.heap.size w w' := by
  have hu43 := Try.underlying43
  have hu23 := Try.underlying23
  have hu57 := Try.underlying57
  have HR0 := Aside0.mk hr0
  have HC0 := Aside0.mk hc0
  clear hr0 hc0
  have HR2 := Aside0.mk hr2
  have HC2 := Aside0.mk hc2
  clear hr2 hc2
  have HB := Aside0.mk (Below.refl w.heap.size w)
  have H : ((potbankref01_MadeBody.f 1 l0).bind fun bt380 => ((potbankref01_Mod.f a1 (wrap64 ((wrap64 (bt380.2.2.1 - bt380.2.1)) + 1))).bind fun t388 => (potbanklaw01_WareNarrows.l0 k l2 (wrap64 (bt380.2.1 + t388)) ([] : List (S57)) 0 bt380.1 bt380.2.1 bt380.2.2.1 bt380.2.2.2.1 bt380.2.2.2.2.1 bt380.2.2.2.2.2.1 bt380.2.2.2.2.2.2 bt380.2.1 bt380.2.2.1))) = some r := h
  clear h
  replace H := Option.bind_eq_some_iff.mp H
  obtain ⟨⟨t380, t381, t382, t383, t384, t385, t386⟩, A40, H⟩ := H
  replace H : ((potbankref01_Mod.f a1 (wrap64 ((wrap64 (t382 - t381)) + 1))).bind fun t388 => (potbanklaw01_WareNarrows.l0 k l2 (wrap64 (t381 + t388)) ([] : List (S57)) 0 t380 t381 t382 t383 t384 t385 t386 t381 t382)) = some r := H
  have A4 := Aside0.mk A40
  clear A40
  replace H := Option.bind_eq_some_iff.mp H
  obtain ⟨t388, A50, H⟩ := H
  replace H : (potbanklaw01_WareNarrows.l0 k l2 (wrap64 (t381 + t388)) ([] : List (S57)) 0 t380 t381 t382 t383 t384 t385 t386 t381 t382) = some r := H
  have A5 := Aside0.mk A50
  clear A50
  have H' := Aside0.mk H
  clear H
  go_enter Try.func8, Try.ntmps8
  try go_wp2_with (first | ((with_reducible refine gate_callee (f := 23) rfl ?_); refine goesL_ (some 23) rfl rfl Try.func23 (by kernel_rfl) rfl #[.int .i64 1, .slice A0 l0.length c0] rfl (by (try simp only [List.map_toArray, List.map_cons, List.map_nil]); first | done | rfl | (simp only [List.length_drop, List.length_take]; rfl)) ?_; (with_reducible refine (potbankref01_MadeBody.calls 1 _ _ l0 t380 t381 t382 t383 t384 t385 t386 _ ?side1 ?side2 A4.out).mono ?_); (case side1 => repeat (first | exact HR0.out | (with_reducible refine Kd.C_alloc ?_ _) | (with_reducible refine Kd.C_drewN ?_ _) | (with_reducible refine Kd.C_drew ?_))); (case side2 => exact HC0.out); rintro e w6 ⟨rfl, hb⟩; refine ⟨_, rfl, ?_⟩; replace HB := Aside0.mk (below_step (by repeat (first | (with_reducible first | exact HB.out | apply below_alloc | apply pw_below_drewN | apply below_drew1) | exact HB.out)) hb); (try clear hb); (try clear hb2); (try clear hk); (try clear hi)) | ((with_reducible refine gate_dst (N := 7) rfl ?_); refine box_event ?hg (N := 7) ?hd (cs := #[.int .i64 0, .int .i64 0, .int .i64 0, .int .i64 0, .int .i64 0, .int .i64 0, .int .i64 0]) (t := 43) ?hr ?_; (case hd => rfl); (case hg => rfl); (case hr => first | (go_simp; done) | (go_simp; rfl)); intro gb387 hg w7 hbox hb; have BK387 := Aside0.mk (hbox); have GW387 := Aside0.mk ((by rw [hg]; exact (below_size (by repeat (first | (with_reducible first | exact HB.out | apply below_alloc | apply pw_below_drewN | apply below_drew1) | exact HB.out))) : w.heap.size ≤ gb387)); have GE387 := Aside0.mk ((by rw [hg]; exact (below_size (by repeat (first | (with_reducible first | exact HB.out | apply below_alloc | apply pw_below_drewN | apply below_drew1) | exact HB.out))) : w.heap.size ≤ gb387)); replace HB := Aside0.mk (below_step (by repeat (first | (with_reducible first | exact HB.out | apply below_alloc | apply pw_below_drewN | apply below_drew1) | exact HB.out)) hb); clear hb hbox hg; obtain ⟨hcz8_0, hcz8_1, hcz8_2, hcz8_3, hcz8_4, hcz8_5, hcz8_6⟩ := cells7 BK387.out; obtain ⟨hfz8_0, hfz8_1, hfz8_2, hfz8_3, hfz8_4, hfz8_5, hfz8_6⟩ := froz7 BK387.out))
  have n0_ : Aside0 ((((((((w7.setCell ⟨gb387, 0, none⟩ (.int .i64 t380)).setCell ⟨gb387, 1, none⟩ (.int .i64 t381)).setCell ⟨gb387, 2, none⟩ (.int .i64 t382)).setCell ⟨gb387, 3, none⟩ (.int .i64 t383)).setCell ⟨gb387, 4, none⟩ (.int .i64 t384)).setCell ⟨gb387, 5, none⟩ (.int .i64 t385)).setCell ⟨gb387, 6, none⟩ (.int .i64 t386)).heap[gb387]? = some (.cells #[.int .i64 t380, .int .i64 t381, .int .i64 t382, .int .i64 t383, .int .i64 t384, .int .i64 t385, .int .i64 t386] 43 (0, 0))) := ⟨by (with_reducible repeat first | apply blk_drewN | apply blk_drew | apply blk_alloc); refine blk_put (cs := #[.int .i64 t380, .int .i64 t381, .int .i64 t382, .int .i64 t383, .int .i64 t384, .int .i64 t385, .int .i64 0]) ?_ 6 _ rfl; (with_reducible repeat first | apply blk_drewN | apply blk_drew | apply blk_alloc); refine blk_put (cs := #[.int .i64 t380, .int .i64 t381, .int .i64 t382, .int .i64 t383, .int .i64 t384, .int .i64 0, .int .i64 0]) ?_ 5 _ rfl; (with_reducible repeat first | apply blk_drewN | apply blk_drew | apply blk_alloc); refine blk_put (cs := #[.int .i64 t380, .int .i64 t381, .int .i64 t382, .int .i64 t383, .int .i64 0, .int .i64 0, .int .i64 0]) ?_ 4 _ rfl; (with_reducible repeat first | apply blk_drewN | apply blk_drew | apply blk_alloc); refine blk_put (cs := #[.int .i64 t380, .int .i64 t381, .int .i64 t382, .int .i64 0, .int .i64 0, .int .i64 0, .int .i64 0]) ?_ 3 _ rfl; (with_reducible repeat first | apply blk_drewN | apply blk_drew | apply blk_alloc); refine blk_put (cs := #[.int .i64 t380, .int .i64 t381, .int .i64 0, .int .i64 0, .int .i64 0, .int .i64 0, .int .i64 0]) ?_ 2 _ rfl; (with_reducible repeat first | apply blk_drewN | apply blk_drew | apply blk_alloc); refine blk_put (cs := #[.int .i64 t380, .int .i64 0, .int .i64 0, .int .i64 0, .int .i64 0, .int .i64 0, .int .i64 0]) ?_ 1 _ rfl; (with_reducible repeat first | apply blk_drewN | apply blk_drew | apply blk_alloc); refine blk_put (cs := #[.int .i64 0, .int .i64 0, .int .i64 0, .int .i64 0, .int .i64 0, .int .i64 0, .int .i64 0]) ?_ 0 _ rfl; (with_reducible repeat first | apply blk_drewN | apply blk_drew | apply blk_alloc); exact BK387.out⟩
  have n1_ : Aside0 (Below w.heap.size w (((((((w7.setCell ⟨gb387, 0, none⟩ (.int .i64 t380)).setCell ⟨gb387, 1, none⟩ (.int .i64 t381)).setCell ⟨gb387, 2, none⟩ (.int .i64 t382)).setCell ⟨gb387, 3, none⟩ (.int .i64 t383)).setCell ⟨gb387, 4, none⟩ (.int .i64 t384)).setCell ⟨gb387, 5, none⟩ (.int .i64 t385)).setCell ⟨gb387, 6, none⟩ (.int .i64 t386))) := ⟨by repeat (first | (with_reducible first | exact HB.out | apply below_alloc | apply pw_below_drewN | apply below_drew1 | refine below_set ?_ GE387.out) | exact HB.out)⟩
  (try clear BK387)
  (try clear HB)
  generalize (((((((w7.setCell ⟨gb387, 0, none⟩ (.int .i64 t380)).setCell ⟨gb387, 1, none⟩ (.int .i64 t381)).setCell ⟨gb387, 2, none⟩ (.int .i64 t382)).setCell ⟨gb387, 3, none⟩ (.int .i64 t383)).setCell ⟨gb387, 4, none⟩ (.int .i64 t384)).setCell ⟨gb387, 5, none⟩ (.int .i64 t385)).setCell ⟨gb387, 6, none⟩ (.int .i64 t386)) = w9 at n0_ n1_ ⊢
  have BK387 := n0_
  have HB := n1_
  clear n0_ n1_
  have n0_ := Aside0.mk (blk_drew BK387.out)
  have n1_ := Aside0.mk (below_drew1 HB.out)
  clear BK387
  clear HB
  have BK387 := n0_
  have HB := n1_
  clear n0_ n1_
  refine start_ (n := 15) (S := fun w' => w'.cell? ⟨gb387, 0, none⟩ = some (.int .i64 t380) ∧ w'.cell? ⟨gb387, 1, none⟩ = some (.int .i64 t381) ∧ w'.cell? ⟨gb387, 2, none⟩ = some (.int .i64 t382) ∧ w'.cell? ⟨gb387, 3, none⟩ = some (.int .i64 t383) ∧ w'.cell? ⟨gb387, 4, none⟩ = some (.int .i64 t384) ∧ w'.cell? ⟨gb387, 5, none⟩ = some (.int .i64 t385) ∧ w'.cell? ⟨gb387, 6, none⟩ = some (.int .i64 t386)) (ds := []) #[false, false, false, false, false, false, false, false, false, false, false, false, false, false, false] (by kernel_rfl) rfl rfl ⟨(blk_cell BK387.out 0).trans rfl, (blk_cell BK387.out 1).trans rfl, (blk_cell BK387.out 2).trans rfl, (blk_cell BK387.out 3).trans rfl, (blk_cell BK387.out 4).trans rfl, (blk_cell BK387.out 5).trans rfl, (blk_cell BK387.out 6).trans rfl⟩ (fun hHeld => ?_); refine with_tabW potbanklaw01_WareNarrows.tab2 potbanklaw01_WareNarrows.bits2 (fun HT_ HW_ => ?_)
  generalize w9.drew = w10 at BK387 HB hHeld ⊢
  refine pure_ (i := 0) (N := some 24) (v := ?_) (a' := ?_) #[true, false, false, false, false, false, false, false, false, false, false, false, false, false, false] rfl rfl (any_of HT_.out (by kernel_rfl)) (fun _ _ _ h => h) (Or.inl ⟨by rfl, ?_⟩) ?_ ?_
  rotate_left
  · intro w'
    go_simp
    with_reducible rfl
  rotate_left
  · simp only [Act.put, List.setIfInBounds_toArray, List.set_cons_zero, List.set_cons_succ, i64_w, i32_w]
    rfl
  refine pure_ (i := 1) (N := some 25) (v := ?_) (a' := ?_) #[true, true, false, false, false, false, false, false, false, false, false, false, false, false, false] rfl rfl (any_of HT_.out (by kernel_rfl)) (fun _ _ _ h => h) (Or.inl ⟨by rfl, ?_⟩) ?_ ?_
  rotate_left
  · intro w'
    go_simp
    with_reducible rfl
  rotate_left
  · simp only [Act.put, List.setIfInBounds_toArray, List.set_cons_zero, List.set_cons_succ, i64_w, i32_w]
    rfl
  refine pure_ (i := 3) (N := some 27) (v := ?_) (a' := ?_) #[true, true, false, true, false, false, false, false, false, false, false, false, false, false, false] rfl rfl (any_of HT_.out (by kernel_rfl)) (fun _ _ _ h => h) (Or.inl ⟨by rfl, ?_⟩) ?_ ?_
  rotate_left
  · intro w'
    go_simp
    with_reducible rfl
  rotate_left
  · simp only [Act.put, List.setIfInBounds_toArray, List.set_cons_zero, List.set_cons_succ, i64_w, i32_w]
    rfl
  refine pure_ (i := 4) (N := some 28) (v := ?_) (a' := ?_) #[true, true, false, true, true, false, false, false, false, false, false, false, false, false, false] rfl rfl (any_of HT_.out (by kernel_rfl)) (fun _ _ _ h => h) (Or.inl ⟨by rfl, ?_⟩) ?_ ?_
  rotate_left
  · intro w'
    go_simp
    with_reducible rfl
  rotate_left
  · simp only [Act.put, List.setIfInBounds_toArray, List.set_cons_zero, List.set_cons_succ, i64_w, i32_w]
    rfl
  refine pure_ (i := 5) (N := some 29) (v := ?_) (a' := ?_) #[true, true, false, true, true, true, false, false, false, false, false, false, false, false, false] rfl rfl (any_of HT_.out (by kernel_rfl)) (fun _ _ _ h => h) (Or.inl ⟨by rfl, ?_⟩) ?_ ?_
  rotate_left
  · intro w'
    go_simp
    with_reducible rfl
  rotate_left
  · simp only [Act.put, List.setIfInBounds_toArray, List.set_cons_zero, List.set_cons_succ, i64_w, i32_w]
    rfl
  refine pure_ (i := 7) (N := some 31) (v := ?_) (a' := ?_) #[true, true, false, true, true, true, false, true, false, false, false, false, false, false, false] rfl rfl (any_of HT_.out (by kernel_rfl)) (fun _ _ _ h => h) (Or.inl ⟨by rfl, ?_⟩) ?_ ?_
  rotate_left
  · intro w'
    go_simp
    with_reducible rfl
  rotate_left
  · simp only [Act.put, List.setIfInBounds_toArray, List.set_cons_zero, List.set_cons_succ, i64_w, i32_w]
    rfl
  refine pure_ (i := 8) (N := some 32) (v := ?_) (a' := ?_) #[true, true, false, true, true, true, false, true, true, false, false, false, false, false, false] rfl rfl (any_of HT_.out (by kernel_rfl)) (fun _ _ _ h => h) (Or.inl ⟨by rfl, ?_⟩) ?_ ?_
  rotate_left
  · intro w'
    go_simp
    with_reducible rfl
  rotate_left
  · simp only [Act.put, List.setIfInBounds_toArray, List.set_cons_zero, List.set_cons_succ, i64_w, i32_w]
    rfl
  refine take_ (i := 2) (N := some 26) (v := ?_) (a' := ?_) #[true, true, true, true, true, true, false, true, true, false, false, false, false, false, false] rfl rfl (take_ofW HT_.out HW_.out (by kernel_rfl)) (fun _ _ _ h => h) (Or.inl ⟨by rfl, ?_⟩) hHeld ?_ ?_
  rotate_left
  · rintro w' ⟨s0, s1, s2, s3, s4, s5, s6⟩
    go_simp
    with_reducible rfl
  rotate_left
  · simp only [Act.put, List.setIfInBounds_toArray, List.set_cons_zero, List.set_cons_succ, i64_w, i32_w]
    rfl
  refine take_ (i := 6) (N := some 30) (v := ?_) (a' := ?_) #[true, true, true, true, true, true, true, true, true, false, false, false, false, false, false] rfl rfl (take_ofW HT_.out HW_.out (by kernel_rfl)) (fun _ _ _ h => h) (Or.inl ⟨by rfl, ?_⟩) hHeld ?_ ?_
  rotate_left
  · rintro w' ⟨s0, s1, s2, s3, s4, s5, s6⟩
    go_simp
    with_reducible rfl
  rotate_left
  · simp only [Act.put, List.setIfInBounds_toArray, List.set_cons_zero, List.set_cons_succ, i64_w, i32_w]
    rfl
  refine take_ (i := 9) (N := some 33) (v := ?_) (a' := ?_) #[true, true, true, true, true, true, true, true, true, true, false, false, false, false, false] rfl rfl (take_ofW HT_.out HW_.out (by kernel_rfl)) (fun _ _ _ h => h) (Or.inl ⟨by rfl, ?_⟩) hHeld ?_ ?_
  rotate_left
  · rintro w' ⟨s0, s1, s2, s3, s4, s5, s6⟩
    go_simp
    with_reducible rfl
  rotate_left
  · simp only [Act.put, List.setIfInBounds_toArray, List.set_cons_zero, List.set_cons_succ, i64_w, i32_w]
    rfl
  refine pure_ (i := 10) (N := some 34) (v := ?_) (a' := ?_) #[true, true, true, true, true, true, true, true, true, true, true, false, false, false, false] rfl rfl (any_of HT_.out (by kernel_rfl)) (fun _ _ _ h => h) (Or.inl ⟨by rfl, ?_⟩) ?_ ?_
  rotate_left
  · intro w'
    go_simp
    with_reducible rfl
  rotate_left
  · simp only [Act.put, List.setIfInBounds_toArray, List.set_cons_zero, List.set_cons_succ, i64_w, i32_w]
    rfl
  refine pure_ (i := 11) (N := some 35) (v := ?_) (a' := ?_) #[true, true, true, true, true, true, true, true, true, true, true, true, false, false, false] rfl rfl (any_of HT_.out (by kernel_rfl)) (fun _ _ _ h => h) (Or.inl ⟨by rfl, ?_⟩) ?_ ?_
  rotate_left
  · intro w'
    go_simp
    with_reducible rfl
  rotate_left
  · simp only [Act.put, List.setIfInBounds_toArray, List.set_cons_zero, List.set_cons_succ, i64_w, i32_w]
    rfl
  refine one_ (i := 12) (N := some 36) #[true, true, true, true, true, true, true, true, true, true, true, true, true, false, false] rfl rfl (one_of HT_.out (by kernel_rfl)) (by decide) (fun K hK => ?_)
  refine goes_ Try.func21 (by kernel_rfl) rfl #[.int .i64 a1, .int .i64 (wrap64 ((wrap64 (t382 - t381)) + 1))] (by rfl) rfl rfl (by (try simp only [List.map_toArray, List.map_cons, List.map_nil]); first | done | rfl | (simp only [List.length_drop, List.length_take]; rfl)) ?_
  with_reducible refine (potbankref01_Mod.calls a1 (wrap64 ((wrap64 (t382 - t381)) + 1)) t388 _ A5.out).mono ?_
  rintro e w' ⟨rfl, ⟨nd, rfl⟩⟩
  refine ⟨_, rfl, ?_⟩
  refine hK.out _ _ ⟨(blk_cell BK387.out 0).trans rfl, (blk_cell BK387.out 1).trans rfl, (blk_cell BK387.out 2).trans rfl, (blk_cell BK387.out 3).trans rfl, (blk_cell BK387.out 4).trans rfl, (blk_cell BK387.out 5).trans rfl, (blk_cell BK387.out 6).trans rfl⟩ (fun hHeld => ?_)
  clear hK K
  refine norm_ (a' := ?_) ?_ ?_
  rotate_left
  · show Act.put _ (some 36) _ = _
    simp only [Act.put, List.setIfInBounds_toArray, List.set_cons_zero, List.set_cons_succ, i64_w, i32_w]
    rfl
  refine pure_ (i := 13) (N := some 37) (v := ?_) (a' := ?_) #[true, true, true, true, true, true, true, true, true, true, true, true, true, true, false] rfl rfl (any_of HT_.out (by kernel_rfl)) (fun _ _ _ h => h) (Or.inl ⟨by rfl, ?_⟩) ?_ ?_
  rotate_left
  · intro w'
    go_simp
    with_reducible rfl
  rotate_left
  · simp only [Act.put, List.setIfInBounds_toArray, List.set_cons_zero, List.set_cons_succ, i64_w, i32_w]
    rfl
  refine pure_ (i := 14) (N := some 8) (v := ?_) (a' := ?_) #[true, true, true, true, true, true, true, true, true, true, true, true, true, true, true] rfl rfl (any_of HT_.out (by kernel_rfl)) (fun _ _ _ h => h) (Or.inl ⟨by rfl, ?_⟩) ?_ ?_
  rotate_left
  · intro w'
    go_simp
    with_reducible rfl
  rotate_left
  · simp only [Act.put, List.setIfInBounds_toArray, List.set_cons_zero, List.set_cons_succ, i64_w, i32_w]
    rfl
  refine done_ (done_of HT_.out (by kernel_rfl)) ?_
  have hcz11_0 : w10.cell? ⟨gb387, 0, none⟩ = some (.int .i64 t380) := (blk_cell BK387.out 0).trans rfl
  have hcz11_1 : w10.cell? ⟨gb387, 1, none⟩ = some (.int .i64 t381) := (blk_cell BK387.out 1).trans rfl
  have hcz11_2 : w10.cell? ⟨gb387, 2, none⟩ = some (.int .i64 t382) := (blk_cell BK387.out 2).trans rfl
  have hcz11_3 : w10.cell? ⟨gb387, 3, none⟩ = some (.int .i64 t383) := (blk_cell BK387.out 3).trans rfl
  have hcz11_4 : w10.cell? ⟨gb387, 4, none⟩ = some (.int .i64 t384) := (blk_cell BK387.out 4).trans rfl
  have hcz11_5 : w10.cell? ⟨gb387, 5, none⟩ = some (.int .i64 t385) := (blk_cell BK387.out 5).trans rfl
  have hcz11_6 : w10.cell? ⟨gb387, 6, none⟩ = some (.int .i64 t386) := (blk_cell BK387.out 6).trans rfl
  have hfz11_0 := blk_frozen BK387.out 0
  have hfz11_1 := blk_frozen BK387.out 1
  have hfz11_2 := blk_frozen BK387.out 2
  have hfz11_3 := blk_frozen BK387.out 3
  have hfz11_4 := blk_frozen BK387.out 4
  have hfz11_5 := blk_frozen BK387.out 5
  have hfz11_6 := blk_frozen BK387.out 6
  try go_wp2_with (first | ((with_reducible refine gate_dst (N := 10) rfl ?_); refine box_event ?hg (N := 10) ?hd (cs := #[.int .i64 0, .int .i64 0]) (t := 23) ?hr ?_; (case hd => rfl); (case hg => rfl); (case hr => first | (go_simp; done) | (go_simp; rfl)); intro gb389 hg w12 hbox hb; have BK389 := Aside0.mk (hbox); have GW389 := Aside0.mk ((by rw [hg]; exact (below_size (by repeat (first | (with_reducible first | exact HB.out | apply below_alloc | apply pw_below_drewN | apply below_drew1 | refine below_set ?_ GE387.out) | exact HB.out))) : w.heap.size ≤ gb389)); have GE389 := Aside0.mk ((by rw [hg]; exact (below_size (by repeat (first | (with_reducible first | exact HB.out | apply below_alloc | apply pw_below_drewN | apply below_drew1 | refine below_set ?_ GE387.out) | exact HB.out))) : w.heap.size ≤ gb389)); replace HB := Aside0.mk (below_step (by repeat (first | (with_reducible first | exact HB.out | apply below_alloc | apply pw_below_drewN | apply below_drew1 | refine below_set ?_ GE387.out) | exact HB.out)) hb); have NB387_389 := Aside0.mk ((by rw [hg]; exact Nat.ne_of_lt (blk_lt (g := gb387) (o := .cells #[.int .i64 t380, .int .i64 t381, .int .i64 t382, .int .i64 t383, .int .i64 t384, .int .i64 t385, .int .i64 t386] 43 (0, 0)) (by (with_reducible repeat first | apply blk_drewN | apply blk_drew | apply blk_alloc); exact BK387.out)) : gb387 ≠ gb389)); have NB389_387 := Aside0.mk ((by rw [hg]; exact Nat.ne_of_gt (blk_lt (g := gb387) (o := .cells #[.int .i64 t380, .int .i64 t381, .int .i64 t382, .int .i64 t383, .int .i64 t384, .int .i64 t385, .int .i64 t386] 43 (0, 0)) (by (with_reducible repeat first | apply blk_drewN | apply blk_drew | apply blk_alloc); exact BK387.out)) : gb389 ≠ gb387)); replace BK387 := blkE BK387 hb; clear hb hbox hg; have hnb13 := NB389_387.out; have hnc13 := NB387_389.out; obtain ⟨hcz14_0, hcz14_1⟩ := cells2 BK389.out; obtain ⟨hfz14_0, hfz14_1⟩ := froz2 BK389.out))
  go_loopg [9, 11] k (fun kq v9 v11 w' => ∃ (x9_1 : List (S57)) (x11_1 : Int) (x390000_1 : Int) (x390001_1 : Int), v11 = .int .i64 x11_1 ∧ Aside0 (potbanklaw01_WareNarrows.l0 kq l2 (wrap64 (t381 + t388)) x9_1 x11_1 t380 t381 t382 t383 t384 t385 t386 x390000_1 x390001_1 = some r) ∧ Aside0 (kq ≤ k) ∧ Aside0 (Kd.R k57 57 w' w.heap.size (fun _ => True) v9 x9_1) ∧ Aside0 (w'.heap[gb387]? = some (.cells #[.int .i64 t380, .int .i64 t381, .int .i64 t382, .int .i64 t383, .int .i64 t384, .int .i64 t385, .int .i64 t386] 43 (0, 0))) ∧ Aside0 (w'.heap[gb389]? = some (.cells #[.int .i64 x390000_1, .int .i64 x390001_1] 23 (0, 0))) ∧ Aside0 (Below w.heap.size w w'))
  case atStart => exact ⟨(([] : List (S57))), (0), (t381), (t382), (by first | rfl | (simp; done) | (simp [*]; done)), H', ⟨Nat.le_refl _⟩, ⟨by first | exact Kd.R_nil _ _ _ _ _ | exact Kd.N_nil _ _ _ _ _ | exact Kd.V_nil _ _ _ _ _ | exact Kd.Q_nil _ _ _ _ _ | exact Kd.S_nil _ _ _ _ _⟩, ⟨by (with_reducible repeat first | apply blk_drewN | apply blk_drew | apply blk_alloc); refine blk_far ?_ NB387_389.out _; (with_reducible repeat first | apply blk_drewN | apply blk_drew | apply blk_alloc); refine blk_far ?_ NB387_389.out _; (with_reducible repeat first | apply blk_drewN | apply blk_drew | apply blk_alloc); exact BK387.out⟩, ⟨by (with_reducible repeat first | apply blk_drewN | apply blk_drew | apply blk_alloc); refine blk_put (cs := #[.int .i64 t381, .int .i64 0]) ?_ 1 _ rfl; (with_reducible repeat first | apply blk_drewN | apply blk_drew | apply blk_alloc); refine blk_put (cs := #[.int .i64 0, .int .i64 0]) ?_ 0 _ rfl; (with_reducible repeat first | apply blk_drewN | apply blk_drew | apply blk_alloc); exact BK389.out⟩, ⟨by repeat (first | (with_reducible first | exact HB.out | apply below_alloc | apply pw_below_drewN | apply below_drew1 | refine below_set ?_ GE387.out | refine below_set ?_ GE389.out) | exact HB.out)⟩⟩
  case round =>
    clear H'
    try clear c1
    try clear c2
    try clear p2
    try clear p6
    try clear c8
    try clear c13
    try clear hcz11_0
    try clear hcz11_1
    try clear hcz11_2
    try clear hcz11_3
    try clear hcz11_4
    try clear hcz11_5
    try clear hcz11_6
    try clear hcz14_0
    try clear hcz14_1
    try clear hcz8_0
    try clear hcz8_1
    try clear hcz8_2
    try clear hcz8_3
    try clear hcz8_4
    try clear hcz8_5
    try clear hcz8_6
    try clear hfz11_0
    try clear hfz11_1
    try clear hfz11_2
    try clear hfz11_3
    try clear hfz11_4
    try clear hfz11_5
    try clear hfz11_6
    try clear hfz14_0
    try clear hfz14_1
    try clear hfz8_0
    try clear hfz8_1
    try clear hfz8_2
    try clear hfz8_3
    try clear hfz8_4
    try clear hfz8_5
    try clear hfz8_6
    obtain ⟨x9_1, x11_1, x390000_1, x390001_1, rfl, HA, HK1, HO_9, BK387, BK389, HB⟩ := hrel
    cases gk with
    | zero => exact absurd HA.out (by simp [potbanklaw01_WareNarrows.l0])
    | succ k1 =>
      have H := HA.out
      clear HA
      simp only [potbanklaw01_WareNarrows.l0] at H
      have HC15 := Aside0.mk H
      clear H
      go_upto_region 6 with (fail)
      go_cut [47] (fun v47 wc => ∃ (kq : Nat) (x47_14 : Bool), v47 = .bool x47_14 ∧ Aside0 (potbanklaw01_WareNarrows.j1 kq l2 (wrap64 (t381 + t388)) x9_1 x11_1 x47_14 t380 t381 t382 t383 t384 t385 t386 x390000_1 x390001_1 = some r) ∧ Aside0 (kq ≤ k1) ∧ Aside0 (Kd.R k57 57 wc w.heap.size (fun _ => True) u9 x9_1) ∧ Aside0 (wc.heap[gb387]? = some (.cells #[.int .i64 t380, .int .i64 t381, .int .i64 t382, .int .i64 t383, .int .i64 t384, .int .i64 t385, .int .i64 t386] 43 (0, 0))) ∧ Aside0 (wc.heap[gb389]? = some (.cells #[.int .i64 x390000_1, .int .i64 x390001_1] 23 (0, 0))) ∧ Aside0 (Below w.heap.size w wc))
      case first =>
        have H := HC15.out
        clear HC15
        by_cases c16 : x11_1 < (l2.length : Int)
        · rw [if_pos c16] at H
          have c16b0 : decide (x11_1 < (l2.length : Int)) = true := decide_eq_true c16
          clear c16
          (first | rw [c16b0] | (simp only [i64_w, i32_w]; rw [c16b0]) | skip)
          have H' := Aside0.mk H
          clear H
          go_wp2
          go_meet
          case rel => exact ⟨_, (decide (x11_1 < 12)), (by first | rfl | (simp; done) | (simp [*]; done)), H', ⟨by have := HK1.out; first | omega | exact Nat.le_refl _⟩, ⟨by (with_reducible repeat (first | apply Kd.R_alloc | apply Kd.R_drewN | apply Kd.R_drew)); exact HO_9.out⟩, ⟨by (with_reducible repeat first | apply blk_drewN | apply blk_drew | apply blk_alloc); exact BK387.out⟩, ⟨by (with_reducible repeat first | apply blk_drewN | apply blk_drew | apply blk_alloc); exact BK389.out⟩, ⟨by repeat (first | (with_reducible first | exact HB.out | apply below_alloc | apply pw_below_drewN | apply below_drew1 | refine below_set ?_ GE387.out | refine below_set ?_ GE389.out) | exact HB.out)⟩⟩
        · rw [if_neg c16] at H
          have c16b0 : decide (x11_1 < (l2.length : Int)) = false := decide_eq_false c16
          clear c16
          (first | rw [c16b0] | (simp only [i64_w, i32_w]; rw [c16b0]) | skip)
          have H' := Aside0.mk H
          clear H
          go_wp2
          go_meet
          case rel => exact ⟨_, (false), (by first | rfl | (simp; done) | (simp [*]; done)), H', ⟨by have := HK1.out; first | omega | exact Nat.le_refl _⟩, ⟨by (with_reducible repeat (first | apply Kd.R_alloc | apply Kd.R_drewN | apply Kd.R_drew)); exact HO_9.out⟩, ⟨by (with_reducible repeat first | apply blk_drewN | apply blk_drew | apply blk_alloc); exact BK387.out⟩, ⟨by (with_reducible repeat first | apply blk_drewN | apply blk_drew | apply blk_alloc); exact BK389.out⟩, ⟨by repeat (first | (with_reducible first | exact HB.out | apply below_alloc | apply pw_below_drewN | apply below_drew1 | refine below_set ?_ GE387.out | refine below_set ?_ GE389.out) | exact HB.out)⟩⟩
      case rest =>
        clear HC15
        try clear c1
        try clear c2
        try clear p2
        try clear p6
        try clear c8
        try clear c13
        try clear c16
        try clear c16b0
        try clear hcz11_0
        try clear hcz11_1
        try clear hcz11_2
        try clear hcz11_3
        try clear hcz11_4
        try clear hcz11_5
        try clear hcz11_6
        try clear hcz14_0
        try clear hcz14_1
        try clear hcz8_0
        try clear hcz8_1
        try clear hcz8_2
        try clear hcz8_3
        try clear hcz8_4
        try clear hcz8_5
        try clear hcz8_6
        try clear hfz11_0
        try clear hfz11_1
        try clear hfz11_2
        try clear hfz11_3
        try clear hfz11_4
        try clear hfz11_5
        try clear hfz11_6
        try clear hfz14_0
        try clear hfz14_1
        try clear hfz8_0
        try clear hfz8_1
        try clear hfz8_2
        try clear hfz8_3
        try clear hfz8_4
        try clear hfz8_5
        try clear hfz8_6
        try clear p2
        try clear p6
        obtain ⟨kq, x47_14, rfl, HA, HJ14, HO_9, BK387, BK389, HB⟩ := hcut
        cases kq with
        | zero => exact absurd HA.out (by simp [potbanklaw01_WareNarrows.j1])
        | succ kj14 =>
          have H := HA.out
          clear HA
          simp only [potbanklaw01_WareNarrows.j1] at H
          by_cases c17 : x47_14 = true
          · subst c17
            have H1 : (if 0 ≤ x11_1 then (if x11_1 < (l2.length : Int) then ((potbankref01_Mod.f ((rd_T46 l2 x11_1).f0) 900).bind fun t392 => ((potbankref01_Mod.f ((rd_T46 l2 x11_1).f1) 4).bind fun t394 => ((potbankref01_Down.f (wrap64 ((wrap64 (1 + t392)) * (wrap64 (1000 - (wrap64 (t381 + t388)))))) 1000).bind fun t395 => ((potbankref01_Mod.f ((rd_T46 l2 x11_1).f2) 3).bind fun t397 => ((potbankref01_Up.f (wrap64 ((wrap64 (1 + t392)) * (wrap64 (1000 - (wrap64 (t381 + t388)))))) 1000).bind fun t398 => (if x9_1.length < 3518437208883 then ((some (x9_1 ++ [(⟨wrap64 (1 + x11_1), (⟨mx (wrap64 ((wrap64 (1 + t392)) - t394)) 1, wrap64 ((wrap64 (1 + t392)) + t394)⟩ : S23), (⟨mx (wrap64 (t395 - t397)) 0, t398⟩ : S23)⟩ : S57)] : List (S57))).bind fun y400 => ((ware_Narrow.f t380 t381 t382 t383 t384 t385 t386 y400).bind fun bt403 => (if bt403.2.2.2.2.2.2.2 = 0 then (if bt403.2.1 > (wrap64 (t381 + t388)) then (potbanklaw01_WareNarrows.j2 kj14 l2 (wrap64 (t381 + t388)) y400 x11_1 (wrap64 (1 + t392)) true t380 t381 t382 t383 t384 t385 t386 bt403.1 bt403.2.1 bt403.2.2.1 bt403.2.2.2.1 bt403.2.2.2.2.1 bt403.2.2.2.2.2.1 bt403.2.2.2.2.2.2.1) else (if bt403.2.2.1 < (wrap64 (t381 + t388)) then (potbanklaw01_WareNarrows.j2 kj14 l2 (wrap64 (t381 + t388)) y400 x11_1 (wrap64 (1 + t392)) true t380 t381 t382 t383 t384 t385 t386 bt403.1 bt403.2.1 bt403.2.2.1 bt403.2.2.2.1 bt403.2.2.2.2.1 bt403.2.2.2.2.2.1 bt403.2.2.2.2.2.2.1) else (if bt403.2.1 < x390000_1 then (potbanklaw01_WareNarrows.j2 kj14 l2 (wrap64 (t381 + t388)) y400 x11_1 (wrap64 (1 + t392)) true t380 t381 t382 t383 t384 t385 t386 bt403.1 bt403.2.1 bt403.2.2.1 bt403.2.2.2.1 bt403.2.2.2.2.1 bt403.2.2.2.2.2.1 bt403.2.2.2.2.2.2.1) else (if bt403.2.2.1 > x390001_1 then (potbanklaw01_WareNarrows.j2 kj14 l2 (wrap64 (t381 + t388)) y400 x11_1 (wrap64 (1 + t392)) true t380 t381 t382 t383 t384 t385 t386 bt403.1 bt403.2.1 bt403.2.2.1 bt403.2.2.2.1 bt403.2.2.2.2.1 bt403.2.2.2.2.2.1 bt403.2.2.2.2.2.2.1) else (if (!(bt403.2.2.2.2.2.1 == t385) || (!(bt403.2.2.2.2.2.2.1 == t386))) = true then (potbanklaw01_WareNarrows.j2 kj14 l2 (wrap64 (t381 + t388)) y400 x11_1 (wrap64 (1 + t392)) true t380 t381 t382 t383 t384 t385 t386 bt403.1 bt403.2.1 bt403.2.2.1 bt403.2.2.2.1 bt403.2.2.2.2.1 bt403.2.2.2.2.2.1 bt403.2.2.2.2.2.2.1) else (potbanklaw01_WareNarrows.j2 kj14 l2 (wrap64 (t381 + t388)) y400 x11_1 (wrap64 (1 + t392)) (!(bt403.2.2.2.1 == t383) || (!(bt403.2.2.2.2.1 == t384))) t380 t381 t382 t383 t384 t385 t386 bt403.1 bt403.2.1 bt403.2.2.1 bt403.2.2.2.1 bt403.2.2.2.2.1 bt403.2.2.2.2.2.1 bt403.2.2.2.2.2.2.1)))))) else (potbanklaw01_WareNarrows.j2 kj14 l2 (wrap64 (t381 + t388)) y400 x11_1 (wrap64 (1 + t392)) true t380 t381 t382 t383 t384 t385 t386 bt403.1 bt403.2.1 bt403.2.2.1 bt403.2.2.2.1 bt403.2.2.2.2.1 bt403.2.2.2.2.2.1 bt403.2.2.2.2.2.2.1)))) else (none))))))) else (none)) else (none)) = some r := by rw [if_pos rfl] at H; exact H
            clear H
            have H := H1
            clear H1
            by_cases c18 : 0 ≤ x11_1
            · rw [if_pos c18] at H
              have c18b0 : decide (0 ≤ x11_1) = true := decide_eq_true c18
              clear c18
              by_cases c19 : x11_1 < (l2.length : Int)
              · rw [if_pos c19] at H
                have c19b0 : decide (x11_1 < (l2.length : Int)) = true := decide_eq_true c19
                clear c19
                replace H := Option.bind_eq_some_iff.mp H
                obtain ⟨t392, A200, H⟩ := H
                replace H : ((potbankref01_Mod.f ((rd_T46 l2 x11_1).f1) 4).bind fun t394 => ((potbankref01_Down.f (wrap64 ((wrap64 (1 + t392)) * (wrap64 (1000 - (wrap64 (t381 + t388)))))) 1000).bind fun t395 => ((potbankref01_Mod.f ((rd_T46 l2 x11_1).f2) 3).bind fun t397 => ((potbankref01_Up.f (wrap64 ((wrap64 (1 + t392)) * (wrap64 (1000 - (wrap64 (t381 + t388)))))) 1000).bind fun t398 => (if x9_1.length < 3518437208883 then ((some (x9_1 ++ [(⟨wrap64 (1 + x11_1), (⟨mx (wrap64 ((wrap64 (1 + t392)) - t394)) 1, wrap64 ((wrap64 (1 + t392)) + t394)⟩ : S23), (⟨mx (wrap64 (t395 - t397)) 0, t398⟩ : S23)⟩ : S57)] : List (S57))).bind fun y400 => ((ware_Narrow.f t380 t381 t382 t383 t384 t385 t386 y400).bind fun bt403 => (if bt403.2.2.2.2.2.2.2 = 0 then (if bt403.2.1 > (wrap64 (t381 + t388)) then (potbanklaw01_WareNarrows.j2 kj14 l2 (wrap64 (t381 + t388)) y400 x11_1 (wrap64 (1 + t392)) true t380 t381 t382 t383 t384 t385 t386 bt403.1 bt403.2.1 bt403.2.2.1 bt403.2.2.2.1 bt403.2.2.2.2.1 bt403.2.2.2.2.2.1 bt403.2.2.2.2.2.2.1) else (if bt403.2.2.1 < (wrap64 (t381 + t388)) then (potbanklaw01_WareNarrows.j2 kj14 l2 (wrap64 (t381 + t388)) y400 x11_1 (wrap64 (1 + t392)) true t380 t381 t382 t383 t384 t385 t386 bt403.1 bt403.2.1 bt403.2.2.1 bt403.2.2.2.1 bt403.2.2.2.2.1 bt403.2.2.2.2.2.1 bt403.2.2.2.2.2.2.1) else (if bt403.2.1 < x390000_1 then (potbanklaw01_WareNarrows.j2 kj14 l2 (wrap64 (t381 + t388)) y400 x11_1 (wrap64 (1 + t392)) true t380 t381 t382 t383 t384 t385 t386 bt403.1 bt403.2.1 bt403.2.2.1 bt403.2.2.2.1 bt403.2.2.2.2.1 bt403.2.2.2.2.2.1 bt403.2.2.2.2.2.2.1) else (if bt403.2.2.1 > x390001_1 then (potbanklaw01_WareNarrows.j2 kj14 l2 (wrap64 (t381 + t388)) y400 x11_1 (wrap64 (1 + t392)) true t380 t381 t382 t383 t384 t385 t386 bt403.1 bt403.2.1 bt403.2.2.1 bt403.2.2.2.1 bt403.2.2.2.2.1 bt403.2.2.2.2.2.1 bt403.2.2.2.2.2.2.1) else (if (!(bt403.2.2.2.2.2.1 == t385) || (!(bt403.2.2.2.2.2.2.1 == t386))) = true then (potbanklaw01_WareNarrows.j2 kj14 l2 (wrap64 (t381 + t388)) y400 x11_1 (wrap64 (1 + t392)) true t380 t381 t382 t383 t384 t385 t386 bt403.1 bt403.2.1 bt403.2.2.1 bt403.2.2.2.1 bt403.2.2.2.2.1 bt403.2.2.2.2.2.1 bt403.2.2.2.2.2.2.1) else (potbanklaw01_WareNarrows.j2 kj14 l2 (wrap64 (t381 + t388)) y400 x11_1 (wrap64 (1 + t392)) (!(bt403.2.2.2.1 == t383) || (!(bt403.2.2.2.2.1 == t384))) t380 t381 t382 t383 t384 t385 t386 bt403.1 bt403.2.1 bt403.2.2.1 bt403.2.2.2.1 bt403.2.2.2.2.1 bt403.2.2.2.2.2.1 bt403.2.2.2.2.2.2.1)))))) else (potbanklaw01_WareNarrows.j2 kj14 l2 (wrap64 (t381 + t388)) y400 x11_1 (wrap64 (1 + t392)) true t380 t381 t382 t383 t384 t385 t386 bt403.1 bt403.2.1 bt403.2.2.1 bt403.2.2.2.1 bt403.2.2.2.2.1 bt403.2.2.2.2.2.1 bt403.2.2.2.2.2.2.1)))) else (none)))))) = some r := H
                have A20 := Aside0.mk A200
                clear A200
                replace H := Option.bind_eq_some_iff.mp H
                obtain ⟨t394, A210, H⟩ := H
                replace H : ((potbankref01_Down.f (wrap64 ((wrap64 (1 + t392)) * (wrap64 (1000 - (wrap64 (t381 + t388)))))) 1000).bind fun t395 => ((potbankref01_Mod.f ((rd_T46 l2 x11_1).f2) 3).bind fun t397 => ((potbankref01_Up.f (wrap64 ((wrap64 (1 + t392)) * (wrap64 (1000 - (wrap64 (t381 + t388)))))) 1000).bind fun t398 => (if x9_1.length < 3518437208883 then ((some (x9_1 ++ [(⟨wrap64 (1 + x11_1), (⟨mx (wrap64 ((wrap64 (1 + t392)) - t394)) 1, wrap64 ((wrap64 (1 + t392)) + t394)⟩ : S23), (⟨mx (wrap64 (t395 - t397)) 0, t398⟩ : S23)⟩ : S57)] : List (S57))).bind fun y400 => ((ware_Narrow.f t380 t381 t382 t383 t384 t385 t386 y400).bind fun bt403 => (if bt403.2.2.2.2.2.2.2 = 0 then (if bt403.2.1 > (wrap64 (t381 + t388)) then (potbanklaw01_WareNarrows.j2 kj14 l2 (wrap64 (t381 + t388)) y400 x11_1 (wrap64 (1 + t392)) true t380 t381 t382 t383 t384 t385 t386 bt403.1 bt403.2.1 bt403.2.2.1 bt403.2.2.2.1 bt403.2.2.2.2.1 bt403.2.2.2.2.2.1 bt403.2.2.2.2.2.2.1) else (if bt403.2.2.1 < (wrap64 (t381 + t388)) then (potbanklaw01_WareNarrows.j2 kj14 l2 (wrap64 (t381 + t388)) y400 x11_1 (wrap64 (1 + t392)) true t380 t381 t382 t383 t384 t385 t386 bt403.1 bt403.2.1 bt403.2.2.1 bt403.2.2.2.1 bt403.2.2.2.2.1 bt403.2.2.2.2.2.1 bt403.2.2.2.2.2.2.1) else (if bt403.2.1 < x390000_1 then (potbanklaw01_WareNarrows.j2 kj14 l2 (wrap64 (t381 + t388)) y400 x11_1 (wrap64 (1 + t392)) true t380 t381 t382 t383 t384 t385 t386 bt403.1 bt403.2.1 bt403.2.2.1 bt403.2.2.2.1 bt403.2.2.2.2.1 bt403.2.2.2.2.2.1 bt403.2.2.2.2.2.2.1) else (if bt403.2.2.1 > x390001_1 then (potbanklaw01_WareNarrows.j2 kj14 l2 (wrap64 (t381 + t388)) y400 x11_1 (wrap64 (1 + t392)) true t380 t381 t382 t383 t384 t385 t386 bt403.1 bt403.2.1 bt403.2.2.1 bt403.2.2.2.1 bt403.2.2.2.2.1 bt403.2.2.2.2.2.1 bt403.2.2.2.2.2.2.1) else (if (!(bt403.2.2.2.2.2.1 == t385) || (!(bt403.2.2.2.2.2.2.1 == t386))) = true then (potbanklaw01_WareNarrows.j2 kj14 l2 (wrap64 (t381 + t388)) y400 x11_1 (wrap64 (1 + t392)) true t380 t381 t382 t383 t384 t385 t386 bt403.1 bt403.2.1 bt403.2.2.1 bt403.2.2.2.1 bt403.2.2.2.2.1 bt403.2.2.2.2.2.1 bt403.2.2.2.2.2.2.1) else (potbanklaw01_WareNarrows.j2 kj14 l2 (wrap64 (t381 + t388)) y400 x11_1 (wrap64 (1 + t392)) (!(bt403.2.2.2.1 == t383) || (!(bt403.2.2.2.2.1 == t384))) t380 t381 t382 t383 t384 t385 t386 bt403.1 bt403.2.1 bt403.2.2.1 bt403.2.2.2.1 bt403.2.2.2.2.1 bt403.2.2.2.2.2.1 bt403.2.2.2.2.2.2.1)))))) else (potbanklaw01_WareNarrows.j2 kj14 l2 (wrap64 (t381 + t388)) y400 x11_1 (wrap64 (1 + t392)) true t380 t381 t382 t383 t384 t385 t386 bt403.1 bt403.2.1 bt403.2.2.1 bt403.2.2.2.1 bt403.2.2.2.2.1 bt403.2.2.2.2.2.1 bt403.2.2.2.2.2.2.1)))) else (none))))) = some r := H
                have A21 := Aside0.mk A210
                clear A210
                obtain ⟨ji22, hji22⟩ : ∃ j_ : Int, (mx (wrap64 ((wrap64 (1 + t392)) - t394)) 1) = j_ := ⟨_, rfl⟩
                replace H : ((potbankref01_Down.f (wrap64 ((wrap64 (1 + t392)) * (wrap64 (1000 - (wrap64 (t381 + t388)))))) 1000).bind fun t395 => ((potbankref01_Mod.f ((rd_T46 l2 x11_1).f2) 3).bind fun t397 => ((potbankref01_Up.f (wrap64 ((wrap64 (1 + t392)) * (wrap64 (1000 - (wrap64 (t381 + t388)))))) 1000).bind fun t398 => (if x9_1.length < 3518437208883 then ((some (x9_1 ++ [(⟨wrap64 (1 + x11_1), (⟨ji22, wrap64 ((wrap64 (1 + t392)) + t394)⟩ : S23), (⟨mx (wrap64 (t395 - t397)) 0, t398⟩ : S23)⟩ : S57)] : List (S57))).bind fun y400 => ((ware_Narrow.f t380 t381 t382 t383 t384 t385 t386 y400).bind fun bt403 => (if bt403.2.2.2.2.2.2.2 = 0 then (if bt403.2.1 > (wrap64 (t381 + t388)) then (potbanklaw01_WareNarrows.j2 kj14 l2 (wrap64 (t381 + t388)) y400 x11_1 (wrap64 (1 + t392)) true t380 t381 t382 t383 t384 t385 t386 bt403.1 bt403.2.1 bt403.2.2.1 bt403.2.2.2.1 bt403.2.2.2.2.1 bt403.2.2.2.2.2.1 bt403.2.2.2.2.2.2.1) else (if bt403.2.2.1 < (wrap64 (t381 + t388)) then (potbanklaw01_WareNarrows.j2 kj14 l2 (wrap64 (t381 + t388)) y400 x11_1 (wrap64 (1 + t392)) true t380 t381 t382 t383 t384 t385 t386 bt403.1 bt403.2.1 bt403.2.2.1 bt403.2.2.2.1 bt403.2.2.2.2.1 bt403.2.2.2.2.2.1 bt403.2.2.2.2.2.2.1) else (if bt403.2.1 < x390000_1 then (potbanklaw01_WareNarrows.j2 kj14 l2 (wrap64 (t381 + t388)) y400 x11_1 (wrap64 (1 + t392)) true t380 t381 t382 t383 t384 t385 t386 bt403.1 bt403.2.1 bt403.2.2.1 bt403.2.2.2.1 bt403.2.2.2.2.1 bt403.2.2.2.2.2.1 bt403.2.2.2.2.2.2.1) else (if bt403.2.2.1 > x390001_1 then (potbanklaw01_WareNarrows.j2 kj14 l2 (wrap64 (t381 + t388)) y400 x11_1 (wrap64 (1 + t392)) true t380 t381 t382 t383 t384 t385 t386 bt403.1 bt403.2.1 bt403.2.2.1 bt403.2.2.2.1 bt403.2.2.2.2.1 bt403.2.2.2.2.2.1 bt403.2.2.2.2.2.2.1) else (if (!(bt403.2.2.2.2.2.1 == t385) || (!(bt403.2.2.2.2.2.2.1 == t386))) = true then (potbanklaw01_WareNarrows.j2 kj14 l2 (wrap64 (t381 + t388)) y400 x11_1 (wrap64 (1 + t392)) true t380 t381 t382 t383 t384 t385 t386 bt403.1 bt403.2.1 bt403.2.2.1 bt403.2.2.2.1 bt403.2.2.2.2.1 bt403.2.2.2.2.2.1 bt403.2.2.2.2.2.2.1) else (potbanklaw01_WareNarrows.j2 kj14 l2 (wrap64 (t381 + t388)) y400 x11_1 (wrap64 (1 + t392)) (!(bt403.2.2.2.1 == t383) || (!(bt403.2.2.2.2.1 == t384))) t380 t381 t382 t383 t384 t385 t386 bt403.1 bt403.2.1 bt403.2.2.1 bt403.2.2.2.1 bt403.2.2.2.2.1 bt403.2.2.2.2.2.1 bt403.2.2.2.2.2.2.1)))))) else (potbanklaw01_WareNarrows.j2 kj14 l2 (wrap64 (t381 + t388)) y400 x11_1 (wrap64 (1 + t392)) true t380 t381 t382 t383 t384 t385 t386 bt403.1 bt403.2.1 bt403.2.2.1 bt403.2.2.2.1 bt403.2.2.2.2.1 bt403.2.2.2.2.2.1 bt403.2.2.2.2.2.2.1)))) else (none))))) = some r := by first | (rw [hji22] at H; exact H) | (simp only [hji22] at H ⊢; exact H)
                (try rw [hji22] at A20)
                (try rw [hji22] at A21)
                (try (have hji22l : 1 ≤ ji22 := by (rw [← hji22]; unfold mx; (repeat' split) <;> omega)))
                (try (have hji22m : 0 ≤ ji22 := by omega))
                have hji22_ : (if (wrap64 ((wrap64 (1 + t392)) - t394)) < 1 then 1 else (wrap64 ((wrap64 (1 + t392)) - t394))) = ji22 := hji22
                replace H := Option.bind_eq_some_iff.mp H
                obtain ⟨t395, A230, H⟩ := H
                replace H : ((potbankref01_Mod.f ((rd_T46 l2 x11_1).f2) 3).bind fun t397 => ((potbankref01_Up.f (wrap64 ((wrap64 (1 + t392)) * (wrap64 (1000 - (wrap64 (t381 + t388)))))) 1000).bind fun t398 => (if x9_1.length < 3518437208883 then ((some (x9_1 ++ [(⟨wrap64 (1 + x11_1), (⟨ji22, wrap64 ((wrap64 (1 + t392)) + t394)⟩ : S23), (⟨mx (wrap64 (t395 - t397)) 0, t398⟩ : S23)⟩ : S57)] : List (S57))).bind fun y400 => ((ware_Narrow.f t380 t381 t382 t383 t384 t385 t386 y400).bind fun bt403 => (if bt403.2.2.2.2.2.2.2 = 0 then (if bt403.2.1 > (wrap64 (t381 + t388)) then (potbanklaw01_WareNarrows.j2 kj14 l2 (wrap64 (t381 + t388)) y400 x11_1 (wrap64 (1 + t392)) true t380 t381 t382 t383 t384 t385 t386 bt403.1 bt403.2.1 bt403.2.2.1 bt403.2.2.2.1 bt403.2.2.2.2.1 bt403.2.2.2.2.2.1 bt403.2.2.2.2.2.2.1) else (if bt403.2.2.1 < (wrap64 (t381 + t388)) then (potbanklaw01_WareNarrows.j2 kj14 l2 (wrap64 (t381 + t388)) y400 x11_1 (wrap64 (1 + t392)) true t380 t381 t382 t383 t384 t385 t386 bt403.1 bt403.2.1 bt403.2.2.1 bt403.2.2.2.1 bt403.2.2.2.2.1 bt403.2.2.2.2.2.1 bt403.2.2.2.2.2.2.1) else (if bt403.2.1 < x390000_1 then (potbanklaw01_WareNarrows.j2 kj14 l2 (wrap64 (t381 + t388)) y400 x11_1 (wrap64 (1 + t392)) true t380 t381 t382 t383 t384 t385 t386 bt403.1 bt403.2.1 bt403.2.2.1 bt403.2.2.2.1 bt403.2.2.2.2.1 bt403.2.2.2.2.2.1 bt403.2.2.2.2.2.2.1) else (if bt403.2.2.1 > x390001_1 then (potbanklaw01_WareNarrows.j2 kj14 l2 (wrap64 (t381 + t388)) y400 x11_1 (wrap64 (1 + t392)) true t380 t381 t382 t383 t384 t385 t386 bt403.1 bt403.2.1 bt403.2.2.1 bt403.2.2.2.1 bt403.2.2.2.2.1 bt403.2.2.2.2.2.1 bt403.2.2.2.2.2.2.1) else (if (!(bt403.2.2.2.2.2.1 == t385) || (!(bt403.2.2.2.2.2.2.1 == t386))) = true then (potbanklaw01_WareNarrows.j2 kj14 l2 (wrap64 (t381 + t388)) y400 x11_1 (wrap64 (1 + t392)) true t380 t381 t382 t383 t384 t385 t386 bt403.1 bt403.2.1 bt403.2.2.1 bt403.2.2.2.1 bt403.2.2.2.2.1 bt403.2.2.2.2.2.1 bt403.2.2.2.2.2.2.1) else (potbanklaw01_WareNarrows.j2 kj14 l2 (wrap64 (t381 + t388)) y400 x11_1 (wrap64 (1 + t392)) (!(bt403.2.2.2.1 == t383) || (!(bt403.2.2.2.2.1 == t384))) t380 t381 t382 t383 t384 t385 t386 bt403.1 bt403.2.1 bt403.2.2.1 bt403.2.2.2.1 bt403.2.2.2.2.1 bt403.2.2.2.2.2.1 bt403.2.2.2.2.2.2.1)))))) else (potbanklaw01_WareNarrows.j2 kj14 l2 (wrap64 (t381 + t388)) y400 x11_1 (wrap64 (1 + t392)) true t380 t381 t382 t383 t384 t385 t386 bt403.1 bt403.2.1 bt403.2.2.1 bt403.2.2.2.1 bt403.2.2.2.2.1 bt403.2.2.2.2.2.1 bt403.2.2.2.2.2.2.1)))) else (none)))) = some r := H
                have A23 := Aside0.mk A230
                clear A230
                replace H := Option.bind_eq_some_iff.mp H
                obtain ⟨t397, A240, H⟩ := H
                replace H : ((potbankref01_Up.f (wrap64 ((wrap64 (1 + t392)) * (wrap64 (1000 - (wrap64 (t381 + t388)))))) 1000).bind fun t398 => (if x9_1.length < 3518437208883 then ((some (x9_1 ++ [(⟨wrap64 (1 + x11_1), (⟨ji22, wrap64 ((wrap64 (1 + t392)) + t394)⟩ : S23), (⟨mx (wrap64 (t395 - t397)) 0, t398⟩ : S23)⟩ : S57)] : List (S57))).bind fun y400 => ((ware_Narrow.f t380 t381 t382 t383 t384 t385 t386 y400).bind fun bt403 => (if bt403.2.2.2.2.2.2.2 = 0 then (if bt403.2.1 > (wrap64 (t381 + t388)) then (potbanklaw01_WareNarrows.j2 kj14 l2 (wrap64 (t381 + t388)) y400 x11_1 (wrap64 (1 + t392)) true t380 t381 t382 t383 t384 t385 t386 bt403.1 bt403.2.1 bt403.2.2.1 bt403.2.2.2.1 bt403.2.2.2.2.1 bt403.2.2.2.2.2.1 bt403.2.2.2.2.2.2.1) else (if bt403.2.2.1 < (wrap64 (t381 + t388)) then (potbanklaw01_WareNarrows.j2 kj14 l2 (wrap64 (t381 + t388)) y400 x11_1 (wrap64 (1 + t392)) true t380 t381 t382 t383 t384 t385 t386 bt403.1 bt403.2.1 bt403.2.2.1 bt403.2.2.2.1 bt403.2.2.2.2.1 bt403.2.2.2.2.2.1 bt403.2.2.2.2.2.2.1) else (if bt403.2.1 < x390000_1 then (potbanklaw01_WareNarrows.j2 kj14 l2 (wrap64 (t381 + t388)) y400 x11_1 (wrap64 (1 + t392)) true t380 t381 t382 t383 t384 t385 t386 bt403.1 bt403.2.1 bt403.2.2.1 bt403.2.2.2.1 bt403.2.2.2.2.1 bt403.2.2.2.2.2.1 bt403.2.2.2.2.2.2.1) else (if bt403.2.2.1 > x390001_1 then (potbanklaw01_WareNarrows.j2 kj14 l2 (wrap64 (t381 + t388)) y400 x11_1 (wrap64 (1 + t392)) true t380 t381 t382 t383 t384 t385 t386 bt403.1 bt403.2.1 bt403.2.2.1 bt403.2.2.2.1 bt403.2.2.2.2.1 bt403.2.2.2.2.2.1 bt403.2.2.2.2.2.2.1) else (if (!(bt403.2.2.2.2.2.1 == t385) || (!(bt403.2.2.2.2.2.2.1 == t386))) = true then (potbanklaw01_WareNarrows.j2 kj14 l2 (wrap64 (t381 + t388)) y400 x11_1 (wrap64 (1 + t392)) true t380 t381 t382 t383 t384 t385 t386 bt403.1 bt403.2.1 bt403.2.2.1 bt403.2.2.2.1 bt403.2.2.2.2.1 bt403.2.2.2.2.2.1 bt403.2.2.2.2.2.2.1) else (potbanklaw01_WareNarrows.j2 kj14 l2 (wrap64 (t381 + t388)) y400 x11_1 (wrap64 (1 + t392)) (!(bt403.2.2.2.1 == t383) || (!(bt403.2.2.2.2.1 == t384))) t380 t381 t382 t383 t384 t385 t386 bt403.1 bt403.2.1 bt403.2.2.1 bt403.2.2.2.1 bt403.2.2.2.2.1 bt403.2.2.2.2.2.1 bt403.2.2.2.2.2.2.1)))))) else (potbanklaw01_WareNarrows.j2 kj14 l2 (wrap64 (t381 + t388)) y400 x11_1 (wrap64 (1 + t392)) true t380 t381 t382 t383 t384 t385 t386 bt403.1 bt403.2.1 bt403.2.2.1 bt403.2.2.2.1 bt403.2.2.2.2.1 bt403.2.2.2.2.2.1 bt403.2.2.2.2.2.2.1)))) else (none))) = some r := H
                have A24 := Aside0.mk A240
                clear A240
                obtain ⟨ji25, hji25⟩ : ∃ j_ : Int, (mx (wrap64 (t395 - t397)) 0) = j_ := ⟨_, rfl⟩
                replace H : ((potbankref01_Up.f (wrap64 ((wrap64 (1 + t392)) * (wrap64 (1000 - (wrap64 (t381 + t388)))))) 1000).bind fun t398 => (if x9_1.length < 3518437208883 then ((some (x9_1 ++ [(⟨wrap64 (1 + x11_1), (⟨ji22, wrap64 ((wrap64 (1 + t392)) + t394)⟩ : S23), (⟨ji25, t398⟩ : S23)⟩ : S57)] : List (S57))).bind fun y400 => ((ware_Narrow.f t380 t381 t382 t383 t384 t385 t386 y400).bind fun bt403 => (if bt403.2.2.2.2.2.2.2 = 0 then (if bt403.2.1 > (wrap64 (t381 + t388)) then (potbanklaw01_WareNarrows.j2 kj14 l2 (wrap64 (t381 + t388)) y400 x11_1 (wrap64 (1 + t392)) true t380 t381 t382 t383 t384 t385 t386 bt403.1 bt403.2.1 bt403.2.2.1 bt403.2.2.2.1 bt403.2.2.2.2.1 bt403.2.2.2.2.2.1 bt403.2.2.2.2.2.2.1) else (if bt403.2.2.1 < (wrap64 (t381 + t388)) then (potbanklaw01_WareNarrows.j2 kj14 l2 (wrap64 (t381 + t388)) y400 x11_1 (wrap64 (1 + t392)) true t380 t381 t382 t383 t384 t385 t386 bt403.1 bt403.2.1 bt403.2.2.1 bt403.2.2.2.1 bt403.2.2.2.2.1 bt403.2.2.2.2.2.1 bt403.2.2.2.2.2.2.1) else (if bt403.2.1 < x390000_1 then (potbanklaw01_WareNarrows.j2 kj14 l2 (wrap64 (t381 + t388)) y400 x11_1 (wrap64 (1 + t392)) true t380 t381 t382 t383 t384 t385 t386 bt403.1 bt403.2.1 bt403.2.2.1 bt403.2.2.2.1 bt403.2.2.2.2.1 bt403.2.2.2.2.2.1 bt403.2.2.2.2.2.2.1) else (if bt403.2.2.1 > x390001_1 then (potbanklaw01_WareNarrows.j2 kj14 l2 (wrap64 (t381 + t388)) y400 x11_1 (wrap64 (1 + t392)) true t380 t381 t382 t383 t384 t385 t386 bt403.1 bt403.2.1 bt403.2.2.1 bt403.2.2.2.1 bt403.2.2.2.2.1 bt403.2.2.2.2.2.1 bt403.2.2.2.2.2.2.1) else (if (!(bt403.2.2.2.2.2.1 == t385) || (!(bt403.2.2.2.2.2.2.1 == t386))) = true then (potbanklaw01_WareNarrows.j2 kj14 l2 (wrap64 (t381 + t388)) y400 x11_1 (wrap64 (1 + t392)) true t380 t381 t382 t383 t384 t385 t386 bt403.1 bt403.2.1 bt403.2.2.1 bt403.2.2.2.1 bt403.2.2.2.2.1 bt403.2.2.2.2.2.1 bt403.2.2.2.2.2.2.1) else (potbanklaw01_WareNarrows.j2 kj14 l2 (wrap64 (t381 + t388)) y400 x11_1 (wrap64 (1 + t392)) (!(bt403.2.2.2.1 == t383) || (!(bt403.2.2.2.2.1 == t384))) t380 t381 t382 t383 t384 t385 t386 bt403.1 bt403.2.1 bt403.2.2.1 bt403.2.2.2.1 bt403.2.2.2.2.1 bt403.2.2.2.2.2.1 bt403.2.2.2.2.2.2.1)))))) else (potbanklaw01_WareNarrows.j2 kj14 l2 (wrap64 (t381 + t388)) y400 x11_1 (wrap64 (1 + t392)) true t380 t381 t382 t383 t384 t385 t386 bt403.1 bt403.2.1 bt403.2.2.1 bt403.2.2.2.1 bt403.2.2.2.2.1 bt403.2.2.2.2.2.1 bt403.2.2.2.2.2.2.1)))) else (none))) = some r := by first | (rw [hji25] at H; exact H) | (simp only [hji25] at H ⊢; exact H)
                (try rw [hji25] at A20)
                (try rw [hji25] at A21)
                (try rw [hji25] at A23)
                (try rw [hji25] at A24)
                (try (have hji25l : 0 ≤ ji25 := by (rw [← hji25]; unfold mx; (repeat' split) <;> omega)))
                (try (have hji25m : 0 ≤ ji25 := by omega))
                have hji25_ : (if (wrap64 (t395 - t397)) < 0 then 0 else (wrap64 (t395 - t397))) = ji25 := hji25
                replace H := Option.bind_eq_some_iff.mp H
                obtain ⟨t398, A260, H⟩ := H
                replace H : (if x9_1.length < 3518437208883 then ((some (x9_1 ++ [(⟨wrap64 (1 + x11_1), (⟨ji22, wrap64 ((wrap64 (1 + t392)) + t394)⟩ : S23), (⟨ji25, t398⟩ : S23)⟩ : S57)] : List (S57))).bind fun y400 => ((ware_Narrow.f t380 t381 t382 t383 t384 t385 t386 y400).bind fun bt403 => (if bt403.2.2.2.2.2.2.2 = 0 then (if bt403.2.1 > (wrap64 (t381 + t388)) then (potbanklaw01_WareNarrows.j2 kj14 l2 (wrap64 (t381 + t388)) y400 x11_1 (wrap64 (1 + t392)) true t380 t381 t382 t383 t384 t385 t386 bt403.1 bt403.2.1 bt403.2.2.1 bt403.2.2.2.1 bt403.2.2.2.2.1 bt403.2.2.2.2.2.1 bt403.2.2.2.2.2.2.1) else (if bt403.2.2.1 < (wrap64 (t381 + t388)) then (potbanklaw01_WareNarrows.j2 kj14 l2 (wrap64 (t381 + t388)) y400 x11_1 (wrap64 (1 + t392)) true t380 t381 t382 t383 t384 t385 t386 bt403.1 bt403.2.1 bt403.2.2.1 bt403.2.2.2.1 bt403.2.2.2.2.1 bt403.2.2.2.2.2.1 bt403.2.2.2.2.2.2.1) else (if bt403.2.1 < x390000_1 then (potbanklaw01_WareNarrows.j2 kj14 l2 (wrap64 (t381 + t388)) y400 x11_1 (wrap64 (1 + t392)) true t380 t381 t382 t383 t384 t385 t386 bt403.1 bt403.2.1 bt403.2.2.1 bt403.2.2.2.1 bt403.2.2.2.2.1 bt403.2.2.2.2.2.1 bt403.2.2.2.2.2.2.1) else (if bt403.2.2.1 > x390001_1 then (potbanklaw01_WareNarrows.j2 kj14 l2 (wrap64 (t381 + t388)) y400 x11_1 (wrap64 (1 + t392)) true t380 t381 t382 t383 t384 t385 t386 bt403.1 bt403.2.1 bt403.2.2.1 bt403.2.2.2.1 bt403.2.2.2.2.1 bt403.2.2.2.2.2.1 bt403.2.2.2.2.2.2.1) else (if (!(bt403.2.2.2.2.2.1 == t385) || (!(bt403.2.2.2.2.2.2.1 == t386))) = true then (potbanklaw01_WareNarrows.j2 kj14 l2 (wrap64 (t381 + t388)) y400 x11_1 (wrap64 (1 + t392)) true t380 t381 t382 t383 t384 t385 t386 bt403.1 bt403.2.1 bt403.2.2.1 bt403.2.2.2.1 bt403.2.2.2.2.1 bt403.2.2.2.2.2.1 bt403.2.2.2.2.2.2.1) else (potbanklaw01_WareNarrows.j2 kj14 l2 (wrap64 (t381 + t388)) y400 x11_1 (wrap64 (1 + t392)) (!(bt403.2.2.2.1 == t383) || (!(bt403.2.2.2.2.1 == t384))) t380 t381 t382 t383 t384 t385 t386 bt403.1 bt403.2.1 bt403.2.2.1 bt403.2.2.2.1 bt403.2.2.2.2.1 bt403.2.2.2.2.2.1 bt403.2.2.2.2.2.2.1)))))) else (potbanklaw01_WareNarrows.j2 kj14 l2 (wrap64 (t381 + t388)) y400 x11_1 (wrap64 (1 + t392)) true t380 t381 t382 t383 t384 t385 t386 bt403.1 bt403.2.1 bt403.2.2.1 bt403.2.2.2.1 bt403.2.2.2.2.1 bt403.2.2.2.2.2.1 bt403.2.2.2.2.2.2.1)))) else (none)) = some r := H
                have A26 := Aside0.mk A260
                clear A260
                by_cases c27 : x9_1.length < 3518437208883
                · rw [if_pos c27] at H
                  have LMc27 := Aside0.mk c27
                  clear c27
                  obtain ⟨y400, hy400⟩ : ∃ y_ : List (S57), y_ = (x9_1 ++ [(⟨wrap64 (1 + x11_1), (⟨ji22, wrap64 ((wrap64 (1 + t392)) + t394)⟩ : S23), (⟨ji25, t398⟩ : S23)⟩ : S57)]) := ⟨_, rfl⟩
                  replace H : ((ware_Narrow.f t380 t381 t382 t383 t384 t385 t386 y400).bind fun bt403 => (if bt403.2.2.2.2.2.2.2 = 0 then (if bt403.2.1 > (wrap64 (t381 + t388)) then (potbanklaw01_WareNarrows.j2 kj14 l2 (wrap64 (t381 + t388)) y400 x11_1 (wrap64 (1 + t392)) true t380 t381 t382 t383 t384 t385 t386 bt403.1 bt403.2.1 bt403.2.2.1 bt403.2.2.2.1 bt403.2.2.2.2.1 bt403.2.2.2.2.2.1 bt403.2.2.2.2.2.2.1) else (if bt403.2.2.1 < (wrap64 (t381 + t388)) then (potbanklaw01_WareNarrows.j2 kj14 l2 (wrap64 (t381 + t388)) y400 x11_1 (wrap64 (1 + t392)) true t380 t381 t382 t383 t384 t385 t386 bt403.1 bt403.2.1 bt403.2.2.1 bt403.2.2.2.1 bt403.2.2.2.2.1 bt403.2.2.2.2.2.1 bt403.2.2.2.2.2.2.1) else (if bt403.2.1 < x390000_1 then (potbanklaw01_WareNarrows.j2 kj14 l2 (wrap64 (t381 + t388)) y400 x11_1 (wrap64 (1 + t392)) true t380 t381 t382 t383 t384 t385 t386 bt403.1 bt403.2.1 bt403.2.2.1 bt403.2.2.2.1 bt403.2.2.2.2.1 bt403.2.2.2.2.2.1 bt403.2.2.2.2.2.2.1) else (if bt403.2.2.1 > x390001_1 then (potbanklaw01_WareNarrows.j2 kj14 l2 (wrap64 (t381 + t388)) y400 x11_1 (wrap64 (1 + t392)) true t380 t381 t382 t383 t384 t385 t386 bt403.1 bt403.2.1 bt403.2.2.1 bt403.2.2.2.1 bt403.2.2.2.2.1 bt403.2.2.2.2.2.1 bt403.2.2.2.2.2.2.1) else (if (!(bt403.2.2.2.2.2.1 == t385) || (!(bt403.2.2.2.2.2.2.1 == t386))) = true then (potbanklaw01_WareNarrows.j2 kj14 l2 (wrap64 (t381 + t388)) y400 x11_1 (wrap64 (1 + t392)) true t380 t381 t382 t383 t384 t385 t386 bt403.1 bt403.2.1 bt403.2.2.1 bt403.2.2.2.1 bt403.2.2.2.2.1 bt403.2.2.2.2.2.1 bt403.2.2.2.2.2.2.1) else (potbanklaw01_WareNarrows.j2 kj14 l2 (wrap64 (t381 + t388)) y400 x11_1 (wrap64 (1 + t392)) (!(bt403.2.2.2.1 == t383) || (!(bt403.2.2.2.2.1 == t384))) t380 t381 t382 t383 t384 t385 t386 bt403.1 bt403.2.1 bt403.2.2.1 bt403.2.2.2.1 bt403.2.2.2.2.1 bt403.2.2.2.2.2.1 bt403.2.2.2.2.2.2.1)))))) else (potbanklaw01_WareNarrows.j2 kj14 l2 (wrap64 (t381 + t388)) y400 x11_1 (wrap64 (1 + t392)) true t380 t381 t382 t383 t384 t385 t386 bt403.1 bt403.2.1 bt403.2.2.1 bt403.2.2.2.1 bt403.2.2.2.2.1 bt403.2.2.2.2.2.1 bt403.2.2.2.2.2.2.1))) = some r := by first | (rw [hy400]; with_reducible exact H) | (have H2_ := (Option.bind_some _ _).symm.trans H; rw [hy400]; with_reducible exact H2_) | (have H2_ := (Option.bind_some _ _).symm.trans H; with_reducible exact H2_) | with_reducible exact H | (rw [hy400]; exact H) | exact H
                  have Ny400 := Aside0.mk hy400
                  clear hy400
                  replace H := Option.bind_eq_some_iff.mp H
                  obtain ⟨⟨t403, t404, t405, t406, t407, t408, t409, t410⟩, A280, H⟩ := H
                  replace H : (if t410 = 0 then (if t404 > (wrap64 (t381 + t388)) then (potbanklaw01_WareNarrows.j2 kj14 l2 (wrap64 (t381 + t388)) y400 x11_1 (wrap64 (1 + t392)) true t380 t381 t382 t383 t384 t385 t386 t403 t404 t405 t406 t407 t408 t409) else (if t405 < (wrap64 (t381 + t388)) then (potbanklaw01_WareNarrows.j2 kj14 l2 (wrap64 (t381 + t388)) y400 x11_1 (wrap64 (1 + t392)) true t380 t381 t382 t383 t384 t385 t386 t403 t404 t405 t406 t407 t408 t409) else (if t404 < x390000_1 then (potbanklaw01_WareNarrows.j2 kj14 l2 (wrap64 (t381 + t388)) y400 x11_1 (wrap64 (1 + t392)) true t380 t381 t382 t383 t384 t385 t386 t403 t404 t405 t406 t407 t408 t409) else (if t405 > x390001_1 then (potbanklaw01_WareNarrows.j2 kj14 l2 (wrap64 (t381 + t388)) y400 x11_1 (wrap64 (1 + t392)) true t380 t381 t382 t383 t384 t385 t386 t403 t404 t405 t406 t407 t408 t409) else (if (!(t408 == t385) || (!(t409 == t386))) = true then (potbanklaw01_WareNarrows.j2 kj14 l2 (wrap64 (t381 + t388)) y400 x11_1 (wrap64 (1 + t392)) true t380 t381 t382 t383 t384 t385 t386 t403 t404 t405 t406 t407 t408 t409) else (potbanklaw01_WareNarrows.j2 kj14 l2 (wrap64 (t381 + t388)) y400 x11_1 (wrap64 (1 + t392)) (!(t406 == t383) || (!(t407 == t384))) t380 t381 t382 t383 t384 t385 t386 t403 t404 t405 t406 t407 t408 t409)))))) else (potbanklaw01_WareNarrows.j2 kj14 l2 (wrap64 (t381 + t388)) y400 x11_1 (wrap64 (1 + t392)) true t380 t381 t382 t383 t384 t385 t386 t403 t404 t405 t406 t407 t408 t409)) = some r := H
                  have A28 := Aside0.mk A280
                  clear A280
                  have HC29 := Aside0.mk H
                  clear H
                  have p391 : 0 ≤ (x11_1 : Int) := of_decide_eq_true (by first | (with_reducible assumption) | assumption)
                  have q391 : x11_1 < (l2.length : Int) := of_decide_eq_true (by first | (with_reducible assumption) | assumption)
                  obtain ⟨ad391, e391, hx391_0, hx391_1, hx391_2⟩ := at_T46 HR2.out x11_1 p391 q391
                  cases e391
                  replace hx391_0 := (HB.out.cell (World.block_lt_of_cell? w _ hx391_0)).trans hx391_0
                  replace hx391_1 := (HB.out.cell (World.block_lt_of_cell? w _ hx391_1)).trans hx391_1
                  replace hx391_2 := (HB.out.cell (World.block_lt_of_cell? w _ hx391_2)).trans hx391_2
                  replace p391 := eq_true p391
                  replace q391 := eq_true q391
                  try go_wp2_with (first | ((with_reducible refine gate_callee (f := 21) rfl ?_); refine goesL_ (some 55) rfl rfl Try.func21 (by kernel_rfl) rfl #[.int .i64 ((rd_T46 l2 x11_1).f0), .int .i64 900] rfl (by (try simp only [List.map_toArray, List.map_cons, List.map_nil]); first | done | rfl | (simp only [List.length_drop, List.length_take]; rfl)) ?_; (with_reducible refine (potbankref01_Mod.calls ((rd_T46 l2 x11_1).f0) 900 t392 _ A20.out).mono ?_); rintro e w' ⟨rfl, ⟨nd, rfl⟩⟩; refine ⟨_, rfl, ?_⟩; (try (rw [drewN_self wc]; generalize hq_ : World.drewN wc _ = wc; have n0_ : Aside0 (Kd.R k57 57 wc w.heap.size (fun _ => True) u9 x9_1) := ⟨by rw [← hq_]; exact (by (with_reducible repeat (first | apply Kd.R_alloc | apply Kd.R_drewN | apply Kd.R_drew)); exact HO_9.out)⟩; have n1_ : Aside0 (wc.heap[gb387]? = some (.cells #[.int .i64 t380, .int .i64 t381, .int .i64 t382, .int .i64 t383, .int .i64 t384, .int .i64 t385, .int .i64 t386] 43 (0, 0))) := ⟨by rw [← hq_]; exact (by (with_reducible repeat first | apply blk_drewN | apply blk_drew | apply blk_alloc); exact BK387.out)⟩; have n2_ : Aside0 (wc.heap[gb389]? = some (.cells #[.int .i64 x390000_1, .int .i64 x390001_1] 23 (0, 0))) := ⟨by rw [← hq_]; exact (by (with_reducible repeat first | apply blk_drewN | apply blk_drew | apply blk_alloc); exact BK389.out)⟩; have n3_ : Aside0 (Below w.heap.size w wc) := ⟨by rw [← hq_]; exact (by repeat (first | (with_reducible first | exact HB.out | apply below_alloc | apply pw_below_drewN | apply below_drew1 | refine below_set ?_ GE387.out | refine below_set ?_ GE389.out) | exact HB.out))⟩; clear HO_9 BK387 BK389 HB hq_; have HO_9 := n0_; have BK387 := n1_; have BK389 := n2_; have HB := n3_; clear n0_ n1_ n2_ n3_)); have p393 : 0 ≤ (x11_1 : Int) := of_decide_eq_true (by first | (with_reducible assumption) | assumption); have q393 : x11_1 < (l2.length : Int) := of_decide_eq_true (by first | (with_reducible assumption) | assumption); obtain ⟨ad393, e393, hx393_0, hx393_1, hx393_2⟩ := at_T46 HR2.out x11_1 p393 q393; obtain rfl : ad391 = ad393 := (by injection e393); replace hx393_0 := (HB.out.cell (World.block_lt_of_cell? w _ hx393_0)).trans hx393_0; replace hx393_1 := (HB.out.cell (World.block_lt_of_cell? w _ hx393_1)).trans hx393_1; replace hx393_2 := (HB.out.cell (World.block_lt_of_cell? w _ hx393_2)).trans hx393_2; replace p393 := eq_true p393; replace q393 := eq_true q393) | ((with_reducible refine gate_callee (f := 21) rfl ?_); refine goesL_ (some 62) rfl rfl Try.func21 (by kernel_rfl) rfl #[.int .i64 ((rd_T46 l2 x11_1).f1), .int .i64 4] rfl (by (try simp only [List.map_toArray, List.map_cons, List.map_nil]); first | done | rfl | (simp only [List.length_drop, List.length_take]; rfl)) ?_; (with_reducible refine (potbankref01_Mod.calls ((rd_T46 l2 x11_1).f1) 4 t394 _ A21.out).mono ?_); rintro e w' ⟨rfl, ⟨nd, rfl⟩⟩; refine ⟨_, rfl, ?_⟩; (try (rw [drewN_self wc]; generalize hq_ : World.drewN wc _ = wc; have n0_ : Aside0 (Kd.R k57 57 wc w.heap.size (fun _ => True) u9 x9_1) := ⟨by rw [← hq_]; exact (by (with_reducible repeat (first | apply Kd.R_alloc | apply Kd.R_drewN | apply Kd.R_drew)); exact HO_9.out)⟩; have n1_ : Aside0 (wc.heap[gb387]? = some (.cells #[.int .i64 t380, .int .i64 t381, .int .i64 t382, .int .i64 t383, .int .i64 t384, .int .i64 t385, .int .i64 t386] 43 (0, 0))) := ⟨by rw [← hq_]; exact (by (with_reducible repeat first | apply blk_drewN | apply blk_drew | apply blk_alloc); exact BK387.out)⟩; have n2_ : Aside0 (wc.heap[gb389]? = some (.cells #[.int .i64 x390000_1, .int .i64 x390001_1] 23 (0, 0))) := ⟨by rw [← hq_]; exact (by (with_reducible repeat first | apply blk_drewN | apply blk_drew | apply blk_alloc); exact BK389.out)⟩; have n3_ : Aside0 (Below w.heap.size w wc) := ⟨by rw [← hq_]; exact (by repeat (first | (with_reducible first | exact HB.out | apply below_alloc | apply pw_below_drewN | apply below_drew1 | refine below_set ?_ GE387.out | refine below_set ?_ GE389.out) | exact HB.out))⟩; clear HO_9 BK387 BK389 HB hq_; have HO_9 := n0_; have BK387 := n1_; have BK389 := n2_; have HB := n3_; clear n0_ n1_ n2_ n3_))))
                  have n0_ := Aside0.mk (Kd.R_drew HO_9.out)
                  have n1_ := Aside0.mk (blk_drew BK387.out)
                  have n2_ := Aside0.mk (blk_drew BK389.out)
                  have n3_ := Aside0.mk (below_drew1 HB.out)
                  clear HO_9
                  clear BK387
                  clear BK389
                  clear HB
                  have HO_9 := n0_
                  have BK387 := n1_
                  have BK389 := n2_
                  have HB := n3_
                  clear n0_ n1_ n2_ n3_
                  have p396 : 0 ≤ (x11_1 : Int) := of_decide_eq_true (by first | (with_reducible assumption) | assumption)
                  have q396 : x11_1 < (l2.length : Int) := of_decide_eq_true (by first | (with_reducible assumption) | assumption)
                  obtain ⟨ad396, e396, hx396_0, hx396_1, hx396_2⟩ := at_T46 HR2.out x11_1 p396 q396
                  have hw396_2 := hx396_2
                  have hw396_1 := hx396_1
                  have hw396_0 := hx396_0
                  obtain rfl : ad391 = ad396 := (by injection e396)
                  replace hx396_0 := (HB.out.cell (World.block_lt_of_cell? w _ hx396_0)).trans hx396_0
                  replace hx396_1 := (HB.out.cell (World.block_lt_of_cell? w _ hx396_1)).trans hx396_1
                  replace hx396_2 := (HB.out.cell (World.block_lt_of_cell? w _ hx396_2)).trans hx396_2
                  replace p396 := eq_true p396
                  replace q396 := eq_true q396
                  refine start_ (n := 26) (S := fun w' => w'.cell? (ad391.add ((x11_1).toNat * 3)) = some (.int .i64 ((rd_T46 l2 x11_1).f0)) ∧ w'.cell? ⟨(ad391.add ((x11_1).toNat * 3)).block, (ad391.add ((x11_1).toNat * 3)).off + 1, none⟩ = some (.int .i64 ((rd_T46 l2 x11_1).f1)) ∧ w'.cell? ⟨(ad391.add ((x11_1).toNat * 3)).block, (ad391.add ((x11_1).toNat * 3)).off + 2, none⟩ = some (.int .i64 ((rd_T46 l2 x11_1).f2))) (ds := []) #[false, false, false, false, false, false, false, false, false, false, false, false, false, false, false, false, false, false, false, false, false, false, false, false, false, false] (by kernel_rfl) rfl rfl ⟨((HB.out.cell (World.block_lt_of_cell? w _ hw396_0)).trans hw396_0), ((HB.out.cell (World.block_lt_of_cell? w _ hw396_1)).trans hw396_1), ((HB.out.cell (World.block_lt_of_cell? w _ hw396_2)).trans hw396_2)⟩ (fun hHeld => ?_); refine with_tabW potbanklaw01_WareNarrows.tab11 potbanklaw01_WareNarrows.bits11 (fun HT_ HW_ => ?_)
                  generalize wc.drew = w30 at HO_9 BK387 BK389 HB hx396_0 hx396_1 hx396_2 hHeld ⊢
                  refine pure_ (i := 0) (N := some 67) (v := ?_) (a' := ?_) #[true, false, false, false, false, false, false, false, false, false, false, false, false, false, false, false, false, false, false, false, false, false, false, false, false, false] rfl rfl (any_of HT_.out (by kernel_rfl)) (fun _ _ _ h => h) (Or.inl ⟨by rfl, ?_⟩) ?_ ?_
                  rotate_left
                  · intro w'
                    go_simp
                    with_reducible rfl
                  rotate_left
                  · simp only [Act.put, List.setIfInBounds_toArray, List.set_cons_zero, List.set_cons_succ, i64_w, i32_w]
                    rfl
                  refine pure_ (i := 1) (N := some 68) (v := ?_) (a' := ?_) #[true, true, false, false, false, false, false, false, false, false, false, false, false, false, false, false, false, false, false, false, false, false, false, false, false, false] rfl rfl (any_of HT_.out (by kernel_rfl)) (fun _ _ _ h => h) (Or.inl ⟨by rfl, ?_⟩) ?_ ?_
                  rotate_left
                  · intro w'
                    go_simp
                    with_reducible rfl
                  rotate_left
                  · simp only [Act.put, List.setIfInBounds_toArray, List.set_cons_zero, List.set_cons_succ, i64_w, i32_w]
                    rfl
                  refine pure_ (i := 2) (N := some 69) (v := ?_) (a' := ?_) #[true, true, true, false, false, false, false, false, false, false, false, false, false, false, false, false, false, false, false, false, false, false, false, false, false, false] rfl rfl (any_of HT_.out (by kernel_rfl)) (fun _ _ _ h => h) (Or.inl ⟨by rfl, ?_⟩) ?_ ?_
                  rotate_left
                  · intro w'
                    go_simp
                    with_reducible rfl
                  rotate_left
                  · simp only [Act.put, List.setIfInBounds_toArray, List.set_cons_zero, List.set_cons_succ, i64_w, i32_w]
                    rfl
                  refine pure_ (i := 3) (N := some 70) (v := ?_) (a' := ?_) #[true, true, true, true, false, false, false, false, false, false, false, false, false, false, false, false, false, false, false, false, false, false, false, false, false, false] rfl rfl (any_of HT_.out (by kernel_rfl)) (fun _ _ _ h => h) (Or.inl ⟨by rfl, ?_⟩) ?_ ?_
                  rotate_left
                  · intro w'
                    go_simp
                    with_reducible rfl
                  rotate_left
                  · simp only [Act.put, List.setIfInBounds_toArray, List.set_cons_zero, List.set_cons_succ, i64_w, i32_w]
                    rfl
                  refine pure_ (i := 4) (N := some 71) (v := ?_) (a' := ?_) #[true, true, true, true, true, false, false, false, false, false, false, false, false, false, false, false, false, false, false, false, false, false, false, false, false, false] rfl rfl (any_of HT_.out (by kernel_rfl)) (fun _ _ _ h => h) (Or.inl ⟨by rfl, ?_⟩) ?_ ?_
                  rotate_left
                  · intro w'
                    go_simp
                    with_reducible rfl
                  rotate_left
                  · simp only [Act.put, List.setIfInBounds_toArray, List.set_cons_zero, List.set_cons_succ, i64_w, i32_w]
                    rfl
                  refine pure_ (i := 5) (N := some 72) (v := ?_) (a' := ?_) #[true, true, true, true, true, true, false, false, false, false, false, false, false, false, false, false, false, false, false, false, false, false, false, false, false, false] rfl rfl (any_of HT_.out (by kernel_rfl)) (fun _ _ _ h => h) (Or.inl ⟨by rfl, ?_⟩) ?_ ?_
                  rotate_left
                  · intro w'
                    go_simp
                    with_reducible rfl
                  rotate_left
                  · simp only [Act.put, List.setIfInBounds_toArray, List.set_cons_zero, List.set_cons_succ, i64_w, i32_w]
                    rfl
                  refine pure_ (i := 6) (N := some 73) (v := ?_) (a' := ?_) #[true, true, true, true, true, true, true, false, false, false, false, false, false, false, false, false, false, false, false, false, false, false, false, false, false, false] rfl rfl (any_of HT_.out (by kernel_rfl)) (fun _ _ _ h => h) (Or.inl ⟨by rfl, ?_⟩) ?_ ?_
                  rotate_left
                  · intro w'
                    go_simp
                    with_reducible rfl
                  rotate_left
                  · simp only [Act.put, List.setIfInBounds_toArray, List.set_cons_zero, List.set_cons_succ, i64_w, i32_w]
                    rfl
                  refine pure_ (i := 7) (N := some 74) (v := ?_) (a' := ?_) #[true, true, true, true, true, true, true, true, false, false, false, false, false, false, false, false, false, false, false, false, false, false, false, false, false, false] rfl rfl (any_of HT_.out (by kernel_rfl)) (fun _ _ _ h => h) (Or.inl ⟨by rfl, ?_⟩) ?_ ?_
                  rotate_left
                  · intro w'
                    go_simp
                    with_reducible rfl
                  rotate_left
                  · simp only [Act.put, List.setIfInBounds_toArray, List.set_cons_zero, List.set_cons_succ, i64_w, i32_w]
                    rfl
                  refine pure_ (i := 8) (N := some 75) (v := ?_) (a' := ?_) #[true, true, true, true, true, true, true, true, true, false, false, false, false, false, false, false, false, false, false, false, false, false, false, false, false, false] rfl rfl (any_of HT_.out (by kernel_rfl)) (fun _ _ _ h => h) (Or.inl ⟨by rfl, ?_⟩) ?_ ?_
                  rotate_left
                  · intro w'
                    go_simp
                    with_reducible rfl
                  rotate_left
                  · simp only [Act.put, List.setIfInBounds_toArray, List.set_cons_zero, List.set_cons_succ, i64_w, i32_w]
                    rfl
                  refine pure_ (i := 9) (N := some 76) (v := ?_) (a' := ?_) #[true, true, true, true, true, true, true, true, true, true, false, false, false, false, false, false, false, false, false, false, false, false, false, false, false, false] rfl rfl (any_of HT_.out (by kernel_rfl)) (fun _ _ _ h => h) (Or.inl ⟨by rfl, ?_⟩) ?_ ?_
                  rotate_left
                  · intro w'
                    go_simp
                    with_reducible rfl
                  rotate_left
                  · simp only [Act.put, List.setIfInBounds_toArray, List.set_cons_zero, List.set_cons_succ, i64_w, i32_w]
                    rfl
                  refine pure_ (i := 10) (N := some 77) (v := ?_) (a' := ?_) #[true, true, true, true, true, true, true, true, true, true, true, false, false, false, false, false, false, false, false, false, false, false, false, false, false, false] rfl rfl (any_of HT_.out (by kernel_rfl)) (fun _ _ _ h => h) (Or.inl ⟨by rfl, ?_⟩) ?_ ?_
                  rotate_left
                  · intro w'
                    go_simp
                    with_reducible rfl
                  rotate_left
                  · simp only [Act.put, List.setIfInBounds_toArray, List.set_cons_zero, List.set_cons_succ, i64_w, i32_w]
                    rfl
                  refine pure_ (i := 12) (N := some 79) (v := ?_) (a' := ?_) #[true, true, true, true, true, true, true, true, true, true, true, false, true, false, false, false, false, false, false, false, false, false, false, false, false, false] rfl rfl (any_of HT_.out (by kernel_rfl)) (fun _ _ _ h => h) (Or.inl ⟨by rfl, ?_⟩) ?_ ?_
                  rotate_left
                  · intro w'
                    go_simp
                    with_reducible rfl
                  rotate_left
                  · simp only [Act.put, List.setIfInBounds_toArray, List.set_cons_zero, List.set_cons_succ, i64_w, i32_w]
                    rfl
                  refine pure_ (i := 13) (N := some 80) (v := ?_) (a' := ?_) #[true, true, true, true, true, true, true, true, true, true, true, false, true, true, false, false, false, false, false, false, false, false, false, false, false, false] rfl rfl (any_of HT_.out (by kernel_rfl)) (fun _ _ _ h => h) (Or.inl ⟨by rfl, ?_⟩) ?_ ?_
                  rotate_left
                  · intro w'
                    go_simp
                    with_reducible rfl
                  rotate_left
                  · simp only [Act.put, List.setIfInBounds_toArray, List.set_cons_zero, List.set_cons_succ, i64_w, i32_w]
                    rfl
                  refine pure_ (i := 14) (N := some 81) (v := ?_) (a' := ?_) #[true, true, true, true, true, true, true, true, true, true, true, false, true, true, true, false, false, false, false, false, false, false, false, false, false, false] rfl rfl (any_of HT_.out (by kernel_rfl)) (fun _ _ _ h => h) (Or.inl ⟨by rfl, ?_⟩) ?_ ?_
                  rotate_left
                  · intro w'
                    go_simp
                    with_reducible rfl
                  rotate_left
                  · simp only [Act.put, List.setIfInBounds_toArray, List.set_cons_zero, List.set_cons_succ, i64_w, i32_w]
                    rfl
                  refine pure_ (i := 15) (N := some 82) (v := ?_) (a' := ?_) #[true, true, true, true, true, true, true, true, true, true, true, false, true, true, true, true, false, false, false, false, false, false, false, false, false, false] rfl rfl (any_of HT_.out (by kernel_rfl)) (fun _ _ _ h => h) (Or.inl ⟨by rfl, ?_⟩) ?_ ?_
                  rotate_left
                  · intro w'
                    go_simp
                    with_reducible rfl
                  rotate_left
                  · simp only [Act.put, List.setIfInBounds_toArray, List.set_cons_zero, List.set_cons_succ, i64_w, i32_w]
                    rfl
                  refine pure_ (i := 20) (N := some 87) (v := ?_) (a' := ?_) #[true, true, true, true, true, true, true, true, true, true, true, false, true, true, true, true, false, false, false, false, true, false, false, false, false, false] rfl rfl (any_of HT_.out (by kernel_rfl)) (fun _ _ _ h => h) (Or.inl ⟨by rfl, ?_⟩) ?_ ?_
                  rotate_left
                  · intro w'
                    go_simp
                    with_reducible rfl
                  rotate_left
                  · simp only [Act.put, List.setIfInBounds_toArray, List.set_cons_zero, List.set_cons_succ, i64_w, i32_w]
                    rfl
                  refine take_ (i := 16) (N := some 83) (v := ?_) (a' := ?_) #[true, true, true, true, true, true, true, true, true, true, true, false, true, true, true, true, true, false, false, false, true, false, false, false, false, false] rfl rfl (take_ofW HT_.out HW_.out (by kernel_rfl)) (fun _ _ _ h => h) (Or.inl ⟨by rfl, ?_⟩) hHeld ?_ ?_
                  rotate_left
                  · rintro w' ⟨s0, s1, s2⟩
                    go_simp
                    with_reducible rfl
                  rotate_left
                  · simp only [Act.put, List.setIfInBounds_toArray, List.set_cons_zero, List.set_cons_succ, i64_w, i32_w]
                    rfl
                  refine join_ (σ := Nat) 1 #[true, true, true, true, true, true, true, true, true, true, true, true, true, true, true, true, true, true, true, true, true, true, true, true, true, false] (fun s_ => [(78, .int .i64 t395), (84, .int .i64 t397), (88, .int .i64 t398), (15, .pointer (some ⟨s_, 0, none⟩)), (85, .int .i64 (wrap64 (t395 - t397))), (86, .int .i64 ji25), (89, .agg #[.int .i64 ji25, .int .i64 t398]), (90, .agg #[.int .i64 (wrap64 (1 + x11_1)), .int .i64 ji22, .int .i64 (wrap64 ((wrap64 (1 + t392)) + t394)), .int .i64 ji25, .int .i64 t398])]) (fun s_ w' => (w'.cell? (ad391.add ((x11_1).toNat * 3)) = some (.int .i64 ((rd_T46 l2 x11_1).f0)) ∧ w'.cell? ⟨(ad391.add ((x11_1).toNat * 3)).block, (ad391.add ((x11_1).toNat * 3)).off + 1, none⟩ = some (.int .i64 ((rd_T46 l2 x11_1).f1)) ∧ w'.cell? ⟨(ad391.add ((x11_1).toNat * 3)).block, (ad391.add ((x11_1).toNat * 3)).off + 2, none⟩ = some (.int .i64 ((rd_T46 l2 x11_1).f2))) ∧ (Kd.R k57 57 w' w.heap.size (fun k_ => k_ ≠ s_) u9 x9_1) ∧ (w'.heap[gb387]? = some (.cells #[.int .i64 t380, .int .i64 t381, .int .i64 t382, .int .i64 t383, .int .i64 t384, .int .i64 t385, .int .i64 t386] 43 (0, 0))) ∧ (w'.heap[gb389]? = some (.cells #[.int .i64 x390000_1, .int .i64 x390001_1] 23 (0, 0))) ∧ (w'.heap[s_]? = some (.cells #[.int .i64 0, .int .i64 0, .int .i64 0, .int .i64 0, .int .i64 0] 57 (0, 0))) ∧ (w.heap.size ≤ s_) ∧ (w.heap.size ≤ s_) ∧ (gb387 ≠ s_) ∧ (s_ ≠ gb387) ∧ (gb389 ≠ s_) ∧ (s_ ≠ gb389) ∧ (Below w.heap.size w w')) ?_ ?_
                  rotate_left
                  · intro hCont
                    refine two_ (i := 11) (j := 24) (Ni := some 78) (Nj := some 15) #[true, true, true, true, true, true, true, true, true, true, true, true, true, true, true, true, true, false, false, false, true, false, false, false, false, false] #[true, true, true, true, true, true, true, true, true, true, true, false, true, true, true, true, true, false, false, false, true, false, false, false, true, false] rfl rfl rfl rfl (two_of HT_.out (by kernel_rfl)) (by decide) (by decide) (fun K hK => ?_) (fun K hK => ?_)
                    · skip
                      refine goes_ Try.func34 (by kernel_rfl) rfl #[.int .i64 (wrap64 ((wrap64 (1 + t392)) * (wrap64 (1000 - (wrap64 (t381 + t388)))))), .int .i64 1000] (by rfl) rfl rfl (by (try simp only [List.map_toArray, List.map_cons, List.map_nil]); first | done | rfl | (simp only [List.length_drop, List.length_take]; rfl)) ?_
                      with_reducible refine (potbankref01_Down.calls (wrap64 ((wrap64 (1 + t392)) * (wrap64 (1000 - (wrap64 (t381 + t388)))))) 1000 t395 _ A23.out).mono ?_
                      rintro e w' ⟨rfl, ⟨nd, rfl⟩⟩
                      refine ⟨_, rfl, ?_⟩
                      refine hK.out _ _ ⟨((HB.out.cell (World.block_lt_of_cell? w _ hw396_0)).trans hw396_0), ((HB.out.cell (World.block_lt_of_cell? w _ hw396_1)).trans hw396_1), ((HB.out.cell (World.block_lt_of_cell? w _ hw396_2)).trans hw396_2)⟩ (fun hHeld => ?_)
                      clear hK K
                      refine norm_ (a' := ?_) ?_ ?_
                      rotate_left
                      · show Act.put _ (some 78) _ = _
                        simp only [Act.put, List.setIfInBounds_toArray, List.set_cons_zero, List.set_cons_succ, i64_w, i32_w]
                        rfl
                      refine two_ (i := 17) (j := 24) (Ni := some 84) (Nj := some 15) #[true, true, true, true, true, true, true, true, true, true, true, true, true, true, true, true, true, true, false, false, true, false, false, false, false, false] #[true, true, true, true, true, true, true, true, true, true, true, true, true, true, true, true, true, false, false, false, true, false, false, false, true, false] rfl rfl rfl rfl (two_of HT_.out (by kernel_rfl)) (by decide) (by decide) (fun K hK => ?_) (fun K hK => ?_)
                      · skip
                        refine goes_ Try.func21 (by kernel_rfl) rfl #[.int .i64 ((rd_T46 l2 x11_1).f2), .int .i64 3] (by rfl) rfl rfl (by (try simp only [List.map_toArray, List.map_cons, List.map_nil]); first | done | rfl | (simp only [List.length_drop, List.length_take]; rfl)) ?_
                        with_reducible refine (potbankref01_Mod.calls ((rd_T46 l2 x11_1).f2) 3 t397 _ A24.out).mono ?_
                        rintro e w' ⟨rfl, ⟨nd, rfl⟩⟩
                        refine ⟨_, rfl, ?_⟩
                        refine hK.out _ _ ⟨((HB.out.cell (World.block_lt_of_cell? w _ hw396_0)).trans hw396_0), ((HB.out.cell (World.block_lt_of_cell? w _ hw396_1)).trans hw396_1), ((HB.out.cell (World.block_lt_of_cell? w _ hw396_2)).trans hw396_2)⟩ (fun hHeld => ?_)
                        clear hK K
                        refine norm_ (a' := ?_) ?_ ?_
                        rotate_left
                        · show Act.put _ (some 84) _ = _
                          simp only [Act.put, List.setIfInBounds_toArray, List.set_cons_zero, List.set_cons_succ, i64_w, i32_w]
                          rfl
                        refine pure_ (i := 18) (N := some 85) (v := ?_) (a' := ?_) #[true, true, true, true, true, true, true, true, true, true, true, true, true, true, true, true, true, true, true, false, true, false, false, false, false, false] rfl rfl (any_of HT_.out (by kernel_rfl)) (fun _ _ _ h => h) (Or.inl ⟨by rfl, ?_⟩) ?_ ?_
                        rotate_left
                        · intro w'
                          go_simp
                          with_reducible rfl
                        rotate_left
                        · simp only [Act.put, List.setIfInBounds_toArray, List.set_cons_zero, List.set_cons_succ, i64_w, i32_w]
                          rfl
                        refine pure_ (i := 19) (N := some 86) (v := ?_) (a' := ?_) #[true, true, true, true, true, true, true, true, true, true, true, true, true, true, true, true, true, true, true, true, true, false, false, false, false, false] rfl rfl (any_of HT_.out (by kernel_rfl)) (fun _ _ _ h => h) (Or.inl ⟨by rfl, ?_⟩) ?_ ?_
                        rotate_left
                        · intro w'
                          go_simp
                          with_reducible rfl
                        rotate_left
                        · simp only [Act.put, List.setIfInBounds_toArray, List.set_cons_zero, List.set_cons_succ, i64_w, i32_w]
                          rfl
                        refine two_ (i := 21) (j := 24) (Ni := some 88) (Nj := some 15) #[true, true, true, true, true, true, true, true, true, true, true, true, true, true, true, true, true, true, true, true, true, true, false, false, false, false] #[true, true, true, true, true, true, true, true, true, true, true, true, true, true, true, true, true, true, true, true, true, false, false, false, true, false] rfl rfl rfl rfl (two_of HT_.out (by kernel_rfl)) (by decide) (by decide) (fun K hK => ?_) (fun K hK => ?_)
                        · skip
                          refine goes_ Try.func35 (by kernel_rfl) rfl #[.int .i64 (wrap64 ((wrap64 (1 + t392)) * (wrap64 (1000 - (wrap64 (t381 + t388)))))), .int .i64 1000] (by rfl) rfl rfl (by (try simp only [List.map_toArray, List.map_cons, List.map_nil]); first | done | rfl | (simp only [List.length_drop, List.length_take]; rfl)) ?_
                          with_reducible refine (potbankref01_Up.calls (wrap64 ((wrap64 (1 + t392)) * (wrap64 (1000 - (wrap64 (t381 + t388)))))) 1000 t398 _ A26.out).mono ?_
                          rintro e w' ⟨rfl, ⟨nd, rfl⟩⟩
                          refine ⟨_, rfl, ?_⟩
                          refine hK.out _ _ ⟨((HB.out.cell (World.block_lt_of_cell? w _ hw396_0)).trans hw396_0), ((HB.out.cell (World.block_lt_of_cell? w _ hw396_1)).trans hw396_1), ((HB.out.cell (World.block_lt_of_cell? w _ hw396_2)).trans hw396_2)⟩ (fun hHeld => ?_)
                          clear hK K
                          refine norm_ (a' := ?_) ?_ ?_
                          rotate_left
                          · show Act.put _ (some 88) _ = _
                            simp only [Act.put, List.setIfInBounds_toArray, List.set_cons_zero, List.set_cons_succ, i64_w, i32_w]
                            rfl
                          refine pure_ (i := 22) (N := some 89) (v := ?_) (a' := ?_) #[true, true, true, true, true, true, true, true, true, true, true, true, true, true, true, true, true, true, true, true, true, true, true, false, false, false] rfl rfl (any_of HT_.out (by kernel_rfl)) (fun _ _ _ h => h) (Or.inl ⟨by rfl, ?_⟩) ?_ ?_
                          rotate_left
                          · intro w'
                            go_simp
                            with_reducible rfl
                          rotate_left
                          · simp only [Act.put, List.setIfInBounds_toArray, List.set_cons_zero, List.set_cons_succ, i64_w, i32_w]
                            rfl
                          refine pure_ (i := 23) (N := some 90) (v := ?_) (a' := ?_) #[true, true, true, true, true, true, true, true, true, true, true, true, true, true, true, true, true, true, true, true, true, true, true, true, false, false] rfl rfl (any_of HT_.out (by kernel_rfl)) (fun _ _ _ h => h) (Or.inl ⟨by rfl, ?_⟩) ?_ ?_
                          rotate_left
                          · intro w'
                            go_simp
                            with_reducible rfl
                          rotate_left
                          · simp only [Act.put, List.setIfInBounds_toArray, List.set_cons_zero, List.set_cons_succ, i64_w, i32_w]
                            rfl
                          refine one_ (i := 24) (N := some 15) #[true, true, true, true, true, true, true, true, true, true, true, true, true, true, true, true, true, true, true, true, true, true, true, true, true, false] rfl rfl (one_of HT_.out (by kernel_rfl)) (by decide) (fun K hK => ?_)
                          refine box_step ?hg (N := 15) ?hd (cs := #[.int .i64 0, .int .i64 0, .int .i64 0, .int .i64 0, .int .i64 0]) (t := 57) ?hr ?_; (case hd => rfl); (case hg => rfl); (case hr => first | (go_simp; done) | (go_simp; rfl))
                          intro gb399 hg w31 hbox hb
                          have n0_ := Aside0.mk (Kd.R_below (Kd.R_elderB (by (with_reducible repeat (first | apply Kd.R_alloc | apply Kd.R_drewN | apply Kd.R_drew)); exact HO_9.out) gb399 (Nat.le_of_eq hg.symm)) hb)
                          have n1_ := blkE BK387 hb
                          have n2_ := blkE BK389 hb
                          have n3_ := Aside0.mk (below_step (by repeat (first | (with_reducible first | exact HB.out | apply below_alloc | apply pw_below_drewN | apply below_drew1 | refine below_set ?_ GE387.out | refine below_set ?_ GE389.out) | exact HB.out)) hb)
                          have n4_ := Aside0.mk (hbox)
                          have n5_ := Aside0.mk ((by rw [hg]; exact (below_size (by repeat (first | (with_reducible first | exact HB.out | apply below_alloc | apply pw_below_drewN | apply below_drew1 | refine below_set ?_ GE387.out | refine below_set ?_ GE389.out) | exact HB.out))) : w.heap.size ≤ gb399))
                          have n6_ := Aside0.mk ((by rw [hg]; exact (below_size (by repeat (first | (with_reducible first | exact HB.out | apply below_alloc | apply pw_below_drewN | apply below_drew1 | refine below_set ?_ GE387.out | refine below_set ?_ GE389.out) | exact HB.out))) : w.heap.size ≤ gb399))
                          have n7_ := Aside0.mk ((by rw [hg]; exact Nat.ne_of_lt (blk_lt (g := gb387) (o := .cells #[.int .i64 t380, .int .i64 t381, .int .i64 t382, .int .i64 t383, .int .i64 t384, .int .i64 t385, .int .i64 t386] 43 (0, 0)) (by (with_reducible repeat first | apply blk_drewN | apply blk_drew | apply blk_alloc); exact BK387.out)) : gb387 ≠ gb399))
                          have n8_ := Aside0.mk ((by rw [hg]; exact Nat.ne_of_gt (blk_lt (g := gb387) (o := .cells #[.int .i64 t380, .int .i64 t381, .int .i64 t382, .int .i64 t383, .int .i64 t384, .int .i64 t385, .int .i64 t386] 43 (0, 0)) (by (with_reducible repeat first | apply blk_drewN | apply blk_drew | apply blk_alloc); exact BK387.out)) : gb399 ≠ gb387))
                          have n9_ := Aside0.mk ((by rw [hg]; exact Nat.ne_of_lt (blk_lt (g := gb389) (o := .cells #[.int .i64 x390000_1, .int .i64 x390001_1] 23 (0, 0)) (by (with_reducible repeat first | apply blk_drewN | apply blk_drew | apply blk_alloc); exact BK389.out)) : gb389 ≠ gb399))
                          have n10_ := Aside0.mk ((by rw [hg]; exact Nat.ne_of_gt (blk_lt (g := gb389) (o := .cells #[.int .i64 x390000_1, .int .i64 x390001_1] 23 (0, 0)) (by (with_reducible repeat first | apply blk_drewN | apply blk_drew | apply blk_alloc); exact BK389.out)) : gb399 ≠ gb389))
                          clear HO_9
                          clear BK387
                          clear BK389
                          clear HB
                          have HO_9 := n0_
                          have BK387 := n1_
                          have BK389 := n2_
                          have HB := n3_
                          have BK399 := n4_
                          have GW399 := n5_
                          have GE399 := n6_
                          have NB387_399 := n7_
                          have NB399_387 := n8_
                          have NB389_399 := n9_
                          have NB399_389 := n10_
                          clear n0_ n1_ n2_ n3_ n4_ n5_ n6_ n7_ n8_ n9_ n10_
                          clear hb hbox hg
                          refine hK.out _ _ ⟨((HB.out.cell (World.block_lt_of_cell? w _ hw396_0)).trans hw396_0), ((HB.out.cell (World.block_lt_of_cell? w _ hw396_1)).trans hw396_1), ((HB.out.cell (World.block_lt_of_cell? w _ hw396_2)).trans hw396_2)⟩ (fun hHeld => ?_)
                          clear hK K
                          refine norm_ (a' := ?_) ?_ ?_
                          rotate_left
                          · show Act.put _ (some 15) _ = _
                            simp only [Act.put, List.setIfInBounds_toArray, List.set_cons_zero, List.set_cons_succ, i64_w, i32_w]
                            rfl
                          exact norm_ (by simp only [putAll, Act.put, List.setIfInBounds_toArray, List.set_cons_zero, List.set_cons_succ]) (hCont (gb399) _ ⟨hHeld, (by (with_reducible repeat (first | apply Kd.R_alloc | apply Kd.R_drewN | apply Kd.R_drew)); exact Kd.R_mono HO_9.out (fun _ hk => hk.2)), (by (with_reducible repeat first | apply blk_drewN | apply blk_drew | apply blk_alloc); exact BK387.out), (by (with_reducible repeat first | apply blk_drewN | apply blk_drew | apply blk_alloc); exact BK389.out), (by (with_reducible repeat first | apply blk_drewN | apply blk_drew | apply blk_alloc); exact BK399.out), GW399.out, GE399.out, NB387_399.out, NB399_387.out, NB389_399.out, NB399_389.out, (by repeat (first | (with_reducible first | exact HB.out | apply below_alloc | apply pw_below_drewN | apply below_drew1 | refine below_set ?_ GE387.out | refine below_set ?_ GE389.out | refine below_set ?_ GE399.out) | exact HB.out))⟩)
                        · skip
                          refine box_step ?hg (N := 15) ?hd (cs := #[.int .i64 0, .int .i64 0, .int .i64 0, .int .i64 0, .int .i64 0]) (t := 57) ?hr ?_; (case hd => rfl); (case hg => rfl); (case hr => first | (go_simp; done) | (go_simp; rfl))
                          intro gb399 hg w31 hbox hb
                          have n0_ := Aside0.mk (Kd.R_below (Kd.R_elderB (by (with_reducible repeat (first | apply Kd.R_alloc | apply Kd.R_drewN | apply Kd.R_drew)); exact HO_9.out) gb399 (Nat.le_of_eq hg.symm)) hb)
                          have n1_ := blkE BK387 hb
                          have n2_ := blkE BK389 hb
                          have n3_ := Aside0.mk (below_step (by repeat (first | (with_reducible first | exact HB.out | apply below_alloc | apply pw_below_drewN | apply below_drew1 | refine below_set ?_ GE387.out | refine below_set ?_ GE389.out) | exact HB.out)) hb)
                          have n4_ := Aside0.mk (hbox)
                          have n5_ := Aside0.mk ((by rw [hg]; exact (below_size (by repeat (first | (with_reducible first | exact HB.out | apply below_alloc | apply pw_below_drewN | apply below_drew1 | refine below_set ?_ GE387.out | refine below_set ?_ GE389.out) | exact HB.out))) : w.heap.size ≤ gb399))
                          have n6_ := Aside0.mk ((by rw [hg]; exact (below_size (by repeat (first | (with_reducible first | exact HB.out | apply below_alloc | apply pw_below_drewN | apply below_drew1 | refine below_set ?_ GE387.out | refine below_set ?_ GE389.out) | exact HB.out))) : w.heap.size ≤ gb399))
                          have n7_ := Aside0.mk ((by rw [hg]; exact Nat.ne_of_lt (blk_lt (g := gb387) (o := .cells #[.int .i64 t380, .int .i64 t381, .int .i64 t382, .int .i64 t383, .int .i64 t384, .int .i64 t385, .int .i64 t386] 43 (0, 0)) (by (with_reducible repeat first | apply blk_drewN | apply blk_drew | apply blk_alloc); exact BK387.out)) : gb387 ≠ gb399))
                          have n8_ := Aside0.mk ((by rw [hg]; exact Nat.ne_of_gt (blk_lt (g := gb387) (o := .cells #[.int .i64 t380, .int .i64 t381, .int .i64 t382, .int .i64 t383, .int .i64 t384, .int .i64 t385, .int .i64 t386] 43 (0, 0)) (by (with_reducible repeat first | apply blk_drewN | apply blk_drew | apply blk_alloc); exact BK387.out)) : gb399 ≠ gb387))
                          have n9_ := Aside0.mk ((by rw [hg]; exact Nat.ne_of_lt (blk_lt (g := gb389) (o := .cells #[.int .i64 x390000_1, .int .i64 x390001_1] 23 (0, 0)) (by (with_reducible repeat first | apply blk_drewN | apply blk_drew | apply blk_alloc); exact BK389.out)) : gb389 ≠ gb399))
                          have n10_ := Aside0.mk ((by rw [hg]; exact Nat.ne_of_gt (blk_lt (g := gb389) (o := .cells #[.int .i64 x390000_1, .int .i64 x390001_1] 23 (0, 0)) (by (with_reducible repeat first | apply blk_drewN | apply blk_drew | apply blk_alloc); exact BK389.out)) : gb399 ≠ gb389))
                          clear HO_9
                          clear BK387
                          clear BK389
                          clear HB
                          have HO_9 := n0_
                          have BK387 := n1_
                          have BK389 := n2_
                          have HB := n3_
                          have BK399 := n4_
                          have GW399 := n5_
                          have GE399 := n6_
                          have NB387_399 := n7_
                          have NB399_387 := n8_
                          have NB389_399 := n9_
                          have NB399_389 := n10_
                          clear n0_ n1_ n2_ n3_ n4_ n5_ n6_ n7_ n8_ n9_ n10_
                          clear hb hbox hg
                          refine hK.out _ _ ⟨((HB.out.cell (World.block_lt_of_cell? w _ hw396_0)).trans hw396_0), ((HB.out.cell (World.block_lt_of_cell? w _ hw396_1)).trans hw396_1), ((HB.out.cell (World.block_lt_of_cell? w _ hw396_2)).trans hw396_2)⟩ (fun hHeld => ?_)
                          clear hK K
                          refine norm_ (a' := ?_) ?_ ?_
                          rotate_left
                          · show Act.put _ (some 15) _ = _
                            simp only [Act.put, List.setIfInBounds_toArray, List.set_cons_zero, List.set_cons_succ, i64_w, i32_w]
                            rfl
                          refine one_ (i := 21) (N := some 88) #[true, true, true, true, true, true, true, true, true, true, true, true, true, true, true, true, true, true, true, true, true, true, false, false, true, false] rfl rfl (one_of HT_.out (by kernel_rfl)) (by decide) (fun K hK => ?_)
                          refine goes_ Try.func35 (by kernel_rfl) rfl #[.int .i64 (wrap64 ((wrap64 (1 + t392)) * (wrap64 (1000 - (wrap64 (t381 + t388)))))), .int .i64 1000] (by rfl) rfl rfl (by (try simp only [List.map_toArray, List.map_cons, List.map_nil]); first | done | rfl | (simp only [List.length_drop, List.length_take]; rfl)) ?_
                          with_reducible refine (potbankref01_Up.calls (wrap64 ((wrap64 (1 + t392)) * (wrap64 (1000 - (wrap64 (t381 + t388)))))) 1000 t398 _ A26.out).mono ?_
                          rintro e w' ⟨rfl, ⟨nd, rfl⟩⟩
                          refine ⟨_, rfl, ?_⟩
                          refine hK.out _ _ ⟨((HB.out.cell (World.block_lt_of_cell? w _ hw396_0)).trans hw396_0), ((HB.out.cell (World.block_lt_of_cell? w _ hw396_1)).trans hw396_1), ((HB.out.cell (World.block_lt_of_cell? w _ hw396_2)).trans hw396_2)⟩ (fun hHeld => ?_)
                          clear hK K
                          refine norm_ (a' := ?_) ?_ ?_
                          rotate_left
                          · show Act.put _ (some 88) _ = _
                            simp only [Act.put, List.setIfInBounds_toArray, List.set_cons_zero, List.set_cons_succ, i64_w, i32_w]
                            rfl
                          refine pure_ (i := 22) (N := some 89) (v := ?_) (a' := ?_) #[true, true, true, true, true, true, true, true, true, true, true, true, true, true, true, true, true, true, true, true, true, true, true, false, true, false] rfl rfl (any_of HT_.out (by kernel_rfl)) (fun _ _ _ h => h) (Or.inl ⟨by rfl, ?_⟩) ?_ ?_
                          rotate_left
                          · intro w'
                            go_simp
                            with_reducible rfl
                          rotate_left
                          · simp only [Act.put, List.setIfInBounds_toArray, List.set_cons_zero, List.set_cons_succ, i64_w, i32_w]
                            rfl
                          refine pure_ (i := 23) (N := some 90) (v := ?_) (a' := ?_) #[true, true, true, true, true, true, true, true, true, true, true, true, true, true, true, true, true, true, true, true, true, true, true, true, true, false] rfl rfl (any_of HT_.out (by kernel_rfl)) (fun _ _ _ h => h) (Or.inl ⟨by rfl, ?_⟩) ?_ ?_
                          rotate_left
                          · intro w'
                            go_simp
                            with_reducible rfl
                          rotate_left
                          · simp only [Act.put, List.setIfInBounds_toArray, List.set_cons_zero, List.set_cons_succ, i64_w, i32_w]
                            rfl
                          exact norm_ (by simp only [putAll, Act.put, List.setIfInBounds_toArray, List.set_cons_zero, List.set_cons_succ]) (hCont (gb399) _ ⟨hHeld, (by (with_reducible repeat (first | apply Kd.R_alloc | apply Kd.R_drewN | apply Kd.R_drew)); exact Kd.R_mono HO_9.out (fun _ hk => hk.2)), (by (with_reducible repeat first | apply blk_drewN | apply blk_drew | apply blk_alloc); exact BK387.out), (by (with_reducible repeat first | apply blk_drewN | apply blk_drew | apply blk_alloc); exact BK389.out), (by (with_reducible repeat first | apply blk_drewN | apply blk_drew | apply blk_alloc); exact BK399.out), GW399.out, GE399.out, NB387_399.out, NB399_387.out, NB389_399.out, NB399_389.out, (by repeat (first | (with_reducible first | exact HB.out | apply below_alloc | apply pw_below_drewN | apply below_drew1 | refine below_set ?_ GE387.out | refine below_set ?_ GE389.out | refine below_set ?_ GE399.out) | exact HB.out))⟩)
                      · skip
                        refine box_step ?hg (N := 15) ?hd (cs := #[.int .i64 0, .int .i64 0, .int .i64 0, .int .i64 0, .int .i64 0]) (t := 57) ?hr ?_; (case hd => rfl); (case hg => rfl); (case hr => first | (go_simp; done) | (go_simp; rfl))
                        intro gb399 hg w31 hbox hb
                        have n0_ := Aside0.mk (Kd.R_below (Kd.R_elderB (by (with_reducible repeat (first | apply Kd.R_alloc | apply Kd.R_drewN | apply Kd.R_drew)); exact HO_9.out) gb399 (Nat.le_of_eq hg.symm)) hb)
                        have n1_ := blkE BK387 hb
                        have n2_ := blkE BK389 hb
                        have n3_ := Aside0.mk (below_step (by repeat (first | (with_reducible first | exact HB.out | apply below_alloc | apply pw_below_drewN | apply below_drew1 | refine below_set ?_ GE387.out | refine below_set ?_ GE389.out) | exact HB.out)) hb)
                        have n4_ := Aside0.mk (hbox)
                        have n5_ := Aside0.mk ((by rw [hg]; exact (below_size (by repeat (first | (with_reducible first | exact HB.out | apply below_alloc | apply pw_below_drewN | apply below_drew1 | refine below_set ?_ GE387.out | refine below_set ?_ GE389.out) | exact HB.out))) : w.heap.size ≤ gb399))
                        have n6_ := Aside0.mk ((by rw [hg]; exact (below_size (by repeat (first | (with_reducible first | exact HB.out | apply below_alloc | apply pw_below_drewN | apply below_drew1 | refine below_set ?_ GE387.out | refine below_set ?_ GE389.out) | exact HB.out))) : w.heap.size ≤ gb399))
                        have n7_ := Aside0.mk ((by rw [hg]; exact Nat.ne_of_lt (blk_lt (g := gb387) (o := .cells #[.int .i64 t380, .int .i64 t381, .int .i64 t382, .int .i64 t383, .int .i64 t384, .int .i64 t385, .int .i64 t386] 43 (0, 0)) (by (with_reducible repeat first | apply blk_drewN | apply blk_drew | apply blk_alloc); exact BK387.out)) : gb387 ≠ gb399))
                        have n8_ := Aside0.mk ((by rw [hg]; exact Nat.ne_of_gt (blk_lt (g := gb387) (o := .cells #[.int .i64 t380, .int .i64 t381, .int .i64 t382, .int .i64 t383, .int .i64 t384, .int .i64 t385, .int .i64 t386] 43 (0, 0)) (by (with_reducible repeat first | apply blk_drewN | apply blk_drew | apply blk_alloc); exact BK387.out)) : gb399 ≠ gb387))
                        have n9_ := Aside0.mk ((by rw [hg]; exact Nat.ne_of_lt (blk_lt (g := gb389) (o := .cells #[.int .i64 x390000_1, .int .i64 x390001_1] 23 (0, 0)) (by (with_reducible repeat first | apply blk_drewN | apply blk_drew | apply blk_alloc); exact BK389.out)) : gb389 ≠ gb399))
                        have n10_ := Aside0.mk ((by rw [hg]; exact Nat.ne_of_gt (blk_lt (g := gb389) (o := .cells #[.int .i64 x390000_1, .int .i64 x390001_1] 23 (0, 0)) (by (with_reducible repeat first | apply blk_drewN | apply blk_drew | apply blk_alloc); exact BK389.out)) : gb399 ≠ gb389))
                        clear HO_9
                        clear BK387
                        clear BK389
                        clear HB
                        have HO_9 := n0_
                        have BK387 := n1_
                        have BK389 := n2_
                        have HB := n3_
                        have BK399 := n4_
                        have GW399 := n5_
                        have GE399 := n6_
                        have NB387_399 := n7_
                        have NB399_387 := n8_
                        have NB389_399 := n9_
                        have NB399_389 := n10_
                        clear n0_ n1_ n2_ n3_ n4_ n5_ n6_ n7_ n8_ n9_ n10_
                        clear hb hbox hg
                        refine hK.out _ _ ⟨((HB.out.cell (World.block_lt_of_cell? w _ hw396_0)).trans hw396_0), ((HB.out.cell (World.block_lt_of_cell? w _ hw396_1)).trans hw396_1), ((HB.out.cell (World.block_lt_of_cell? w _ hw396_2)).trans hw396_2)⟩ (fun hHeld => ?_)
                        clear hK K
                        refine norm_ (a' := ?_) ?_ ?_
                        rotate_left
                        · show Act.put _ (some 15) _ = _
                          simp only [Act.put, List.setIfInBounds_toArray, List.set_cons_zero, List.set_cons_succ, i64_w, i32_w]
                          rfl
                        refine one_ (i := 17) (N := some 84) #[true, true, true, true, true, true, true, true, true, true, true, true, true, true, true, true, true, true, false, false, true, false, false, false, true, false] rfl rfl (one_of HT_.out (by kernel_rfl)) (by decide) (fun K hK => ?_)
                        refine goes_ Try.func21 (by kernel_rfl) rfl #[.int .i64 ((rd_T46 l2 x11_1).f2), .int .i64 3] (by rfl) rfl rfl (by (try simp only [List.map_toArray, List.map_cons, List.map_nil]); first | done | rfl | (simp only [List.length_drop, List.length_take]; rfl)) ?_
                        with_reducible refine (potbankref01_Mod.calls ((rd_T46 l2 x11_1).f2) 3 t397 _ A24.out).mono ?_
                        rintro e w' ⟨rfl, ⟨nd, rfl⟩⟩
                        refine ⟨_, rfl, ?_⟩
                        refine hK.out _ _ ⟨((HB.out.cell (World.block_lt_of_cell? w _ hw396_0)).trans hw396_0), ((HB.out.cell (World.block_lt_of_cell? w _ hw396_1)).trans hw396_1), ((HB.out.cell (World.block_lt_of_cell? w _ hw396_2)).trans hw396_2)⟩ (fun hHeld => ?_)
                        clear hK K
                        refine norm_ (a' := ?_) ?_ ?_
                        rotate_left
                        · show Act.put _ (some 84) _ = _
                          simp only [Act.put, List.setIfInBounds_toArray, List.set_cons_zero, List.set_cons_succ, i64_w, i32_w]
                          rfl
                        refine pure_ (i := 18) (N := some 85) (v := ?_) (a' := ?_) #[true, true, true, true, true, true, true, true, true, true, true, true, true, true, true, true, true, true, true, false, true, false, false, false, true, false] rfl rfl (any_of HT_.out (by kernel_rfl)) (fun _ _ _ h => h) (Or.inl ⟨by rfl, ?_⟩) ?_ ?_
                        rotate_left
                        · intro w'
                          go_simp
                          with_reducible rfl
                        rotate_left
                        · simp only [Act.put, List.setIfInBounds_toArray, List.set_cons_zero, List.set_cons_succ, i64_w, i32_w]
                          rfl
                        refine pure_ (i := 19) (N := some 86) (v := ?_) (a' := ?_) #[true, true, true, true, true, true, true, true, true, true, true, true, true, true, true, true, true, true, true, true, true, false, false, false, true, false] rfl rfl (any_of HT_.out (by kernel_rfl)) (fun _ _ _ h => h) (Or.inl ⟨by rfl, ?_⟩) ?_ ?_
                        rotate_left
                        · intro w'
                          go_simp
                          with_reducible rfl
                        rotate_left
                        · simp only [Act.put, List.setIfInBounds_toArray, List.set_cons_zero, List.set_cons_succ, i64_w, i32_w]
                          rfl
                        refine one_ (i := 21) (N := some 88) #[true, true, true, true, true, true, true, true, true, true, true, true, true, true, true, true, true, true, true, true, true, true, false, false, true, false] rfl rfl (one_of HT_.out (by kernel_rfl)) (by decide) (fun K hK => ?_)
                        refine goes_ Try.func35 (by kernel_rfl) rfl #[.int .i64 (wrap64 ((wrap64 (1 + t392)) * (wrap64 (1000 - (wrap64 (t381 + t388)))))), .int .i64 1000] (by rfl) rfl rfl (by (try simp only [List.map_toArray, List.map_cons, List.map_nil]); first | done | rfl | (simp only [List.length_drop, List.length_take]; rfl)) ?_
                        with_reducible refine (potbankref01_Up.calls (wrap64 ((wrap64 (1 + t392)) * (wrap64 (1000 - (wrap64 (t381 + t388)))))) 1000 t398 _ A26.out).mono ?_
                        rintro e w' ⟨rfl, ⟨nd, rfl⟩⟩
                        refine ⟨_, rfl, ?_⟩
                        refine hK.out _ _ ⟨((HB.out.cell (World.block_lt_of_cell? w _ hw396_0)).trans hw396_0), ((HB.out.cell (World.block_lt_of_cell? w _ hw396_1)).trans hw396_1), ((HB.out.cell (World.block_lt_of_cell? w _ hw396_2)).trans hw396_2)⟩ (fun hHeld => ?_)
                        clear hK K
                        refine norm_ (a' := ?_) ?_ ?_
                        rotate_left
                        · show Act.put _ (some 88) _ = _
                          simp only [Act.put, List.setIfInBounds_toArray, List.set_cons_zero, List.set_cons_succ, i64_w, i32_w]
                          rfl
                        refine pure_ (i := 22) (N := some 89) (v := ?_) (a' := ?_) #[true, true, true, true, true, true, true, true, true, true, true, true, true, true, true, true, true, true, true, true, true, true, true, false, true, false] rfl rfl (any_of HT_.out (by kernel_rfl)) (fun _ _ _ h => h) (Or.inl ⟨by rfl, ?_⟩) ?_ ?_
                        rotate_left
                        · intro w'
                          go_simp
                          with_reducible rfl
                        rotate_left
                        · simp only [Act.put, List.setIfInBounds_toArray, List.set_cons_zero, List.set_cons_succ, i64_w, i32_w]
                          rfl
                        refine pure_ (i := 23) (N := some 90) (v := ?_) (a' := ?_) #[true, true, true, true, true, true, true, true, true, true, true, true, true, true, true, true, true, true, true, true, true, true, true, true, true, false] rfl rfl (any_of HT_.out (by kernel_rfl)) (fun _ _ _ h => h) (Or.inl ⟨by rfl, ?_⟩) ?_ ?_
                        rotate_left
                        · intro w'
                          go_simp
                          with_reducible rfl
                        rotate_left
                        · simp only [Act.put, List.setIfInBounds_toArray, List.set_cons_zero, List.set_cons_succ, i64_w, i32_w]
                          rfl
                        exact norm_ (by simp only [putAll, Act.put, List.setIfInBounds_toArray, List.set_cons_zero, List.set_cons_succ]) (hCont (gb399) _ ⟨hHeld, (by (with_reducible repeat (first | apply Kd.R_alloc | apply Kd.R_drewN | apply Kd.R_drew)); exact Kd.R_mono HO_9.out (fun _ hk => hk.2)), (by (with_reducible repeat first | apply blk_drewN | apply blk_drew | apply blk_alloc); exact BK387.out), (by (with_reducible repeat first | apply blk_drewN | apply blk_drew | apply blk_alloc); exact BK389.out), (by (with_reducible repeat first | apply blk_drewN | apply blk_drew | apply blk_alloc); exact BK399.out), GW399.out, GE399.out, NB387_399.out, NB399_387.out, NB389_399.out, NB399_389.out, (by repeat (first | (with_reducible first | exact HB.out | apply below_alloc | apply pw_below_drewN | apply below_drew1 | refine below_set ?_ GE387.out | refine below_set ?_ GE389.out | refine below_set ?_ GE399.out) | exact HB.out))⟩)
                    · skip
                      refine box_step ?hg (N := 15) ?hd (cs := #[.int .i64 0, .int .i64 0, .int .i64 0, .int .i64 0, .int .i64 0]) (t := 57) ?hr ?_; (case hd => rfl); (case hg => rfl); (case hr => first | (go_simp; done) | (go_simp; rfl))
                      intro gb399 hg w31 hbox hb
                      have n0_ := Aside0.mk (Kd.R_below (Kd.R_elderB (by (with_reducible repeat (first | apply Kd.R_alloc | apply Kd.R_drewN | apply Kd.R_drew)); exact HO_9.out) gb399 (Nat.le_of_eq hg.symm)) hb)
                      have n1_ := blkE BK387 hb
                      have n2_ := blkE BK389 hb
                      have n3_ := Aside0.mk (below_step (by repeat (first | (with_reducible first | exact HB.out | apply below_alloc | apply pw_below_drewN | apply below_drew1 | refine below_set ?_ GE387.out | refine below_set ?_ GE389.out) | exact HB.out)) hb)
                      have n4_ := Aside0.mk (hbox)
                      have n5_ := Aside0.mk ((by rw [hg]; exact (below_size (by repeat (first | (with_reducible first | exact HB.out | apply below_alloc | apply pw_below_drewN | apply below_drew1 | refine below_set ?_ GE387.out | refine below_set ?_ GE389.out) | exact HB.out))) : w.heap.size ≤ gb399))
                      have n6_ := Aside0.mk ((by rw [hg]; exact (below_size (by repeat (first | (with_reducible first | exact HB.out | apply below_alloc | apply pw_below_drewN | apply below_drew1 | refine below_set ?_ GE387.out | refine below_set ?_ GE389.out) | exact HB.out))) : w.heap.size ≤ gb399))
                      have n7_ := Aside0.mk ((by rw [hg]; exact Nat.ne_of_lt (blk_lt (g := gb387) (o := .cells #[.int .i64 t380, .int .i64 t381, .int .i64 t382, .int .i64 t383, .int .i64 t384, .int .i64 t385, .int .i64 t386] 43 (0, 0)) (by (with_reducible repeat first | apply blk_drewN | apply blk_drew | apply blk_alloc); exact BK387.out)) : gb387 ≠ gb399))
                      have n8_ := Aside0.mk ((by rw [hg]; exact Nat.ne_of_gt (blk_lt (g := gb387) (o := .cells #[.int .i64 t380, .int .i64 t381, .int .i64 t382, .int .i64 t383, .int .i64 t384, .int .i64 t385, .int .i64 t386] 43 (0, 0)) (by (with_reducible repeat first | apply blk_drewN | apply blk_drew | apply blk_alloc); exact BK387.out)) : gb399 ≠ gb387))
                      have n9_ := Aside0.mk ((by rw [hg]; exact Nat.ne_of_lt (blk_lt (g := gb389) (o := .cells #[.int .i64 x390000_1, .int .i64 x390001_1] 23 (0, 0)) (by (with_reducible repeat first | apply blk_drewN | apply blk_drew | apply blk_alloc); exact BK389.out)) : gb389 ≠ gb399))
                      have n10_ := Aside0.mk ((by rw [hg]; exact Nat.ne_of_gt (blk_lt (g := gb389) (o := .cells #[.int .i64 x390000_1, .int .i64 x390001_1] 23 (0, 0)) (by (with_reducible repeat first | apply blk_drewN | apply blk_drew | apply blk_alloc); exact BK389.out)) : gb399 ≠ gb389))
                      clear HO_9
                      clear BK387
                      clear BK389
                      clear HB
                      have HO_9 := n0_
                      have BK387 := n1_
                      have BK389 := n2_
                      have HB := n3_
                      have BK399 := n4_
                      have GW399 := n5_
                      have GE399 := n6_
                      have NB387_399 := n7_
                      have NB399_387 := n8_
                      have NB389_399 := n9_
                      have NB399_389 := n10_
                      clear n0_ n1_ n2_ n3_ n4_ n5_ n6_ n7_ n8_ n9_ n10_
                      clear hb hbox hg
                      refine hK.out _ _ ⟨((HB.out.cell (World.block_lt_of_cell? w _ hw396_0)).trans hw396_0), ((HB.out.cell (World.block_lt_of_cell? w _ hw396_1)).trans hw396_1), ((HB.out.cell (World.block_lt_of_cell? w _ hw396_2)).trans hw396_2)⟩ (fun hHeld => ?_)
                      clear hK K
                      refine norm_ (a' := ?_) ?_ ?_
                      rotate_left
                      · show Act.put _ (some 15) _ = _
                        simp only [Act.put, List.setIfInBounds_toArray, List.set_cons_zero, List.set_cons_succ, i64_w, i32_w]
                        rfl
                      refine one_ (i := 11) (N := some 78) #[true, true, true, true, true, true, true, true, true, true, true, true, true, true, true, true, true, false, false, false, true, false, false, false, true, false] rfl rfl (one_of HT_.out (by kernel_rfl)) (by decide) (fun K hK => ?_)
                      refine goes_ Try.func34 (by kernel_rfl) rfl #[.int .i64 (wrap64 ((wrap64 (1 + t392)) * (wrap64 (1000 - (wrap64 (t381 + t388)))))), .int .i64 1000] (by rfl) rfl rfl (by (try simp only [List.map_toArray, List.map_cons, List.map_nil]); first | done | rfl | (simp only [List.length_drop, List.length_take]; rfl)) ?_
                      with_reducible refine (potbankref01_Down.calls (wrap64 ((wrap64 (1 + t392)) * (wrap64 (1000 - (wrap64 (t381 + t388)))))) 1000 t395 _ A23.out).mono ?_
                      rintro e w' ⟨rfl, ⟨nd, rfl⟩⟩
                      refine ⟨_, rfl, ?_⟩
                      refine hK.out _ _ ⟨((HB.out.cell (World.block_lt_of_cell? w _ hw396_0)).trans hw396_0), ((HB.out.cell (World.block_lt_of_cell? w _ hw396_1)).trans hw396_1), ((HB.out.cell (World.block_lt_of_cell? w _ hw396_2)).trans hw396_2)⟩ (fun hHeld => ?_)
                      clear hK K
                      refine norm_ (a' := ?_) ?_ ?_
                      rotate_left
                      · show Act.put _ (some 78) _ = _
                        simp only [Act.put, List.setIfInBounds_toArray, List.set_cons_zero, List.set_cons_succ, i64_w, i32_w]
                        rfl
                      refine one_ (i := 17) (N := some 84) #[true, true, true, true, true, true, true, true, true, true, true, true, true, true, true, true, true, true, false, false, true, false, false, false, true, false] rfl rfl (one_of HT_.out (by kernel_rfl)) (by decide) (fun K hK => ?_)
                      refine goes_ Try.func21 (by kernel_rfl) rfl #[.int .i64 ((rd_T46 l2 x11_1).f2), .int .i64 3] (by rfl) rfl rfl (by (try simp only [List.map_toArray, List.map_cons, List.map_nil]); first | done | rfl | (simp only [List.length_drop, List.length_take]; rfl)) ?_
                      with_reducible refine (potbankref01_Mod.calls ((rd_T46 l2 x11_1).f2) 3 t397 _ A24.out).mono ?_
                      rintro e w' ⟨rfl, ⟨nd, rfl⟩⟩
                      refine ⟨_, rfl, ?_⟩
                      refine hK.out _ _ ⟨((HB.out.cell (World.block_lt_of_cell? w _ hw396_0)).trans hw396_0), ((HB.out.cell (World.block_lt_of_cell? w _ hw396_1)).trans hw396_1), ((HB.out.cell (World.block_lt_of_cell? w _ hw396_2)).trans hw396_2)⟩ (fun hHeld => ?_)
                      clear hK K
                      refine norm_ (a' := ?_) ?_ ?_
                      rotate_left
                      · show Act.put _ (some 84) _ = _
                        simp only [Act.put, List.setIfInBounds_toArray, List.set_cons_zero, List.set_cons_succ, i64_w, i32_w]
                        rfl
                      refine pure_ (i := 18) (N := some 85) (v := ?_) (a' := ?_) #[true, true, true, true, true, true, true, true, true, true, true, true, true, true, true, true, true, true, true, false, true, false, false, false, true, false] rfl rfl (any_of HT_.out (by kernel_rfl)) (fun _ _ _ h => h) (Or.inl ⟨by rfl, ?_⟩) ?_ ?_
                      rotate_left
                      · intro w'
                        go_simp
                        with_reducible rfl
                      rotate_left
                      · simp only [Act.put, List.setIfInBounds_toArray, List.set_cons_zero, List.set_cons_succ, i64_w, i32_w]
                        rfl
                      refine pure_ (i := 19) (N := some 86) (v := ?_) (a' := ?_) #[true, true, true, true, true, true, true, true, true, true, true, true, true, true, true, true, true, true, true, true, true, false, false, false, true, false] rfl rfl (any_of HT_.out (by kernel_rfl)) (fun _ _ _ h => h) (Or.inl ⟨by rfl, ?_⟩) ?_ ?_
                      rotate_left
                      · intro w'
                        go_simp
                        with_reducible rfl
                      rotate_left
                      · simp only [Act.put, List.setIfInBounds_toArray, List.set_cons_zero, List.set_cons_succ, i64_w, i32_w]
                        rfl
                      refine one_ (i := 21) (N := some 88) #[true, true, true, true, true, true, true, true, true, true, true, true, true, true, true, true, true, true, true, true, true, true, false, false, true, false] rfl rfl (one_of HT_.out (by kernel_rfl)) (by decide) (fun K hK => ?_)
                      refine goes_ Try.func35 (by kernel_rfl) rfl #[.int .i64 (wrap64 ((wrap64 (1 + t392)) * (wrap64 (1000 - (wrap64 (t381 + t388)))))), .int .i64 1000] (by rfl) rfl rfl (by (try simp only [List.map_toArray, List.map_cons, List.map_nil]); first | done | rfl | (simp only [List.length_drop, List.length_take]; rfl)) ?_
                      with_reducible refine (potbankref01_Up.calls (wrap64 ((wrap64 (1 + t392)) * (wrap64 (1000 - (wrap64 (t381 + t388)))))) 1000 t398 _ A26.out).mono ?_
                      rintro e w' ⟨rfl, ⟨nd, rfl⟩⟩
                      refine ⟨_, rfl, ?_⟩
                      refine hK.out _ _ ⟨((HB.out.cell (World.block_lt_of_cell? w _ hw396_0)).trans hw396_0), ((HB.out.cell (World.block_lt_of_cell? w _ hw396_1)).trans hw396_1), ((HB.out.cell (World.block_lt_of_cell? w _ hw396_2)).trans hw396_2)⟩ (fun hHeld => ?_)
                      clear hK K
                      refine norm_ (a' := ?_) ?_ ?_
                      rotate_left
                      · show Act.put _ (some 88) _ = _
                        simp only [Act.put, List.setIfInBounds_toArray, List.set_cons_zero, List.set_cons_succ, i64_w, i32_w]
                        rfl
                      refine pure_ (i := 22) (N := some 89) (v := ?_) (a' := ?_) #[true, true, true, true, true, true, true, true, true, true, true, true, true, true, true, true, true, true, true, true, true, true, true, false, true, false] rfl rfl (any_of HT_.out (by kernel_rfl)) (fun _ _ _ h => h) (Or.inl ⟨by rfl, ?_⟩) ?_ ?_
                      rotate_left
                      · intro w'
                        go_simp
                        with_reducible rfl
                      rotate_left
                      · simp only [Act.put, List.setIfInBounds_toArray, List.set_cons_zero, List.set_cons_succ, i64_w, i32_w]
                        rfl
                      refine pure_ (i := 23) (N := some 90) (v := ?_) (a' := ?_) #[true, true, true, true, true, true, true, true, true, true, true, true, true, true, true, true, true, true, true, true, true, true, true, true, true, false] rfl rfl (any_of HT_.out (by kernel_rfl)) (fun _ _ _ h => h) (Or.inl ⟨by rfl, ?_⟩) ?_ ?_
                      rotate_left
                      · intro w'
                        go_simp
                        with_reducible rfl
                      rotate_left
                      · simp only [Act.put, List.setIfInBounds_toArray, List.set_cons_zero, List.set_cons_succ, i64_w, i32_w]
                        rfl
                      exact norm_ (by simp only [putAll, Act.put, List.setIfInBounds_toArray, List.set_cons_zero, List.set_cons_succ]) (hCont (gb399) _ ⟨hHeld, (by (with_reducible repeat (first | apply Kd.R_alloc | apply Kd.R_drewN | apply Kd.R_drew)); exact Kd.R_mono HO_9.out (fun _ hk => hk.2)), (by (with_reducible repeat first | apply blk_drewN | apply blk_drew | apply blk_alloc); exact BK387.out), (by (with_reducible repeat first | apply blk_drewN | apply blk_drew | apply blk_alloc); exact BK389.out), (by (with_reducible repeat first | apply blk_drewN | apply blk_drew | apply blk_alloc); exact BK399.out), GW399.out, GE399.out, NB387_399.out, NB399_387.out, NB389_399.out, NB399_389.out, (by repeat (first | (with_reducible first | exact HB.out | apply below_alloc | apply pw_below_drewN | apply below_drew1 | refine below_set ?_ GE387.out | refine below_set ?_ GE389.out | refine below_set ?_ GE399.out) | exact HB.out))⟩)
                  rintro gb399 w32 ⟨hS_, h0_, h1_, h2_, h3_, h4_, h5_, h6_, h7_, h8_, h9_, h10_⟩
                  have n0_ : Aside0 (Kd.R k57 57 w32 w.heap.size (fun k_ => k_ ≠ gb399) u9 x9_1) := ⟨h0_⟩
                  have n1_ : Aside0 (w32.heap[gb387]? = some (.cells #[.int .i64 t380, .int .i64 t381, .int .i64 t382, .int .i64 t383, .int .i64 t384, .int .i64 t385, .int .i64 t386] 43 (0, 0))) := ⟨h1_⟩
                  have n2_ : Aside0 (w32.heap[gb389]? = some (.cells #[.int .i64 x390000_1, .int .i64 x390001_1] 23 (0, 0))) := ⟨h2_⟩
                  have n3_ : Aside0 (w32.heap[gb399]? = some (.cells #[.int .i64 0, .int .i64 0, .int .i64 0, .int .i64 0, .int .i64 0] 57 (0, 0))) := ⟨h3_⟩
                  have n4_ : Aside0 (w.heap.size ≤ gb399) := ⟨h4_⟩
                  have n5_ : Aside0 (w.heap.size ≤ gb399) := ⟨h5_⟩
                  have n6_ : Aside0 (gb387 ≠ gb399) := ⟨h6_⟩
                  have n7_ : Aside0 (gb399 ≠ gb387) := ⟨h7_⟩
                  have n8_ : Aside0 (gb389 ≠ gb399) := ⟨h8_⟩
                  have n9_ : Aside0 (gb399 ≠ gb389) := ⟨h9_⟩
                  have n10_ : Aside0 (Below w.heap.size w w32) := ⟨h10_⟩
                  clear HO_9
                  clear BK387
                  clear BK389
                  clear HB
                  clear h0_ h1_ h2_ h3_ h4_ h5_ h6_ h7_ h8_ h9_ h10_
                  have HO_9 := n0_
                  have BK387 := n1_
                  have BK389 := n2_
                  have BK399 := n3_
                  have GW399 := n4_
                  have GE399 := n5_
                  have NB387_399 := n6_
                  have NB399_387 := n7_
                  have NB389_399 := n8_
                  have NB399_389 := n9_
                  have HB := n10_
                  clear n0_ n1_ n2_ n3_ n4_ n5_ n6_ n7_ n8_ n9_ n10_
                  have hHeld : w32.cell? (ad391.add ((x11_1).toNat * 3)) = some (.int .i64 ((rd_T46 l2 x11_1).f0)) ∧ w32.cell? ⟨(ad391.add ((x11_1).toNat * 3)).block, (ad391.add ((x11_1).toNat * 3)).off + 1, none⟩ = some (.int .i64 ((rd_T46 l2 x11_1).f1)) ∧ w32.cell? ⟨(ad391.add ((x11_1).toNat * 3)).block, (ad391.add ((x11_1).toNat * 3)).off + 2, none⟩ = some (.int .i64 ((rd_T46 l2 x11_1).f2)) := hS_
                  refine norm_ (a' := ?_) ?_ ?_
                  rotate_left
                  · simp only [putAll, Act.put, List.setIfInBounds_toArray, List.set_cons_zero, List.set_cons_succ]
                    rfl
                  refine one_ (i := 25) (N := none) #[true, true, true, true, true, true, true, true, true, true, true, true, true, true, true, true, true, true, true, true, true, true, true, true, true, true] rfl rfl (one_of HT_.out (by kernel_rfl)) (by decide) (fun K hK => ?_)
                  have hs33 : w32.cell? ⟨gb399, 0, none⟩ = some (.int .i64 0) := (blk_cell BK399.out 0).trans rfl
                  have hfs33 := blk_frozen BK399.out 0
                  have hns33_0 := NB387_399.out
                  have hns33_1 := NB389_399.out
                  have hms33_0 := NB399_387.out
                  have hms33_1 := NB399_389.out
                  have hs34 : w32.cell? ⟨gb399, 1, none⟩ = some (.int .i64 0) := (blk_cell BK399.out 1).trans rfl
                  have hfs34 := blk_frozen BK399.out 1
                  have hns34_0 := NB387_399.out
                  have hns34_1 := NB389_399.out
                  have hms34_0 := NB399_387.out
                  have hms34_1 := NB399_389.out
                  have hs35 : w32.cell? ⟨gb399, 2, none⟩ = some (.int .i64 0) := (blk_cell BK399.out 2).trans rfl
                  have hfs35 := blk_frozen BK399.out 2
                  have hns35_0 := NB387_399.out
                  have hns35_1 := NB389_399.out
                  have hms35_0 := NB399_387.out
                  have hms35_1 := NB399_389.out
                  have hs36 : w32.cell? ⟨gb399, 3, none⟩ = some (.int .i64 0) := (blk_cell BK399.out 3).trans rfl
                  have hfs36 := blk_frozen BK399.out 3
                  have hns36_0 := NB387_399.out
                  have hns36_1 := NB389_399.out
                  have hms36_0 := NB399_387.out
                  have hms36_1 := NB399_389.out
                  have hs37 : w32.cell? ⟨gb399, 4, none⟩ = some (.int .i64 0) := (blk_cell BK399.out 4).trans rfl
                  have hfs37 := blk_frozen BK399.out 4
                  have hns37_0 := NB387_399.out
                  have hns37_1 := NB389_399.out
                  have hms37_0 := NB399_387.out
                  have hms37_1 := NB399_389.out
                  refine skip_ (w1 := ?_) (by rfl) rfl ?_ ?_
                  rotate_left
                  · go_simp
                    rfl
                  refine hK.out _ _ ⟨((cell_far (p := ⟨gb399, _, none⟩) (by first | exact Nat.ne_of_lt (Nat.lt_of_lt_of_le (by have := World.block_lt_of_cell? _ _ hw396_0; first | rwa [add_block] at this | exact this) GW399.out) | (rw [add_block]; exact Nat.ne_of_lt (Nat.lt_of_lt_of_le (by have := World.block_lt_of_cell? _ _ hw396_0; first | rwa [add_block] at this | exact this) GW399.out)) | (show (Addr.add _ _).block ≠ _; rw [add_block]; exact Nat.ne_of_lt (Nat.lt_of_lt_of_le (by have := World.block_lt_of_cell? _ _ hw396_0; first | rwa [add_block] at this | exact this) GW399.out)) | (dsimp only; exact Nat.ne_of_lt (Nat.lt_of_lt_of_le (by have := World.block_lt_of_cell? _ _ hw396_0; first | rwa [add_block] at this | exact this) GW399.out))) _).trans (((cell_far (p := ⟨gb399, _, none⟩) (by first | exact Nat.ne_of_lt (Nat.lt_of_lt_of_le (by have := World.block_lt_of_cell? _ _ hw396_0; first | rwa [add_block] at this | exact this) GW399.out) | (rw [add_block]; exact Nat.ne_of_lt (Nat.lt_of_lt_of_le (by have := World.block_lt_of_cell? _ _ hw396_0; first | rwa [add_block] at this | exact this) GW399.out)) | (show (Addr.add _ _).block ≠ _; rw [add_block]; exact Nat.ne_of_lt (Nat.lt_of_lt_of_le (by have := World.block_lt_of_cell? _ _ hw396_0; first | rwa [add_block] at this | exact this) GW399.out)) | (dsimp only; exact Nat.ne_of_lt (Nat.lt_of_lt_of_le (by have := World.block_lt_of_cell? _ _ hw396_0; first | rwa [add_block] at this | exact this) GW399.out))) _).trans (((cell_far (p := ⟨gb399, _, none⟩) (by first | exact Nat.ne_of_lt (Nat.lt_of_lt_of_le (by have := World.block_lt_of_cell? _ _ hw396_0; first | rwa [add_block] at this | exact this) GW399.out) | (rw [add_block]; exact Nat.ne_of_lt (Nat.lt_of_lt_of_le (by have := World.block_lt_of_cell? _ _ hw396_0; first | rwa [add_block] at this | exact this) GW399.out)) | (show (Addr.add _ _).block ≠ _; rw [add_block]; exact Nat.ne_of_lt (Nat.lt_of_lt_of_le (by have := World.block_lt_of_cell? _ _ hw396_0; first | rwa [add_block] at this | exact this) GW399.out)) | (dsimp only; exact Nat.ne_of_lt (Nat.lt_of_lt_of_le (by have := World.block_lt_of_cell? _ _ hw396_0; first | rwa [add_block] at this | exact this) GW399.out))) _).trans (((cell_far (p := ⟨gb399, _, none⟩) (by first | exact Nat.ne_of_lt (Nat.lt_of_lt_of_le (by have := World.block_lt_of_cell? _ _ hw396_0; first | rwa [add_block] at this | exact this) GW399.out) | (rw [add_block]; exact Nat.ne_of_lt (Nat.lt_of_lt_of_le (by have := World.block_lt_of_cell? _ _ hw396_0; first | rwa [add_block] at this | exact this) GW399.out)) | (show (Addr.add _ _).block ≠ _; rw [add_block]; exact Nat.ne_of_lt (Nat.lt_of_lt_of_le (by have := World.block_lt_of_cell? _ _ hw396_0; first | rwa [add_block] at this | exact this) GW399.out)) | (dsimp only; exact Nat.ne_of_lt (Nat.lt_of_lt_of_le (by have := World.block_lt_of_cell? _ _ hw396_0; first | rwa [add_block] at this | exact this) GW399.out))) _).trans (((cell_far (p := ⟨gb399, _, none⟩) (by first | exact Nat.ne_of_lt (Nat.lt_of_lt_of_le (by have := World.block_lt_of_cell? _ _ hw396_0; first | rwa [add_block] at this | exact this) GW399.out) | (rw [add_block]; exact Nat.ne_of_lt (Nat.lt_of_lt_of_le (by have := World.block_lt_of_cell? _ _ hw396_0; first | rwa [add_block] at this | exact this) GW399.out)) | (show (Addr.add _ _).block ≠ _; rw [add_block]; exact Nat.ne_of_lt (Nat.lt_of_lt_of_le (by have := World.block_lt_of_cell? _ _ hw396_0; first | rwa [add_block] at this | exact this) GW399.out)) | (dsimp only; exact Nat.ne_of_lt (Nat.lt_of_lt_of_le (by have := World.block_lt_of_cell? _ _ hw396_0; first | rwa [add_block] at this | exact this) GW399.out))) _).trans (hHeld.1)))))))))), ((cell_far (p := ⟨gb399, _, none⟩) (by first | exact Nat.ne_of_lt (Nat.lt_of_lt_of_le (by have := World.block_lt_of_cell? _ _ hw396_1; first | rwa [add_block] at this | exact this) GW399.out) | (rw [add_block]; exact Nat.ne_of_lt (Nat.lt_of_lt_of_le (by have := World.block_lt_of_cell? _ _ hw396_1; first | rwa [add_block] at this | exact this) GW399.out)) | (show (Addr.add _ _).block ≠ _; rw [add_block]; exact Nat.ne_of_lt (Nat.lt_of_lt_of_le (by have := World.block_lt_of_cell? _ _ hw396_1; first | rwa [add_block] at this | exact this) GW399.out)) | (dsimp only; exact Nat.ne_of_lt (Nat.lt_of_lt_of_le (by have := World.block_lt_of_cell? _ _ hw396_1; first | rwa [add_block] at this | exact this) GW399.out))) _).trans (((cell_far (p := ⟨gb399, _, none⟩) (by first | exact Nat.ne_of_lt (Nat.lt_of_lt_of_le (by have := World.block_lt_of_cell? _ _ hw396_1; first | rwa [add_block] at this | exact this) GW399.out) | (rw [add_block]; exact Nat.ne_of_lt (Nat.lt_of_lt_of_le (by have := World.block_lt_of_cell? _ _ hw396_1; first | rwa [add_block] at this | exact this) GW399.out)) | (show (Addr.add _ _).block ≠ _; rw [add_block]; exact Nat.ne_of_lt (Nat.lt_of_lt_of_le (by have := World.block_lt_of_cell? _ _ hw396_1; first | rwa [add_block] at this | exact this) GW399.out)) | (dsimp only; exact Nat.ne_of_lt (Nat.lt_of_lt_of_le (by have := World.block_lt_of_cell? _ _ hw396_1; first | rwa [add_block] at this | exact this) GW399.out))) _).trans (((cell_far (p := ⟨gb399, _, none⟩) (by first | exact Nat.ne_of_lt (Nat.lt_of_lt_of_le (by have := World.block_lt_of_cell? _ _ hw396_1; first | rwa [add_block] at this | exact this) GW399.out) | (rw [add_block]; exact Nat.ne_of_lt (Nat.lt_of_lt_of_le (by have := World.block_lt_of_cell? _ _ hw396_1; first | rwa [add_block] at this | exact this) GW399.out)) | (show (Addr.add _ _).block ≠ _; rw [add_block]; exact Nat.ne_of_lt (Nat.lt_of_lt_of_le (by have := World.block_lt_of_cell? _ _ hw396_1; first | rwa [add_block] at this | exact this) GW399.out)) | (dsimp only; exact Nat.ne_of_lt (Nat.lt_of_lt_of_le (by have := World.block_lt_of_cell? _ _ hw396_1; first | rwa [add_block] at this | exact this) GW399.out))) _).trans (((cell_far (p := ⟨gb399, _, none⟩) (by first | exact Nat.ne_of_lt (Nat.lt_of_lt_of_le (by have := World.block_lt_of_cell? _ _ hw396_1; first | rwa [add_block] at this | exact this) GW399.out) | (rw [add_block]; exact Nat.ne_of_lt (Nat.lt_of_lt_of_le (by have := World.block_lt_of_cell? _ _ hw396_1; first | rwa [add_block] at this | exact this) GW399.out)) | (show (Addr.add _ _).block ≠ _; rw [add_block]; exact Nat.ne_of_lt (Nat.lt_of_lt_of_le (by have := World.block_lt_of_cell? _ _ hw396_1; first | rwa [add_block] at this | exact this) GW399.out)) | (dsimp only; exact Nat.ne_of_lt (Nat.lt_of_lt_of_le (by have := World.block_lt_of_cell? _ _ hw396_1; first | rwa [add_block] at this | exact this) GW399.out))) _).trans (((cell_far (p := ⟨gb399, _, none⟩) (by first | exact Nat.ne_of_lt (Nat.lt_of_lt_of_le (by have := World.block_lt_of_cell? _ _ hw396_1; first | rwa [add_block] at this | exact this) GW399.out) | (rw [add_block]; exact Nat.ne_of_lt (Nat.lt_of_lt_of_le (by have := World.block_lt_of_cell? _ _ hw396_1; first | rwa [add_block] at this | exact this) GW399.out)) | (show (Addr.add _ _).block ≠ _; rw [add_block]; exact Nat.ne_of_lt (Nat.lt_of_lt_of_le (by have := World.block_lt_of_cell? _ _ hw396_1; first | rwa [add_block] at this | exact this) GW399.out)) | (dsimp only; exact Nat.ne_of_lt (Nat.lt_of_lt_of_le (by have := World.block_lt_of_cell? _ _ hw396_1; first | rwa [add_block] at this | exact this) GW399.out))) _).trans (hHeld.2.1)))))))))), ((cell_far (p := ⟨gb399, _, none⟩) (by first | exact Nat.ne_of_lt (Nat.lt_of_lt_of_le (by have := World.block_lt_of_cell? _ _ hw396_2; first | rwa [add_block] at this | exact this) GW399.out) | (rw [add_block]; exact Nat.ne_of_lt (Nat.lt_of_lt_of_le (by have := World.block_lt_of_cell? _ _ hw396_2; first | rwa [add_block] at this | exact this) GW399.out)) | (show (Addr.add _ _).block ≠ _; rw [add_block]; exact Nat.ne_of_lt (Nat.lt_of_lt_of_le (by have := World.block_lt_of_cell? _ _ hw396_2; first | rwa [add_block] at this | exact this) GW399.out)) | (dsimp only; exact Nat.ne_of_lt (Nat.lt_of_lt_of_le (by have := World.block_lt_of_cell? _ _ hw396_2; first | rwa [add_block] at this | exact this) GW399.out))) _).trans (((cell_far (p := ⟨gb399, _, none⟩) (by first | exact Nat.ne_of_lt (Nat.lt_of_lt_of_le (by have := World.block_lt_of_cell? _ _ hw396_2; first | rwa [add_block] at this | exact this) GW399.out) | (rw [add_block]; exact Nat.ne_of_lt (Nat.lt_of_lt_of_le (by have := World.block_lt_of_cell? _ _ hw396_2; first | rwa [add_block] at this | exact this) GW399.out)) | (show (Addr.add _ _).block ≠ _; rw [add_block]; exact Nat.ne_of_lt (Nat.lt_of_lt_of_le (by have := World.block_lt_of_cell? _ _ hw396_2; first | rwa [add_block] at this | exact this) GW399.out)) | (dsimp only; exact Nat.ne_of_lt (Nat.lt_of_lt_of_le (by have := World.block_lt_of_cell? _ _ hw396_2; first | rwa [add_block] at this | exact this) GW399.out))) _).trans (((cell_far (p := ⟨gb399, _, none⟩) (by first | exact Nat.ne_of_lt (Nat.lt_of_lt_of_le (by have := World.block_lt_of_cell? _ _ hw396_2; first | rwa [add_block] at this | exact this) GW399.out) | (rw [add_block]; exact Nat.ne_of_lt (Nat.lt_of_lt_of_le (by have := World.block_lt_of_cell? _ _ hw396_2; first | rwa [add_block] at this | exact this) GW399.out)) | (show (Addr.add _ _).block ≠ _; rw [add_block]; exact Nat.ne_of_lt (Nat.lt_of_lt_of_le (by have := World.block_lt_of_cell? _ _ hw396_2; first | rwa [add_block] at this | exact this) GW399.out)) | (dsimp only; exact Nat.ne_of_lt (Nat.lt_of_lt_of_le (by have := World.block_lt_of_cell? _ _ hw396_2; first | rwa [add_block] at this | exact this) GW399.out))) _).trans (((cell_far (p := ⟨gb399, _, none⟩) (by first | exact Nat.ne_of_lt (Nat.lt_of_lt_of_le (by have := World.block_lt_of_cell? _ _ hw396_2; first | rwa [add_block] at this | exact this) GW399.out) | (rw [add_block]; exact Nat.ne_of_lt (Nat.lt_of_lt_of_le (by have := World.block_lt_of_cell? _ _ hw396_2; first | rwa [add_block] at this | exact this) GW399.out)) | (show (Addr.add _ _).block ≠ _; rw [add_block]; exact Nat.ne_of_lt (Nat.lt_of_lt_of_le (by have := World.block_lt_of_cell? _ _ hw396_2; first | rwa [add_block] at this | exact this) GW399.out)) | (dsimp only; exact Nat.ne_of_lt (Nat.lt_of_lt_of_le (by have := World.block_lt_of_cell? _ _ hw396_2; first | rwa [add_block] at this | exact this) GW399.out))) _).trans (((cell_far (p := ⟨gb399, _, none⟩) (by first | exact Nat.ne_of_lt (Nat.lt_of_lt_of_le (by have := World.block_lt_of_cell? _ _ hw396_2; first | rwa [add_block] at this | exact this) GW399.out) | (rw [add_block]; exact Nat.ne_of_lt (Nat.lt_of_lt_of_le (by have := World.block_lt_of_cell? _ _ hw396_2; first | rwa [add_block] at this | exact this) GW399.out)) | (show (Addr.add _ _).block ≠ _; rw [add_block]; exact Nat.ne_of_lt (Nat.lt_of_lt_of_le (by have := World.block_lt_of_cell? _ _ hw396_2; first | rwa [add_block] at this | exact this) GW399.out)) | (dsimp only; exact Nat.ne_of_lt (Nat.lt_of_lt_of_le (by have := World.block_lt_of_cell? _ _ hw396_2; first | rwa [add_block] at this | exact this) GW399.out))) _).trans (hHeld.2.2))))))))))⟩ (fun hHeld => ?_)
                  clear hK K
                  refine done_ (done_of HT_.out (by kernel_rfl)) ?_
                  have hnb38 := NB399_387.out
                  have hnc38 := NB387_399.out
                  have hnb39 := NB399_389.out
                  have hnc39 := NB389_399.out
                  have hcz40_0 : w32.cell? ⟨gb399, 0, none⟩ = some (.int .i64 0) := (blk_cell BK399.out 0).trans rfl
                  have hcz40_1 : w32.cell? ⟨gb399, 1, none⟩ = some (.int .i64 0) := (blk_cell BK399.out 1).trans rfl
                  have hcz40_2 : w32.cell? ⟨gb399, 2, none⟩ = some (.int .i64 0) := (blk_cell BK399.out 2).trans rfl
                  have hcz40_3 : w32.cell? ⟨gb399, 3, none⟩ = some (.int .i64 0) := (blk_cell BK399.out 3).trans rfl
                  have hcz40_4 : w32.cell? ⟨gb399, 4, none⟩ = some (.int .i64 0) := (blk_cell BK399.out 4).trans rfl
                  have hfz40_0 := blk_frozen BK399.out 0
                  have hfz40_1 := blk_frozen BK399.out 1
                  have hfz40_2 := blk_frozen BK399.out 2
                  have hfz40_3 := blk_frozen BK399.out 3
                  have hfz40_4 := blk_frozen BK399.out 4
                  go_upto_region 14 with (first | ((with_reducible refine gate_builtin (b := .append) (xs := #[.tmp 91, .tmp 93]) rfl ?_); at_builtin; refine Kd.R_append k57 (w0 := w) w.heap.size rfl (.tmp 91) (.tmp 93) 55 57 (.agg #[(.int .i64 0), (.int .i64 0), (.int .i64 0), (.int .i64 0), (.int .i64 0)]) 40 rfl Try.underlying55 info57 rfl (by decide) (by omega) u9 x9_1 (⟨wrap64 (1 + x11_1), (⟨ji22, wrap64 ((wrap64 (1 + t392)) + t394)⟩ : S23), (⟨ji25, t398⟩ : S23)⟩ : S57) [.int .i64 (wrap64 (1 + x11_1)), .int .i64 ji22, .int .i64 (wrap64 ((wrap64 (1 + t392)) + t394)), .int .i64 ji25, .int .i64 t398] (fun k_ => k_ ≠ gb399) (fun _ => False) rfl (by first | (go_simp; done) | (go_simp; rfl)) ?aP (fun _ hk => hk.elim) ?aF ?aO ?aB ?aS ?aL ?_; (case aP => exact k57_mkM _ _ _ (⟨wrap64 (1 + x11_1), (⟨ji22, wrap64 ((wrap64 (1 + t392)) + t394)⟩ : S23), (⟨ji25, t398⟩ : S23)⟩ : S57)); (case aB => exact (by repeat (first | (with_reducible first | exact HB.out | apply below_alloc | apply pw_below_drewN | apply below_drew1 | refine below_set ?_ GE387.out | refine below_set ?_ GE389.out | refine below_set ?_ GE399.out) | exact HB.out))); (case aF => exact (fun k_ hk => Kd.freshB (g := gb399) (o := .cells #[.int .i64 (wrap64 (1 + x11_1)), .int .i64 ji22, .int .i64 (wrap64 ((wrap64 (1 + t392)) + t394)), .int .i64 ji25, .int .i64 t398] 57 (0, 0)) (by (with_reducible repeat first | apply blk_drewN | apply blk_drew | apply blk_alloc); refine blk_put (cs := #[.int .i64 (wrap64 (1 + x11_1)), .int .i64 ji22, .int .i64 (wrap64 ((wrap64 (1 + t392)) + t394)), .int .i64 ji25, .int .i64 0]) ?_ 4 _ rfl; (with_reducible repeat first | apply blk_drewN | apply blk_drew | apply blk_alloc); refine blk_put (cs := #[.int .i64 (wrap64 (1 + x11_1)), .int .i64 ji22, .int .i64 (wrap64 ((wrap64 (1 + t392)) + t394)), .int .i64 0, .int .i64 0]) ?_ 3 _ rfl; (with_reducible repeat first | apply blk_drewN | apply blk_drew | apply blk_alloc); refine blk_put (cs := #[.int .i64 (wrap64 (1 + x11_1)), .int .i64 ji22, .int .i64 0, .int .i64 0, .int .i64 0]) ?_ 2 _ rfl; (with_reducible repeat first | apply blk_drewN | apply blk_drew | apply blk_alloc); refine blk_put (cs := #[.int .i64 (wrap64 (1 + x11_1)), .int .i64 0, .int .i64 0, .int .i64 0, .int .i64 0]) ?_ 1 _ rfl; (with_reducible repeat first | apply blk_drewN | apply blk_drew | apply blk_alloc); refine blk_put (cs := #[.int .i64 0, .int .i64 0, .int .i64 0, .int .i64 0, .int .i64 0]) ?_ 0 _ rfl; (with_reducible repeat first | apply blk_drewN | apply blk_drew | apply blk_alloc); exact BK399.out) k_ hk)); (case aO => exact (by (with_reducible repeat (first | apply Kd.R_alloc | apply Kd.R_drewN | apply Kd.R_drew)); exact Kd.R_mono (Kd.R_far (p := ⟨gb399, 4, none⟩) (Kd.R_far (p := ⟨gb399, 3, none⟩) (Kd.R_far (p := ⟨gb399, 2, none⟩) (Kd.R_far (p := ⟨gb399, 1, none⟩) (Kd.R_far (p := ⟨gb399, 0, none⟩) (Kd.R_mono HO_9.out (fun k_ hk => (⟨hk, hk⟩ : _ ∧ k_ ≠ gb399))) (fun _ hk => hk.2) (.int .i64 (wrap64 (1 + x11_1)))) (fun _ hk => hk.2) (.int .i64 ji22)) (fun _ hk => hk.2) (.int .i64 (wrap64 ((wrap64 (1 + t392)) + t394)))) (fun _ hk => hk.2) (.int .i64 ji25)) (fun _ hk => hk.2) (.int .i64 t398)) (fun _ hk => hk.1))); (case aS => exact (below_size (by repeat (first | (with_reducible first | exact HB.out | apply below_alloc | apply pw_below_drewN | apply below_drew1 | refine below_set ?_ GE387.out | refine below_set ?_ GE389.out | refine below_set ?_ GE399.out) | exact HB.out)))); (case aL => have := LMc27.out; omega); intro v401 w41 ho hb hg hat; rw [← Ny400.out] at ho; replace BK387 := Aside0.mk (blk_grown (g := gb387) (o := .cells #[.int .i64 t380, .int .i64 t381, .int .i64 t382, .int .i64 t383, .int .i64 t384, .int .i64 t385, .int .i64 t386] 43 (0, 0)) (by (with_reducible repeat first | apply blk_drewN | apply blk_drew | apply blk_alloc); refine blk_far ?_ NB387_399.out _; (with_reducible repeat first | apply blk_drewN | apply blk_drew | apply blk_alloc); refine blk_far ?_ NB387_399.out _; (with_reducible repeat first | apply blk_drewN | apply blk_drew | apply blk_alloc); refine blk_far ?_ NB387_399.out _; (with_reducible repeat first | apply blk_drewN | apply blk_drew | apply blk_alloc); refine blk_far ?_ NB387_399.out _; (with_reducible repeat first | apply blk_drewN | apply blk_drew | apply blk_alloc); refine blk_far ?_ NB387_399.out _; (with_reducible repeat first | apply blk_drewN | apply blk_drew | apply blk_alloc); exact BK387.out) hg (Kd.R_ne HO_9.out BK387.out (by decide))); replace BK389 := Aside0.mk (blk_grown (g := gb389) (o := .cells #[.int .i64 x390000_1, .int .i64 x390001_1] 23 (0, 0)) (by (with_reducible repeat first | apply blk_drewN | apply blk_drew | apply blk_alloc); refine blk_far ?_ NB389_399.out _; (with_reducible repeat first | apply blk_drewN | apply blk_drew | apply blk_alloc); refine blk_far ?_ NB389_399.out _; (with_reducible repeat first | apply blk_drewN | apply blk_drew | apply blk_alloc); refine blk_far ?_ NB389_399.out _; (with_reducible repeat first | apply blk_drewN | apply blk_drew | apply blk_alloc); refine blk_far ?_ NB389_399.out _; (with_reducible repeat first | apply blk_drewN | apply blk_drew | apply blk_alloc); refine blk_far ?_ NB389_399.out _; (with_reducible repeat first | apply blk_drewN | apply blk_drew | apply blk_alloc); exact BK389.out) hg (Kd.R_ne HO_9.out BK389.out (by decide))); replace BK399 := Aside0.mk (blk_grown (g := gb399) (o := .cells #[.int .i64 (wrap64 (1 + x11_1)), .int .i64 ji22, .int .i64 (wrap64 ((wrap64 (1 + t392)) + t394)), .int .i64 ji25, .int .i64 t398] 57 (0, 0)) (by (with_reducible repeat first | apply blk_drewN | apply blk_drew | apply blk_alloc); refine blk_put (cs := #[.int .i64 (wrap64 (1 + x11_1)), .int .i64 ji22, .int .i64 (wrap64 ((wrap64 (1 + t392)) + t394)), .int .i64 ji25, .int .i64 0]) ?_ 4 _ rfl; (with_reducible repeat first | apply blk_drewN | apply blk_drew | apply blk_alloc); refine blk_put (cs := #[.int .i64 (wrap64 (1 + x11_1)), .int .i64 ji22, .int .i64 (wrap64 ((wrap64 (1 + t392)) + t394)), .int .i64 0, .int .i64 0]) ?_ 3 _ rfl; (with_reducible repeat first | apply blk_drewN | apply blk_drew | apply blk_alloc); refine blk_put (cs := #[.int .i64 (wrap64 (1 + x11_1)), .int .i64 ji22, .int .i64 0, .int .i64 0, .int .i64 0]) ?_ 2 _ rfl; (with_reducible repeat first | apply blk_drewN | apply blk_drew | apply blk_alloc); refine blk_put (cs := #[.int .i64 (wrap64 (1 + x11_1)), .int .i64 0, .int .i64 0, .int .i64 0, .int .i64 0]) ?_ 1 _ rfl; (with_reducible repeat first | apply blk_drewN | apply blk_drew | apply blk_alloc); refine blk_put (cs := #[.int .i64 0, .int .i64 0, .int .i64 0, .int .i64 0, .int .i64 0]) ?_ 0 _ rfl; (with_reducible repeat first | apply blk_drewN | apply blk_drew | apply blk_alloc); exact BK399.out) hg (Kd.R_away HO_9.out (fun _ hk => hk))); replace HB := Aside0.mk (hb); have HO402 := Aside0.mk (ho); clear HO_9; clear ho hb hg hat; have hnb42 := NB387_389.out; have hnc42 := NB389_387.out; obtain ⟨hcz43_0, hcz43_1, hcz43_2, hcz43_3, hcz43_4, hcz43_5, hcz43_6⟩ := cells7 BK387.out; obtain ⟨hfz43_0, hfz43_1, hfz43_2, hfz43_3, hfz43_4, hfz43_5, hfz43_6⟩ := froz7 BK387.out; obtain ⟨Ao44, co44, eo44⟩ := Kd.R_slice HO402.out; subst eo44) | ((with_reducible refine gate_callee (f := 36) rfl ?_); refine goesL_ (some 98) rfl rfl Try.func36 (by kernel_rfl) rfl #[.agg #[.int .i64 t380, .int .i64 t381, .int .i64 t382, .int .i64 t383, .int .i64 t384, .int .i64 t385, .int .i64 t386], .slice Ao44 y400.length co44] rfl (by (try simp only [List.map_toArray, List.map_cons, List.map_nil]); first | done | rfl | (simp only [List.length_drop, List.length_take]; rfl)) ?_; (with_reducible refine (ware_Narrow.calls t380 t381 t382 t383 t384 t385 t386 _ _ y400 t403 t404 t405 t406 t407 t408 t409 t410 _ ?side1 ?side2 A28.out).mono ?_); (case side1 => repeat (first | exact (Kd.R_reads' HO402.out).2.2 | (with_reducible refine Kd.C_alloc ?_ _) | (with_reducible refine Kd.C_drewN ?_ _) | (with_reducible refine Kd.C_drew ?_))); (case side2 => exact (Kd.R_reads' HO402.out).2.1); rintro e w45 ⟨rfl, hb⟩; refine ⟨_, rfl, ?_⟩; replace HO402 := Aside0.mk (Kd.R_below (by (with_reducible repeat (first | apply Kd.R_alloc | apply Kd.R_drewN | apply Kd.R_drew)); exact HO402.out) hb); replace BK387 := blkE BK387 hb; replace BK389 := blkE BK389 hb; replace BK399 := blkE BK399 hb; replace HB := Aside0.mk (below_step (by repeat (first | (with_reducible first | exact HB.out | apply below_alloc | apply pw_below_drewN | apply below_drew1 | refine below_set ?_ GE387.out | refine below_set ?_ GE389.out | refine below_set ?_ GE399.out) | exact HB.out)) hb); (try clear hb); (try clear hb2); (try clear hk); (try clear hi)) | ((with_reducible refine gate_dst (N := 16) rfl ?_); refine box_event ?hg (N := 16) ?hd (cs := #[.int .i64 0, .int .i64 0, .int .i64 0, .int .i64 0, .int .i64 0, .int .i64 0, .int .i64 0]) (t := 43) ?hr ?_; (case hd => rfl); (case hg => rfl); (case hr => first | (go_simp; done) | (go_simp; rfl)); intro gb411 hg w46 hbox hb; replace HO402 := Aside0.mk (Kd.R_below (by (with_reducible repeat (first | apply Kd.R_alloc | apply Kd.R_drewN | apply Kd.R_drew)); exact HO402.out) hb); have BK411 := Aside0.mk (hbox); have GW411 := Aside0.mk ((by rw [hg]; exact (below_size (by repeat (first | (with_reducible first | exact HB.out | apply below_alloc | apply pw_below_drewN | apply below_drew1 | refine below_set ?_ GE387.out | refine below_set ?_ GE389.out | refine below_set ?_ GE399.out) | exact HB.out))) : w.heap.size ≤ gb411)); have GE411 := Aside0.mk ((by rw [hg]; exact (below_size (by repeat (first | (with_reducible first | exact HB.out | apply below_alloc | apply pw_below_drewN | apply below_drew1 | refine below_set ?_ GE387.out | refine below_set ?_ GE389.out | refine below_set ?_ GE399.out) | exact HB.out))) : w.heap.size ≤ gb411)); replace HB := Aside0.mk (below_step (by repeat (first | (with_reducible first | exact HB.out | apply below_alloc | apply pw_below_drewN | apply below_drew1 | refine below_set ?_ GE387.out | refine below_set ?_ GE389.out | refine below_set ?_ GE399.out) | exact HB.out)) hb); have NB387_411 := Aside0.mk ((by rw [hg]; exact Nat.ne_of_lt (blk_lt (g := gb387) (o := .cells #[.int .i64 t380, .int .i64 t381, .int .i64 t382, .int .i64 t383, .int .i64 t384, .int .i64 t385, .int .i64 t386] 43 (0, 0)) (by (with_reducible repeat first | apply blk_drewN | apply blk_drew | apply blk_alloc); exact BK387.out)) : gb387 ≠ gb411)); have NB411_387 := Aside0.mk ((by rw [hg]; exact Nat.ne_of_gt (blk_lt (g := gb387) (o := .cells #[.int .i64 t380, .int .i64 t381, .int .i64 t382, .int .i64 t383, .int .i64 t384, .int .i64 t385, .int .i64 t386] 43 (0, 0)) (by (with_reducible repeat first | apply blk_drewN | apply blk_drew | apply blk_alloc); exact BK387.out)) : gb411 ≠ gb387)); replace BK387 := blkE BK387 hb; have NB389_411 := Aside0.mk ((by rw [hg]; exact Nat.ne_of_lt (blk_lt (g := gb389) (o := .cells #[.int .i64 x390000_1, .int .i64 x390001_1] 23 (0, 0)) (by (with_reducible repeat first | apply blk_drewN | apply blk_drew | apply blk_alloc); exact BK389.out)) : gb389 ≠ gb411)); have NB411_389 := Aside0.mk ((by rw [hg]; exact Nat.ne_of_gt (blk_lt (g := gb389) (o := .cells #[.int .i64 x390000_1, .int .i64 x390001_1] 23 (0, 0)) (by (with_reducible repeat first | apply blk_drewN | apply blk_drew | apply blk_alloc); exact BK389.out)) : gb411 ≠ gb389)); replace BK389 := blkE BK389 hb; have NB399_411 := Aside0.mk ((by rw [hg]; exact Nat.ne_of_lt (blk_lt (g := gb399) (o := .cells #[.int .i64 (wrap64 (1 + x11_1)), .int .i64 ji22, .int .i64 (wrap64 ((wrap64 (1 + t392)) + t394)), .int .i64 ji25, .int .i64 t398] 57 (0, 0)) (by (with_reducible repeat first | apply blk_drewN | apply blk_drew | apply blk_alloc); exact BK399.out)) : gb399 ≠ gb411)); have NB411_399 := Aside0.mk ((by rw [hg]; exact Nat.ne_of_gt (blk_lt (g := gb399) (o := .cells #[.int .i64 (wrap64 (1 + x11_1)), .int .i64 ji22, .int .i64 (wrap64 ((wrap64 (1 + t392)) + t394)), .int .i64 ji25, .int .i64 t398] 57 (0, 0)) (by (with_reducible repeat first | apply blk_drewN | apply blk_drew | apply blk_alloc); exact BK399.out)) : gb411 ≠ gb399)); replace BK399 := blkE BK399 hb; clear hb hbox hg; have hnb47 := NB411_387.out; have hnc47 := NB387_411.out; have hnb48 := NB411_389.out; have hnc48 := NB389_411.out; have hnb49 := NB411_399.out; have hnc49 := NB399_411.out; obtain ⟨hcz50_0, hcz50_1, hcz50_2, hcz50_3, hcz50_4, hcz50_5, hcz50_6⟩ := cells7 BK411.out; obtain ⟨hfz50_0, hfz50_1, hfz50_2, hfz50_3, hfz50_4, hfz50_5, hfz50_6⟩ := froz7 BK411.out))
                  (try simp only [Act.put, List.setIfInBounds_toArray, List.set_cons_zero, List.set_cons_succ])
                  go_cut [146] (fun v146 wc => ∃ (kq : Nat) (x146_28 : Bool), v146 = .bool x146_28 ∧ Aside0 (potbanklaw01_WareNarrows.j2 kq l2 (wrap64 (t381 + t388)) y400 x11_1 (wrap64 (1 + t392)) x146_28 t380 t381 t382 t383 t384 t385 t386 t403 t404 t405 t406 t407 t408 t409 = some r) ∧ Aside0 (kq ≤ kj14) ∧ Aside0 (Kd.R k57 57 wc w.heap.size (fun k_ => k_ ≠ gb399) (.slice Ao44 y400.length co44) y400) ∧ Aside0 (wc.heap[gb387]? = some (.cells #[.int .i64 t380, .int .i64 t381, .int .i64 t382, .int .i64 t383, .int .i64 t384, .int .i64 t385, .int .i64 t386] 43 (0, 0))) ∧ Aside0 (wc.heap[gb389]? = some (.cells #[.int .i64 x390000_1, .int .i64 x390001_1] 23 (0, 0))) ∧ Aside0 (wc.heap[gb399]? = some (.cells #[.int .i64 (wrap64 (1 + x11_1)), .int .i64 ji22, .int .i64 (wrap64 ((wrap64 (1 + t392)) + t394)), .int .i64 ji25, .int .i64 t398] 57 (0, 0))) ∧ Aside0 (wc.heap[gb411]? = some (.cells #[.int .i64 t403, .int .i64 t404, .int .i64 t405, .int .i64 t406, .int .i64 t407, .int .i64 t408, .int .i64 t409] 43 (0, 0))) ∧ Aside0 (Below w.heap.size w wc))
                  case first =>
                    have H := HC29.out
                    clear HC29
                    by_cases c51 : t410 = 0
                    · rw [if_pos c51] at H
                      have c51b0 : (t410 == 0) = true := beq_iff_eq.mpr c51
                      have c51b1 : (t410 != 0) = false := bne_eq_false_iff_eq.mpr c51
                      clear c51
                      (first | rw [c51b0] | (simp only [i64_w, i32_w]; rw [c51b0]) | skip)
                      by_cases c52 : t404 > (wrap64 (t381 + t388))
                      · rw [if_pos c52] at H
                        have c52b0 : decide ((wrap64 (t381 + t388)) < t404) = true := decide_eq_true c52
                        clear c52
                        have H' := Aside0.mk H
                        clear H
                        have hnb53 := NB411_387.out
                        have hnc53 := NB387_411.out
                        have hnb54 := NB411_389.out
                        have hnc54 := NB389_411.out
                        have hnb55 := NB411_399.out
                        have hnc55 := NB399_411.out
                        have hcz56_0 : w46.cell? ⟨gb411, 0, none⟩ = some (.int .i64 0) := (blk_cell BK411.out 0).trans rfl
                        have hcz56_1 : w46.cell? ⟨gb411, 1, none⟩ = some (.int .i64 0) := (blk_cell BK411.out 1).trans rfl
                        have hcz56_2 : w46.cell? ⟨gb411, 2, none⟩ = some (.int .i64 0) := (blk_cell BK411.out 2).trans rfl
                        have hcz56_3 : w46.cell? ⟨gb411, 3, none⟩ = some (.int .i64 0) := (blk_cell BK411.out 3).trans rfl
                        have hcz56_4 : w46.cell? ⟨gb411, 4, none⟩ = some (.int .i64 0) := (blk_cell BK411.out 4).trans rfl
                        have hcz56_5 : w46.cell? ⟨gb411, 5, none⟩ = some (.int .i64 0) := (blk_cell BK411.out 5).trans rfl
                        have hcz56_6 : w46.cell? ⟨gb411, 6, none⟩ = some (.int .i64 0) := (blk_cell BK411.out 6).trans rfl
                        have hfz56_0 := blk_frozen BK411.out 0
                        have hfz56_1 := blk_frozen BK411.out 1
                        have hfz56_2 := blk_frozen BK411.out 2
                        have hfz56_3 := blk_frozen BK411.out 3
                        have hfz56_4 := blk_frozen BK411.out 4
                        have hfz56_5 := blk_frozen BK411.out 5
                        have hfz56_6 := blk_frozen BK411.out 6
                        go_wp2
                        go_meet
                        case rel => exact ⟨_, (true), (by first | rfl | (simp; done) | (simp [*]; done)), H', ⟨by have := HK1.out; have := HJ14.out; first | omega | exact Nat.le_refl _⟩, ⟨by (with_reducible repeat (first | apply Kd.R_alloc | apply Kd.R_drewN | apply Kd.R_drew)); exact Kd.R_mono (Kd.R_far (p := ⟨gb411, 6, none⟩) (Kd.R_far (p := ⟨gb411, 5, none⟩) (Kd.R_far (p := ⟨gb411, 4, none⟩) (Kd.R_far (p := ⟨gb411, 3, none⟩) (Kd.R_far (p := ⟨gb411, 2, none⟩) (Kd.R_far (p := ⟨gb411, 1, none⟩) (Kd.R_far (p := ⟨gb411, 0, none⟩) (Kd.R_types HO402.out BK411.out (by decide)) (fun _ hk => hk.2) (.int .i64 t403)) (fun _ hk => hk.2) (.int .i64 t404)) (fun _ hk => hk.2) (.int .i64 t405)) (fun _ hk => hk.2) (.int .i64 t406)) (fun _ hk => hk.2) (.int .i64 t407)) (fun _ hk => hk.2) (.int .i64 t408)) (fun _ hk => hk.2) (.int .i64 t409)) (fun _ hk => hk.1)⟩, ⟨by (with_reducible repeat first | apply blk_drewN | apply blk_drew | apply blk_alloc); refine blk_far ?_ NB387_411.out _; (with_reducible repeat first | apply blk_drewN | apply blk_drew | apply blk_alloc); refine blk_far ?_ NB387_411.out _; (with_reducible repeat first | apply blk_drewN | apply blk_drew | apply blk_alloc); refine blk_far ?_ NB387_411.out _; (with_reducible repeat first | apply blk_drewN | apply blk_drew | apply blk_alloc); refine blk_far ?_ NB387_411.out _; (with_reducible repeat first | apply blk_drewN | apply blk_drew | apply blk_alloc); refine blk_far ?_ NB387_411.out _; (with_reducible repeat first | apply blk_drewN | apply blk_drew | apply blk_alloc); refine blk_far ?_ NB387_411.out _; (with_reducible repeat first | apply blk_drewN | apply blk_drew | apply blk_alloc); refine blk_far ?_ NB387_411.out _; (with_reducible repeat first | apply blk_drewN | apply blk_drew | apply blk_alloc); exact BK387.out⟩, ⟨by (with_reducible repeat first | apply blk_drewN | apply blk_drew | apply blk_alloc); refine blk_far ?_ NB389_411.out _; (with_reducible repeat first | apply blk_drewN | apply blk_drew | apply blk_alloc); refine blk_far ?_ NB389_411.out _; (with_reducible repeat first | apply blk_drewN | apply blk_drew | apply blk_alloc); refine blk_far ?_ NB389_411.out _; (with_reducible repeat first | apply blk_drewN | apply blk_drew | apply blk_alloc); refine blk_far ?_ NB389_411.out _; (with_reducible repeat first | apply blk_drewN | apply blk_drew | apply blk_alloc); refine blk_far ?_ NB389_411.out _; (with_reducible repeat first | apply blk_drewN | apply blk_drew | apply blk_alloc); refine blk_far ?_ NB389_411.out _; (with_reducible repeat first | apply blk_drewN | apply blk_drew | apply blk_alloc); refine blk_far ?_ NB389_411.out _; (with_reducible repeat first | apply blk_drewN | apply blk_drew | apply blk_alloc); exact BK389.out⟩, ⟨by (with_reducible repeat first | apply blk_drewN | apply blk_drew | apply blk_alloc); refine blk_far ?_ NB399_411.out _; (with_reducible repeat first | apply blk_drewN | apply blk_drew | apply blk_alloc); refine blk_far ?_ NB399_411.out _; (with_reducible repeat first | apply blk_drewN | apply blk_drew | apply blk_alloc); refine blk_far ?_ NB399_411.out _; (with_reducible repeat first | apply blk_drewN | apply blk_drew | apply blk_alloc); refine blk_far ?_ NB399_411.out _; (with_reducible repeat first | apply blk_drewN | apply blk_drew | apply blk_alloc); refine blk_far ?_ NB399_411.out _; (with_reducible repeat first | apply blk_drewN | apply blk_drew | apply blk_alloc); refine blk_far ?_ NB399_411.out _; (with_reducible repeat first | apply blk_drewN | apply blk_drew | apply blk_alloc); refine blk_far ?_ NB399_411.out _; (with_reducible repeat first | apply blk_drewN | apply blk_drew | apply blk_alloc); exact BK399.out⟩, ⟨by (with_reducible repeat first | apply blk_drewN | apply blk_drew | apply blk_alloc); refine blk_put (cs := #[.int .i64 t403, .int .i64 t404, .int .i64 t405, .int .i64 t406, .int .i64 t407, .int .i64 t408, .int .i64 0]) ?_ 6 _ rfl; (with_reducible repeat first | apply blk_drewN | apply blk_drew | apply blk_alloc); refine blk_put (cs := #[.int .i64 t403, .int .i64 t404, .int .i64 t405, .int .i64 t406, .int .i64 t407, .int .i64 0, .int .i64 0]) ?_ 5 _ rfl; (with_reducible repeat first | apply blk_drewN | apply blk_drew | apply blk_alloc); refine blk_put (cs := #[.int .i64 t403, .int .i64 t404, .int .i64 t405, .int .i64 t406, .int .i64 0, .int .i64 0, .int .i64 0]) ?_ 4 _ rfl; (with_reducible repeat first | apply blk_drewN | apply blk_drew | apply blk_alloc); refine blk_put (cs := #[.int .i64 t403, .int .i64 t404, .int .i64 t405, .int .i64 0, .int .i64 0, .int .i64 0, .int .i64 0]) ?_ 3 _ rfl; (with_reducible repeat first | apply blk_drewN | apply blk_drew | apply blk_alloc); refine blk_put (cs := #[.int .i64 t403, .int .i64 t404, .int .i64 0, .int .i64 0, .int .i64 0, .int .i64 0, .int .i64 0]) ?_ 2 _ rfl; (with_reducible repeat first | apply blk_drewN | apply blk_drew | apply blk_alloc); refine blk_put (cs := #[.int .i64 t403, .int .i64 0, .int .i64 0, .int .i64 0, .int .i64 0, .int .i64 0, .int .i64 0]) ?_ 1 _ rfl; (with_reducible repeat first | apply blk_drewN | apply blk_drew | apply blk_alloc); refine blk_put (cs := #[.int .i64 0, .int .i64 0, .int .i64 0, .int .i64 0, .int .i64 0, .int .i64 0, .int .i64 0]) ?_ 0 _ rfl; (with_reducible repeat first | apply blk_drewN | apply blk_drew | apply blk_alloc); exact BK411.out⟩, ⟨by repeat (first | (with_reducible first | exact HB.out | apply below_alloc | apply pw_below_drewN | apply below_drew1 | refine below_set ?_ GE387.out | refine below_set ?_ GE389.out | refine below_set ?_ GE399.out | refine below_set ?_ GE411.out) | exact HB.out)⟩⟩
                      · rw [if_neg c52] at H
                        have c52b0 : decide ((wrap64 (t381 + t388)) < t404) = false := decide_eq_false c52
                        clear c52
                        by_cases c57 : t405 < (wrap64 (t381 + t388))
                        · rw [if_pos c57] at H
                          have c57b0 : decide (t405 < (wrap64 (t381 + t388))) = true := decide_eq_true c57
                          clear c57
                          have H' := Aside0.mk H
                          clear H
                          have hnb58 := NB411_387.out
                          have hnc58 := NB387_411.out
                          have hnb59 := NB411_389.out
                          have hnc59 := NB389_411.out
                          have hnb60 := NB411_399.out
                          have hnc60 := NB399_411.out
                          have hcz61_0 : w46.cell? ⟨gb411, 0, none⟩ = some (.int .i64 0) := (blk_cell BK411.out 0).trans rfl
                          have hcz61_1 : w46.cell? ⟨gb411, 1, none⟩ = some (.int .i64 0) := (blk_cell BK411.out 1).trans rfl
                          have hcz61_2 : w46.cell? ⟨gb411, 2, none⟩ = some (.int .i64 0) := (blk_cell BK411.out 2).trans rfl
                          have hcz61_3 : w46.cell? ⟨gb411, 3, none⟩ = some (.int .i64 0) := (blk_cell BK411.out 3).trans rfl
                          have hcz61_4 : w46.cell? ⟨gb411, 4, none⟩ = some (.int .i64 0) := (blk_cell BK411.out 4).trans rfl
                          have hcz61_5 : w46.cell? ⟨gb411, 5, none⟩ = some (.int .i64 0) := (blk_cell BK411.out 5).trans rfl
                          have hcz61_6 : w46.cell? ⟨gb411, 6, none⟩ = some (.int .i64 0) := (blk_cell BK411.out 6).trans rfl
                          have hfz61_0 := blk_frozen BK411.out 0
                          have hfz61_1 := blk_frozen BK411.out 1
                          have hfz61_2 := blk_frozen BK411.out 2
                          have hfz61_3 := blk_frozen BK411.out 3
                          have hfz61_4 := blk_frozen BK411.out 4
                          have hfz61_5 := blk_frozen BK411.out 5
                          have hfz61_6 := blk_frozen BK411.out 6
                          go_wp2
                          go_meet
                          case rel => exact ⟨_, (true), (by first | rfl | (simp; done) | (simp [*]; done)), H', ⟨by have := HK1.out; have := HJ14.out; first | omega | exact Nat.le_refl _⟩, ⟨by (with_reducible repeat (first | apply Kd.R_alloc | apply Kd.R_drewN | apply Kd.R_drew)); exact Kd.R_mono (Kd.R_far (p := ⟨gb411, 6, none⟩) (Kd.R_far (p := ⟨gb411, 5, none⟩) (Kd.R_far (p := ⟨gb411, 4, none⟩) (Kd.R_far (p := ⟨gb411, 3, none⟩) (Kd.R_far (p := ⟨gb411, 2, none⟩) (Kd.R_far (p := ⟨gb411, 1, none⟩) (Kd.R_far (p := ⟨gb411, 0, none⟩) (Kd.R_types HO402.out BK411.out (by decide)) (fun _ hk => hk.2) (.int .i64 t403)) (fun _ hk => hk.2) (.int .i64 t404)) (fun _ hk => hk.2) (.int .i64 t405)) (fun _ hk => hk.2) (.int .i64 t406)) (fun _ hk => hk.2) (.int .i64 t407)) (fun _ hk => hk.2) (.int .i64 t408)) (fun _ hk => hk.2) (.int .i64 t409)) (fun _ hk => hk.1)⟩, ⟨by (with_reducible repeat first | apply blk_drewN | apply blk_drew | apply blk_alloc); refine blk_far ?_ NB387_411.out _; (with_reducible repeat first | apply blk_drewN | apply blk_drew | apply blk_alloc); refine blk_far ?_ NB387_411.out _; (with_reducible repeat first | apply blk_drewN | apply blk_drew | apply blk_alloc); refine blk_far ?_ NB387_411.out _; (with_reducible repeat first | apply blk_drewN | apply blk_drew | apply blk_alloc); refine blk_far ?_ NB387_411.out _; (with_reducible repeat first | apply blk_drewN | apply blk_drew | apply blk_alloc); refine blk_far ?_ NB387_411.out _; (with_reducible repeat first | apply blk_drewN | apply blk_drew | apply blk_alloc); refine blk_far ?_ NB387_411.out _; (with_reducible repeat first | apply blk_drewN | apply blk_drew | apply blk_alloc); refine blk_far ?_ NB387_411.out _; (with_reducible repeat first | apply blk_drewN | apply blk_drew | apply blk_alloc); exact BK387.out⟩, ⟨by (with_reducible repeat first | apply blk_drewN | apply blk_drew | apply blk_alloc); refine blk_far ?_ NB389_411.out _; (with_reducible repeat first | apply blk_drewN | apply blk_drew | apply blk_alloc); refine blk_far ?_ NB389_411.out _; (with_reducible repeat first | apply blk_drewN | apply blk_drew | apply blk_alloc); refine blk_far ?_ NB389_411.out _; (with_reducible repeat first | apply blk_drewN | apply blk_drew | apply blk_alloc); refine blk_far ?_ NB389_411.out _; (with_reducible repeat first | apply blk_drewN | apply blk_drew | apply blk_alloc); refine blk_far ?_ NB389_411.out _; (with_reducible repeat first | apply blk_drewN | apply blk_drew | apply blk_alloc); refine blk_far ?_ NB389_411.out _; (with_reducible repeat first | apply blk_drewN | apply blk_drew | apply blk_alloc); refine blk_far ?_ NB389_411.out _; (with_reducible repeat first | apply blk_drewN | apply blk_drew | apply blk_alloc); exact BK389.out⟩, ⟨by (with_reducible repeat first | apply blk_drewN | apply blk_drew | apply blk_alloc); refine blk_far ?_ NB399_411.out _; (with_reducible repeat first | apply blk_drewN | apply blk_drew | apply blk_alloc); refine blk_far ?_ NB399_411.out _; (with_reducible repeat first | apply blk_drewN | apply blk_drew | apply blk_alloc); refine blk_far ?_ NB399_411.out _; (with_reducible repeat first | apply blk_drewN | apply blk_drew | apply blk_alloc); refine blk_far ?_ NB399_411.out _; (with_reducible repeat first | apply blk_drewN | apply blk_drew | apply blk_alloc); refine blk_far ?_ NB399_411.out _; (with_reducible repeat first | apply blk_drewN | apply blk_drew | apply blk_alloc); refine blk_far ?_ NB399_411.out _; (with_reducible repeat first | apply blk_drewN | apply blk_drew | apply blk_alloc); refine blk_far ?_ NB399_411.out _; (with_reducible repeat first | apply blk_drewN | apply blk_drew | apply blk_alloc); exact BK399.out⟩, ⟨by (with_reducible repeat first | apply blk_drewN | apply blk_drew | apply blk_alloc); refine blk_put (cs := #[.int .i64 t403, .int .i64 t404, .int .i64 t405, .int .i64 t406, .int .i64 t407, .int .i64 t408, .int .i64 0]) ?_ 6 _ rfl; (with_reducible repeat first | apply blk_drewN | apply blk_drew | apply blk_alloc); refine blk_put (cs := #[.int .i64 t403, .int .i64 t404, .int .i64 t405, .int .i64 t406, .int .i64 t407, .int .i64 0, .int .i64 0]) ?_ 5 _ rfl; (with_reducible repeat first | apply blk_drewN | apply blk_drew | apply blk_alloc); refine blk_put (cs := #[.int .i64 t403, .int .i64 t404, .int .i64 t405, .int .i64 t406, .int .i64 0, .int .i64 0, .int .i64 0]) ?_ 4 _ rfl; (with_reducible repeat first | apply blk_drewN | apply blk_drew | apply blk_alloc); refine blk_put (cs := #[.int .i64 t403, .int .i64 t404, .int .i64 t405, .int .i64 0, .int .i64 0, .int .i64 0, .int .i64 0]) ?_ 3 _ rfl; (with_reducible repeat first | apply blk_drewN | apply blk_drew | apply blk_alloc); refine blk_put (cs := #[.int .i64 t403, .int .i64 t404, .int .i64 0, .int .i64 0, .int .i64 0, .int .i64 0, .int .i64 0]) ?_ 2 _ rfl; (with_reducible repeat first | apply blk_drewN | apply blk_drew | apply blk_alloc); refine blk_put (cs := #[.int .i64 t403, .int .i64 0, .int .i64 0, .int .i64 0, .int .i64 0, .int .i64 0, .int .i64 0]) ?_ 1 _ rfl; (with_reducible repeat first | apply blk_drewN | apply blk_drew | apply blk_alloc); refine blk_put (cs := #[.int .i64 0, .int .i64 0, .int .i64 0, .int .i64 0, .int .i64 0, .int .i64 0, .int .i64 0]) ?_ 0 _ rfl; (with_reducible repeat first | apply blk_drewN | apply blk_drew | apply blk_alloc); exact BK411.out⟩, ⟨by repeat (first | (with_reducible first | exact HB.out | apply below_alloc | apply pw_below_drewN | apply below_drew1 | refine below_set ?_ GE387.out | refine below_set ?_ GE389.out | refine below_set ?_ GE399.out | refine below_set ?_ GE411.out) | exact HB.out)⟩⟩
                        · rw [if_neg c57] at H
                          have c57b0 : decide (t405 < (wrap64 (t381 + t388))) = false := decide_eq_false c57
                          clear c57
                          by_cases c62 : t404 < x390000_1
                          · rw [if_pos c62] at H
                            have c62b0 : decide (t404 < x390000_1) = true := decide_eq_true c62
                            clear c62
                            have H' := Aside0.mk H
                            clear H
                            have hnb63 := NB411_387.out
                            have hnc63 := NB387_411.out
                            have hnb64 := NB411_389.out
                            have hnc64 := NB389_411.out
                            have hnb65 := NB411_399.out
                            have hnc65 := NB399_411.out
                            have hcz66_0 : w46.cell? ⟨gb411, 0, none⟩ = some (.int .i64 0) := (blk_cell BK411.out 0).trans rfl
                            have hcz66_1 : w46.cell? ⟨gb411, 1, none⟩ = some (.int .i64 0) := (blk_cell BK411.out 1).trans rfl
                            have hcz66_2 : w46.cell? ⟨gb411, 2, none⟩ = some (.int .i64 0) := (blk_cell BK411.out 2).trans rfl
                            have hcz66_3 : w46.cell? ⟨gb411, 3, none⟩ = some (.int .i64 0) := (blk_cell BK411.out 3).trans rfl
                            have hcz66_4 : w46.cell? ⟨gb411, 4, none⟩ = some (.int .i64 0) := (blk_cell BK411.out 4).trans rfl
                            have hcz66_5 : w46.cell? ⟨gb411, 5, none⟩ = some (.int .i64 0) := (blk_cell BK411.out 5).trans rfl
                            have hcz66_6 : w46.cell? ⟨gb411, 6, none⟩ = some (.int .i64 0) := (blk_cell BK411.out 6).trans rfl
                            have hfz66_0 := blk_frozen BK411.out 0
                            have hfz66_1 := blk_frozen BK411.out 1
                            have hfz66_2 := blk_frozen BK411.out 2
                            have hfz66_3 := blk_frozen BK411.out 3
                            have hfz66_4 := blk_frozen BK411.out 4
                            have hfz66_5 := blk_frozen BK411.out 5
                            have hfz66_6 := blk_frozen BK411.out 6
                            have hnb67 := NB389_387.out
                            have hnc67 := NB387_389.out
                            have hnb68 := NB389_399.out
                            have hnc68 := NB399_389.out
                            have hcz69_0 : w46.cell? ⟨gb389, 0, none⟩ = some (.int .i64 x390000_1) := (blk_cell BK389.out 0).trans rfl
                            have hcz69_1 : w46.cell? ⟨gb389, 1, none⟩ = some (.int .i64 x390001_1) := (blk_cell BK389.out 1).trans rfl
                            have hfz69_0 := blk_frozen BK389.out 0
                            have hfz69_1 := blk_frozen BK389.out 1
                            go_wp2
                            go_meet
                            case rel => exact ⟨_, (true), (by first | rfl | (simp; done) | (simp [*]; done)), H', ⟨by have := HK1.out; have := HJ14.out; first | omega | exact Nat.le_refl _⟩, ⟨by (with_reducible repeat (first | apply Kd.R_alloc | apply Kd.R_drewN | apply Kd.R_drew)); exact Kd.R_mono (Kd.R_far (p := ⟨gb411, 6, none⟩) (Kd.R_far (p := ⟨gb411, 5, none⟩) (Kd.R_far (p := ⟨gb411, 4, none⟩) (Kd.R_far (p := ⟨gb411, 3, none⟩) (Kd.R_far (p := ⟨gb411, 2, none⟩) (Kd.R_far (p := ⟨gb411, 1, none⟩) (Kd.R_far (p := ⟨gb411, 0, none⟩) (Kd.R_types HO402.out BK411.out (by decide)) (fun _ hk => hk.2) (.int .i64 t403)) (fun _ hk => hk.2) (.int .i64 t404)) (fun _ hk => hk.2) (.int .i64 t405)) (fun _ hk => hk.2) (.int .i64 t406)) (fun _ hk => hk.2) (.int .i64 t407)) (fun _ hk => hk.2) (.int .i64 t408)) (fun _ hk => hk.2) (.int .i64 t409)) (fun _ hk => hk.1)⟩, ⟨by (with_reducible repeat first | apply blk_drewN | apply blk_drew | apply blk_alloc); refine blk_far ?_ NB387_411.out _; (with_reducible repeat first | apply blk_drewN | apply blk_drew | apply blk_alloc); refine blk_far ?_ NB387_411.out _; (with_reducible repeat first | apply blk_drewN | apply blk_drew | apply blk_alloc); refine blk_far ?_ NB387_411.out _; (with_reducible repeat first | apply blk_drewN | apply blk_drew | apply blk_alloc); refine blk_far ?_ NB387_411.out _; (with_reducible repeat first | apply blk_drewN | apply blk_drew | apply blk_alloc); refine blk_far ?_ NB387_411.out _; (with_reducible repeat first | apply blk_drewN | apply blk_drew | apply blk_alloc); refine blk_far ?_ NB387_411.out _; (with_reducible repeat first | apply blk_drewN | apply blk_drew | apply blk_alloc); refine blk_far ?_ NB387_411.out _; (with_reducible repeat first | apply blk_drewN | apply blk_drew | apply blk_alloc); exact BK387.out⟩, ⟨by (with_reducible repeat first | apply blk_drewN | apply blk_drew | apply blk_alloc); refine blk_far ?_ NB389_411.out _; (with_reducible repeat first | apply blk_drewN | apply blk_drew | apply blk_alloc); refine blk_far ?_ NB389_411.out _; (with_reducible repeat first | apply blk_drewN | apply blk_drew | apply blk_alloc); refine blk_far ?_ NB389_411.out _; (with_reducible repeat first | apply blk_drewN | apply blk_drew | apply blk_alloc); refine blk_far ?_ NB389_411.out _; (with_reducible repeat first | apply blk_drewN | apply blk_drew | apply blk_alloc); refine blk_far ?_ NB389_411.out _; (with_reducible repeat first | apply blk_drewN | apply blk_drew | apply blk_alloc); refine blk_far ?_ NB389_411.out _; (with_reducible repeat first | apply blk_drewN | apply blk_drew | apply blk_alloc); refine blk_far ?_ NB389_411.out _; (with_reducible repeat first | apply blk_drewN | apply blk_drew | apply blk_alloc); exact BK389.out⟩, ⟨by (with_reducible repeat first | apply blk_drewN | apply blk_drew | apply blk_alloc); refine blk_far ?_ NB399_411.out _; (with_reducible repeat first | apply blk_drewN | apply blk_drew | apply blk_alloc); refine blk_far ?_ NB399_411.out _; (with_reducible repeat first | apply blk_drewN | apply blk_drew | apply blk_alloc); refine blk_far ?_ NB399_411.out _; (with_reducible repeat first | apply blk_drewN | apply blk_drew | apply blk_alloc); refine blk_far ?_ NB399_411.out _; (with_reducible repeat first | apply blk_drewN | apply blk_drew | apply blk_alloc); refine blk_far ?_ NB399_411.out _; (with_reducible repeat first | apply blk_drewN | apply blk_drew | apply blk_alloc); refine blk_far ?_ NB399_411.out _; (with_reducible repeat first | apply blk_drewN | apply blk_drew | apply blk_alloc); refine blk_far ?_ NB399_411.out _; (with_reducible repeat first | apply blk_drewN | apply blk_drew | apply blk_alloc); exact BK399.out⟩, ⟨by (with_reducible repeat first | apply blk_drewN | apply blk_drew | apply blk_alloc); refine blk_put (cs := #[.int .i64 t403, .int .i64 t404, .int .i64 t405, .int .i64 t406, .int .i64 t407, .int .i64 t408, .int .i64 0]) ?_ 6 _ rfl; (with_reducible repeat first | apply blk_drewN | apply blk_drew | apply blk_alloc); refine blk_put (cs := #[.int .i64 t403, .int .i64 t404, .int .i64 t405, .int .i64 t406, .int .i64 t407, .int .i64 0, .int .i64 0]) ?_ 5 _ rfl; (with_reducible repeat first | apply blk_drewN | apply blk_drew | apply blk_alloc); refine blk_put (cs := #[.int .i64 t403, .int .i64 t404, .int .i64 t405, .int .i64 t406, .int .i64 0, .int .i64 0, .int .i64 0]) ?_ 4 _ rfl; (with_reducible repeat first | apply blk_drewN | apply blk_drew | apply blk_alloc); refine blk_put (cs := #[.int .i64 t403, .int .i64 t404, .int .i64 t405, .int .i64 0, .int .i64 0, .int .i64 0, .int .i64 0]) ?_ 3 _ rfl; (with_reducible repeat first | apply blk_drewN | apply blk_drew | apply blk_alloc); refine blk_put (cs := #[.int .i64 t403, .int .i64 t404, .int .i64 0, .int .i64 0, .int .i64 0, .int .i64 0, .int .i64 0]) ?_ 2 _ rfl; (with_reducible repeat first | apply blk_drewN | apply blk_drew | apply blk_alloc); refine blk_put (cs := #[.int .i64 t403, .int .i64 0, .int .i64 0, .int .i64 0, .int .i64 0, .int .i64 0, .int .i64 0]) ?_ 1 _ rfl; (with_reducible repeat first | apply blk_drewN | apply blk_drew | apply blk_alloc); refine blk_put (cs := #[.int .i64 0, .int .i64 0, .int .i64 0, .int .i64 0, .int .i64 0, .int .i64 0, .int .i64 0]) ?_ 0 _ rfl; (with_reducible repeat first | apply blk_drewN | apply blk_drew | apply blk_alloc); exact BK411.out⟩, ⟨by repeat (first | (with_reducible first | exact HB.out | apply below_alloc | apply pw_below_drewN | apply below_drew1 | refine below_set ?_ GE387.out | refine below_set ?_ GE389.out | refine below_set ?_ GE399.out | refine below_set ?_ GE411.out) | exact HB.out)⟩⟩
                          · rw [if_neg c62] at H
                            have c62b0 : decide (t404 < x390000_1) = false := decide_eq_false c62
                            clear c62
                            by_cases c70 : t405 > x390001_1
                            · rw [if_pos c70] at H
                              have c70b0 : decide (x390001_1 < t405) = true := decide_eq_true c70
                              clear c70
                              have H' := Aside0.mk H
                              clear H
                              have hnb71 := NB411_387.out
                              have hnc71 := NB387_411.out
                              have hnb72 := NB411_389.out
                              have hnc72 := NB389_411.out
                              have hnb73 := NB411_399.out
                              have hnc73 := NB399_411.out
                              have hcz74_0 : w46.cell? ⟨gb411, 0, none⟩ = some (.int .i64 0) := (blk_cell BK411.out 0).trans rfl
                              have hcz74_1 : w46.cell? ⟨gb411, 1, none⟩ = some (.int .i64 0) := (blk_cell BK411.out 1).trans rfl
                              have hcz74_2 : w46.cell? ⟨gb411, 2, none⟩ = some (.int .i64 0) := (blk_cell BK411.out 2).trans rfl
                              have hcz74_3 : w46.cell? ⟨gb411, 3, none⟩ = some (.int .i64 0) := (blk_cell BK411.out 3).trans rfl
                              have hcz74_4 : w46.cell? ⟨gb411, 4, none⟩ = some (.int .i64 0) := (blk_cell BK411.out 4).trans rfl
                              have hcz74_5 : w46.cell? ⟨gb411, 5, none⟩ = some (.int .i64 0) := (blk_cell BK411.out 5).trans rfl
                              have hcz74_6 : w46.cell? ⟨gb411, 6, none⟩ = some (.int .i64 0) := (blk_cell BK411.out 6).trans rfl
                              have hfz74_0 := blk_frozen BK411.out 0
                              have hfz74_1 := blk_frozen BK411.out 1
                              have hfz74_2 := blk_frozen BK411.out 2
                              have hfz74_3 := blk_frozen BK411.out 3
                              have hfz74_4 := blk_frozen BK411.out 4
                              have hfz74_5 := blk_frozen BK411.out 5
                              have hfz74_6 := blk_frozen BK411.out 6
                              have hnb75 := NB389_387.out
                              have hnc75 := NB387_389.out
                              have hnb76 := NB389_399.out
                              have hnc76 := NB399_389.out
                              have hcz77_0 : w46.cell? ⟨gb389, 0, none⟩ = some (.int .i64 x390000_1) := (blk_cell BK389.out 0).trans rfl
                              have hcz77_1 : w46.cell? ⟨gb389, 1, none⟩ = some (.int .i64 x390001_1) := (blk_cell BK389.out 1).trans rfl
                              have hfz77_0 := blk_frozen BK389.out 0
                              have hfz77_1 := blk_frozen BK389.out 1
                              go_wp2
                              go_meet
                              case rel => exact ⟨_, (true), (by first | rfl | (simp; done) | (simp [*]; done)), H', ⟨by have := HK1.out; have := HJ14.out; first | omega | exact Nat.le_refl _⟩, ⟨by (with_reducible repeat (first | apply Kd.R_alloc | apply Kd.R_drewN | apply Kd.R_drew)); exact Kd.R_mono (Kd.R_far (p := ⟨gb411, 6, none⟩) (Kd.R_far (p := ⟨gb411, 5, none⟩) (Kd.R_far (p := ⟨gb411, 4, none⟩) (Kd.R_far (p := ⟨gb411, 3, none⟩) (Kd.R_far (p := ⟨gb411, 2, none⟩) (Kd.R_far (p := ⟨gb411, 1, none⟩) (Kd.R_far (p := ⟨gb411, 0, none⟩) (Kd.R_types HO402.out BK411.out (by decide)) (fun _ hk => hk.2) (.int .i64 t403)) (fun _ hk => hk.2) (.int .i64 t404)) (fun _ hk => hk.2) (.int .i64 t405)) (fun _ hk => hk.2) (.int .i64 t406)) (fun _ hk => hk.2) (.int .i64 t407)) (fun _ hk => hk.2) (.int .i64 t408)) (fun _ hk => hk.2) (.int .i64 t409)) (fun _ hk => hk.1)⟩, ⟨by (with_reducible repeat first | apply blk_drewN | apply blk_drew | apply blk_alloc); refine blk_far ?_ NB387_411.out _; (with_reducible repeat first | apply blk_drewN | apply blk_drew | apply blk_alloc); refine blk_far ?_ NB387_411.out _; (with_reducible repeat first | apply blk_drewN | apply blk_drew | apply blk_alloc); refine blk_far ?_ NB387_411.out _; (with_reducible repeat first | apply blk_drewN | apply blk_drew | apply blk_alloc); refine blk_far ?_ NB387_411.out _; (with_reducible repeat first | apply blk_drewN | apply blk_drew | apply blk_alloc); refine blk_far ?_ NB387_411.out _; (with_reducible repeat first | apply blk_drewN | apply blk_drew | apply blk_alloc); refine blk_far ?_ NB387_411.out _; (with_reducible repeat first | apply blk_drewN | apply blk_drew | apply blk_alloc); refine blk_far ?_ NB387_411.out _; (with_reducible repeat first | apply blk_drewN | apply blk_drew | apply blk_alloc); exact BK387.out⟩, ⟨by (with_reducible repeat first | apply blk_drewN | apply blk_drew | apply blk_alloc); refine blk_far ?_ NB389_411.out _; (with_reducible repeat first | apply blk_drewN | apply blk_drew | apply blk_alloc); refine blk_far ?_ NB389_411.out _; (with_reducible repeat first | apply blk_drewN | apply blk_drew | apply blk_alloc); refine blk_far ?_ NB389_411.out _; (with_reducible repeat first | apply blk_drewN | apply blk_drew | apply blk_alloc); refine blk_far ?_ NB389_411.out _; (with_reducible repeat first | apply blk_drewN | apply blk_drew | apply blk_alloc); refine blk_far ?_ NB389_411.out _; (with_reducible repeat first | apply blk_drewN | apply blk_drew | apply blk_alloc); refine blk_far ?_ NB389_411.out _; (with_reducible repeat first | apply blk_drewN | apply blk_drew | apply blk_alloc); refine blk_far ?_ NB389_411.out _; (with_reducible repeat first | apply blk_drewN | apply blk_drew | apply blk_alloc); exact BK389.out⟩, ⟨by (with_reducible repeat first | apply blk_drewN | apply blk_drew | apply blk_alloc); refine blk_far ?_ NB399_411.out _; (with_reducible repeat first | apply blk_drewN | apply blk_drew | apply blk_alloc); refine blk_far ?_ NB399_411.out _; (with_reducible repeat first | apply blk_drewN | apply blk_drew | apply blk_alloc); refine blk_far ?_ NB399_411.out _; (with_reducible repeat first | apply blk_drewN | apply blk_drew | apply blk_alloc); refine blk_far ?_ NB399_411.out _; (with_reducible repeat first | apply blk_drewN | apply blk_drew | apply blk_alloc); refine blk_far ?_ NB399_411.out _; (with_reducible repeat first | apply blk_drewN | apply blk_drew | apply blk_alloc); refine blk_far ?_ NB399_411.out _; (with_reducible repeat first | apply blk_drewN | apply blk_drew | apply blk_alloc); refine blk_far ?_ NB399_411.out _; (with_reducible repeat first | apply blk_drewN | apply blk_drew | apply blk_alloc); exact BK399.out⟩, ⟨by (with_reducible repeat first | apply blk_drewN | apply blk_drew | apply blk_alloc); refine blk_put (cs := #[.int .i64 t403, .int .i64 t404, .int .i64 t405, .int .i64 t406, .int .i64 t407, .int .i64 t408, .int .i64 0]) ?_ 6 _ rfl; (with_reducible repeat first | apply blk_drewN | apply blk_drew | apply blk_alloc); refine blk_put (cs := #[.int .i64 t403, .int .i64 t404, .int .i64 t405, .int .i64 t406, .int .i64 t407, .int .i64 0, .int .i64 0]) ?_ 5 _ rfl; (with_reducible repeat first | apply blk_drewN | apply blk_drew | apply blk_alloc); refine blk_put (cs := #[.int .i64 t403, .int .i64 t404, .int .i64 t405, .int .i64 t406, .int .i64 0, .int .i64 0, .int .i64 0]) ?_ 4 _ rfl; (with_reducible repeat first | apply blk_drewN | apply blk_drew | apply blk_alloc); refine blk_put (cs := #[.int .i64 t403, .int .i64 t404, .int .i64 t405, .int .i64 0, .int .i64 0, .int .i64 0, .int .i64 0]) ?_ 3 _ rfl; (with_reducible repeat first | apply blk_drewN | apply blk_drew | apply blk_alloc); refine blk_put (cs := #[.int .i64 t403, .int .i64 t404, .int .i64 0, .int .i64 0, .int .i64 0, .int .i64 0, .int .i64 0]) ?_ 2 _ rfl; (with_reducible repeat first | apply blk_drewN | apply blk_drew | apply blk_alloc); refine blk_put (cs := #[.int .i64 t403, .int .i64 0, .int .i64 0, .int .i64 0, .int .i64 0, .int .i64 0, .int .i64 0]) ?_ 1 _ rfl; (with_reducible repeat first | apply blk_drewN | apply blk_drew | apply blk_alloc); refine blk_put (cs := #[.int .i64 0, .int .i64 0, .int .i64 0, .int .i64 0, .int .i64 0, .int .i64 0, .int .i64 0]) ?_ 0 _ rfl; (with_reducible repeat first | apply blk_drewN | apply blk_drew | apply blk_alloc); exact BK411.out⟩, ⟨by repeat (first | (with_reducible first | exact HB.out | apply below_alloc | apply pw_below_drewN | apply below_drew1 | refine below_set ?_ GE387.out | refine below_set ?_ GE389.out | refine below_set ?_ GE399.out | refine below_set ?_ GE411.out) | exact HB.out)⟩⟩
                            · rw [if_neg c70] at H
                              have c70b0 : decide (x390001_1 < t405) = false := decide_eq_false c70
                              clear c70
                              by_cases c78 : (!(t408 == t385) || (!(t409 == t386))) = true
                              · rw [if_pos c78] at H
                                have c78b0 : (!(t408 == t385) || (!(t409 == t386))) = true := c78
                                clear c78
                                have H' := Aside0.mk H
                                clear H
                                have hnb79 := NB411_387.out
                                have hnc79 := NB387_411.out
                                have hnb80 := NB411_389.out
                                have hnc80 := NB389_411.out
                                have hnb81 := NB411_399.out
                                have hnc81 := NB399_411.out
                                have hcz82_0 : w46.cell? ⟨gb411, 0, none⟩ = some (.int .i64 0) := (blk_cell BK411.out 0).trans rfl
                                have hcz82_1 : w46.cell? ⟨gb411, 1, none⟩ = some (.int .i64 0) := (blk_cell BK411.out 1).trans rfl
                                have hcz82_2 : w46.cell? ⟨gb411, 2, none⟩ = some (.int .i64 0) := (blk_cell BK411.out 2).trans rfl
                                have hcz82_3 : w46.cell? ⟨gb411, 3, none⟩ = some (.int .i64 0) := (blk_cell BK411.out 3).trans rfl
                                have hcz82_4 : w46.cell? ⟨gb411, 4, none⟩ = some (.int .i64 0) := (blk_cell BK411.out 4).trans rfl
                                have hcz82_5 : w46.cell? ⟨gb411, 5, none⟩ = some (.int .i64 0) := (blk_cell BK411.out 5).trans rfl
                                have hcz82_6 : w46.cell? ⟨gb411, 6, none⟩ = some (.int .i64 0) := (blk_cell BK411.out 6).trans rfl
                                have hfz82_0 := blk_frozen BK411.out 0
                                have hfz82_1 := blk_frozen BK411.out 1
                                have hfz82_2 := blk_frozen BK411.out 2
                                have hfz82_3 := blk_frozen BK411.out 3
                                have hfz82_4 := blk_frozen BK411.out 4
                                have hfz82_5 := blk_frozen BK411.out 5
                                have hfz82_6 := blk_frozen BK411.out 6
                                have hnb83 := NB389_387.out
                                have hnc83 := NB387_389.out
                                have hnb84 := NB389_399.out
                                have hnc84 := NB399_389.out
                                have hcz85_0 : w46.cell? ⟨gb389, 0, none⟩ = some (.int .i64 x390000_1) := (blk_cell BK389.out 0).trans rfl
                                have hcz85_1 : w46.cell? ⟨gb389, 1, none⟩ = some (.int .i64 x390001_1) := (blk_cell BK389.out 1).trans rfl
                                have hfz85_0 := blk_frozen BK389.out 0
                                have hfz85_1 := blk_frozen BK389.out 1
                                have hnb86 := NB387_399.out
                                have hnc86 := NB399_387.out
                                have hcz87_0 : w46.cell? ⟨gb387, 0, none⟩ = some (.int .i64 t380) := (blk_cell BK387.out 0).trans rfl
                                have hcz87_1 : w46.cell? ⟨gb387, 1, none⟩ = some (.int .i64 t381) := (blk_cell BK387.out 1).trans rfl
                                have hcz87_2 : w46.cell? ⟨gb387, 2, none⟩ = some (.int .i64 t382) := (blk_cell BK387.out 2).trans rfl
                                have hcz87_3 : w46.cell? ⟨gb387, 3, none⟩ = some (.int .i64 t383) := (blk_cell BK387.out 3).trans rfl
                                have hcz87_4 : w46.cell? ⟨gb387, 4, none⟩ = some (.int .i64 t384) := (blk_cell BK387.out 4).trans rfl
                                have hcz87_5 : w46.cell? ⟨gb387, 5, none⟩ = some (.int .i64 t385) := (blk_cell BK387.out 5).trans rfl
                                have hcz87_6 : w46.cell? ⟨gb387, 6, none⟩ = some (.int .i64 t386) := (blk_cell BK387.out 6).trans rfl
                                have hfz87_0 := blk_frozen BK387.out 0
                                have hfz87_1 := blk_frozen BK387.out 1
                                have hfz87_2 := blk_frozen BK387.out 2
                                have hfz87_3 := blk_frozen BK387.out 3
                                have hfz87_4 := blk_frozen BK387.out 4
                                have hfz87_5 := blk_frozen BK387.out 5
                                have hfz87_6 := blk_frozen BK387.out 6
                                go_wp2
                                go_meet
                                case rel => exact ⟨_, (true), (by first | rfl | (simp; done) | (simp [*]; done)), H', ⟨by have := HK1.out; have := HJ14.out; first | omega | exact Nat.le_refl _⟩, ⟨by (with_reducible repeat (first | apply Kd.R_alloc | apply Kd.R_drewN | apply Kd.R_drew)); exact Kd.R_mono (Kd.R_far (p := ⟨gb411, 6, none⟩) (Kd.R_far (p := ⟨gb411, 5, none⟩) (Kd.R_far (p := ⟨gb411, 4, none⟩) (Kd.R_far (p := ⟨gb411, 3, none⟩) (Kd.R_far (p := ⟨gb411, 2, none⟩) (Kd.R_far (p := ⟨gb411, 1, none⟩) (Kd.R_far (p := ⟨gb411, 0, none⟩) (Kd.R_types HO402.out BK411.out (by decide)) (fun _ hk => hk.2) (.int .i64 t403)) (fun _ hk => hk.2) (.int .i64 t404)) (fun _ hk => hk.2) (.int .i64 t405)) (fun _ hk => hk.2) (.int .i64 t406)) (fun _ hk => hk.2) (.int .i64 t407)) (fun _ hk => hk.2) (.int .i64 t408)) (fun _ hk => hk.2) (.int .i64 t409)) (fun _ hk => hk.1)⟩, ⟨by (with_reducible repeat first | apply blk_drewN | apply blk_drew | apply blk_alloc); refine blk_far ?_ NB387_411.out _; (with_reducible repeat first | apply blk_drewN | apply blk_drew | apply blk_alloc); refine blk_far ?_ NB387_411.out _; (with_reducible repeat first | apply blk_drewN | apply blk_drew | apply blk_alloc); refine blk_far ?_ NB387_411.out _; (with_reducible repeat first | apply blk_drewN | apply blk_drew | apply blk_alloc); refine blk_far ?_ NB387_411.out _; (with_reducible repeat first | apply blk_drewN | apply blk_drew | apply blk_alloc); refine blk_far ?_ NB387_411.out _; (with_reducible repeat first | apply blk_drewN | apply blk_drew | apply blk_alloc); refine blk_far ?_ NB387_411.out _; (with_reducible repeat first | apply blk_drewN | apply blk_drew | apply blk_alloc); refine blk_far ?_ NB387_411.out _; (with_reducible repeat first | apply blk_drewN | apply blk_drew | apply blk_alloc); exact BK387.out⟩, ⟨by (with_reducible repeat first | apply blk_drewN | apply blk_drew | apply blk_alloc); refine blk_far ?_ NB389_411.out _; (with_reducible repeat first | apply blk_drewN | apply blk_drew | apply blk_alloc); refine blk_far ?_ NB389_411.out _; (with_reducible repeat first | apply blk_drewN | apply blk_drew | apply blk_alloc); refine blk_far ?_ NB389_411.out _; (with_reducible repeat first | apply blk_drewN | apply blk_drew | apply blk_alloc); refine blk_far ?_ NB389_411.out _; (with_reducible repeat first | apply blk_drewN | apply blk_drew | apply blk_alloc); refine blk_far ?_ NB389_411.out _; (with_reducible repeat first | apply blk_drewN | apply blk_drew | apply blk_alloc); refine blk_far ?_ NB389_411.out _; (with_reducible repeat first | apply blk_drewN | apply blk_drew | apply blk_alloc); refine blk_far ?_ NB389_411.out _; (with_reducible repeat first | apply blk_drewN | apply blk_drew | apply blk_alloc); exact BK389.out⟩, ⟨by (with_reducible repeat first | apply blk_drewN | apply blk_drew | apply blk_alloc); refine blk_far ?_ NB399_411.out _; (with_reducible repeat first | apply blk_drewN | apply blk_drew | apply blk_alloc); refine blk_far ?_ NB399_411.out _; (with_reducible repeat first | apply blk_drewN | apply blk_drew | apply blk_alloc); refine blk_far ?_ NB399_411.out _; (with_reducible repeat first | apply blk_drewN | apply blk_drew | apply blk_alloc); refine blk_far ?_ NB399_411.out _; (with_reducible repeat first | apply blk_drewN | apply blk_drew | apply blk_alloc); refine blk_far ?_ NB399_411.out _; (with_reducible repeat first | apply blk_drewN | apply blk_drew | apply blk_alloc); refine blk_far ?_ NB399_411.out _; (with_reducible repeat first | apply blk_drewN | apply blk_drew | apply blk_alloc); refine blk_far ?_ NB399_411.out _; (with_reducible repeat first | apply blk_drewN | apply blk_drew | apply blk_alloc); exact BK399.out⟩, ⟨by (with_reducible repeat first | apply blk_drewN | apply blk_drew | apply blk_alloc); refine blk_put (cs := #[.int .i64 t403, .int .i64 t404, .int .i64 t405, .int .i64 t406, .int .i64 t407, .int .i64 t408, .int .i64 0]) ?_ 6 _ rfl; (with_reducible repeat first | apply blk_drewN | apply blk_drew | apply blk_alloc); refine blk_put (cs := #[.int .i64 t403, .int .i64 t404, .int .i64 t405, .int .i64 t406, .int .i64 t407, .int .i64 0, .int .i64 0]) ?_ 5 _ rfl; (with_reducible repeat first | apply blk_drewN | apply blk_drew | apply blk_alloc); refine blk_put (cs := #[.int .i64 t403, .int .i64 t404, .int .i64 t405, .int .i64 t406, .int .i64 0, .int .i64 0, .int .i64 0]) ?_ 4 _ rfl; (with_reducible repeat first | apply blk_drewN | apply blk_drew | apply blk_alloc); refine blk_put (cs := #[.int .i64 t403, .int .i64 t404, .int .i64 t405, .int .i64 0, .int .i64 0, .int .i64 0, .int .i64 0]) ?_ 3 _ rfl; (with_reducible repeat first | apply blk_drewN | apply blk_drew | apply blk_alloc); refine blk_put (cs := #[.int .i64 t403, .int .i64 t404, .int .i64 0, .int .i64 0, .int .i64 0, .int .i64 0, .int .i64 0]) ?_ 2 _ rfl; (with_reducible repeat first | apply blk_drewN | apply blk_drew | apply blk_alloc); refine blk_put (cs := #[.int .i64 t403, .int .i64 0, .int .i64 0, .int .i64 0, .int .i64 0, .int .i64 0, .int .i64 0]) ?_ 1 _ rfl; (with_reducible repeat first | apply blk_drewN | apply blk_drew | apply blk_alloc); refine blk_put (cs := #[.int .i64 0, .int .i64 0, .int .i64 0, .int .i64 0, .int .i64 0, .int .i64 0, .int .i64 0]) ?_ 0 _ rfl; (with_reducible repeat first | apply blk_drewN | apply blk_drew | apply blk_alloc); exact BK411.out⟩, ⟨by repeat (first | (with_reducible first | exact HB.out | apply below_alloc | apply pw_below_drewN | apply below_drew1 | refine below_set ?_ GE387.out | refine below_set ?_ GE389.out | refine below_set ?_ GE399.out | refine below_set ?_ GE411.out) | exact HB.out)⟩⟩
                              · rw [if_neg c78] at H
                                have c78b0 : (!(t408 == t385) || (!(t409 == t386))) = false := by simpa using c78
                                clear c78
                                have H' := Aside0.mk H
                                clear H
                                have hnb88 := NB411_387.out
                                have hnc88 := NB387_411.out
                                have hnb89 := NB411_389.out
                                have hnc89 := NB389_411.out
                                have hnb90 := NB411_399.out
                                have hnc90 := NB399_411.out
                                have hcz91_0 : w46.cell? ⟨gb411, 0, none⟩ = some (.int .i64 0) := (blk_cell BK411.out 0).trans rfl
                                have hcz91_1 : w46.cell? ⟨gb411, 1, none⟩ = some (.int .i64 0) := (blk_cell BK411.out 1).trans rfl
                                have hcz91_2 : w46.cell? ⟨gb411, 2, none⟩ = some (.int .i64 0) := (blk_cell BK411.out 2).trans rfl
                                have hcz91_3 : w46.cell? ⟨gb411, 3, none⟩ = some (.int .i64 0) := (blk_cell BK411.out 3).trans rfl
                                have hcz91_4 : w46.cell? ⟨gb411, 4, none⟩ = some (.int .i64 0) := (blk_cell BK411.out 4).trans rfl
                                have hcz91_5 : w46.cell? ⟨gb411, 5, none⟩ = some (.int .i64 0) := (blk_cell BK411.out 5).trans rfl
                                have hcz91_6 : w46.cell? ⟨gb411, 6, none⟩ = some (.int .i64 0) := (blk_cell BK411.out 6).trans rfl
                                have hfz91_0 := blk_frozen BK411.out 0
                                have hfz91_1 := blk_frozen BK411.out 1
                                have hfz91_2 := blk_frozen BK411.out 2
                                have hfz91_3 := blk_frozen BK411.out 3
                                have hfz91_4 := blk_frozen BK411.out 4
                                have hfz91_5 := blk_frozen BK411.out 5
                                have hfz91_6 := blk_frozen BK411.out 6
                                have hnb92 := NB389_387.out
                                have hnc92 := NB387_389.out
                                have hnb93 := NB389_399.out
                                have hnc93 := NB399_389.out
                                have hcz94_0 : w46.cell? ⟨gb389, 0, none⟩ = some (.int .i64 x390000_1) := (blk_cell BK389.out 0).trans rfl
                                have hcz94_1 : w46.cell? ⟨gb389, 1, none⟩ = some (.int .i64 x390001_1) := (blk_cell BK389.out 1).trans rfl
                                have hfz94_0 := blk_frozen BK389.out 0
                                have hfz94_1 := blk_frozen BK389.out 1
                                have hnb95 := NB387_399.out
                                have hnc95 := NB399_387.out
                                have hcz96_0 : w46.cell? ⟨gb387, 0, none⟩ = some (.int .i64 t380) := (blk_cell BK387.out 0).trans rfl
                                have hcz96_1 : w46.cell? ⟨gb387, 1, none⟩ = some (.int .i64 t381) := (blk_cell BK387.out 1).trans rfl
                                have hcz96_2 : w46.cell? ⟨gb387, 2, none⟩ = some (.int .i64 t382) := (blk_cell BK387.out 2).trans rfl
                                have hcz96_3 : w46.cell? ⟨gb387, 3, none⟩ = some (.int .i64 t383) := (blk_cell BK387.out 3).trans rfl
                                have hcz96_4 : w46.cell? ⟨gb387, 4, none⟩ = some (.int .i64 t384) := (blk_cell BK387.out 4).trans rfl
                                have hcz96_5 : w46.cell? ⟨gb387, 5, none⟩ = some (.int .i64 t385) := (blk_cell BK387.out 5).trans rfl
                                have hcz96_6 : w46.cell? ⟨gb387, 6, none⟩ = some (.int .i64 t386) := (blk_cell BK387.out 6).trans rfl
                                have hfz96_0 := blk_frozen BK387.out 0
                                have hfz96_1 := blk_frozen BK387.out 1
                                have hfz96_2 := blk_frozen BK387.out 2
                                have hfz96_3 := blk_frozen BK387.out 3
                                have hfz96_4 := blk_frozen BK387.out 4
                                have hfz96_5 := blk_frozen BK387.out 5
                                have hfz96_6 := blk_frozen BK387.out 6
                                go_wp2
                                go_meet
                                case rel => exact ⟨_, ((!(t406 == t383) || (!(t407 == t384)))), (by first | rfl | (simp; done) | (simp [*]; done)), H', ⟨by have := HK1.out; have := HJ14.out; first | omega | exact Nat.le_refl _⟩, ⟨by (with_reducible repeat (first | apply Kd.R_alloc | apply Kd.R_drewN | apply Kd.R_drew)); exact Kd.R_mono (Kd.R_far (p := ⟨gb411, 6, none⟩) (Kd.R_far (p := ⟨gb411, 5, none⟩) (Kd.R_far (p := ⟨gb411, 4, none⟩) (Kd.R_far (p := ⟨gb411, 3, none⟩) (Kd.R_far (p := ⟨gb411, 2, none⟩) (Kd.R_far (p := ⟨gb411, 1, none⟩) (Kd.R_far (p := ⟨gb411, 0, none⟩) (Kd.R_types HO402.out BK411.out (by decide)) (fun _ hk => hk.2) (.int .i64 t403)) (fun _ hk => hk.2) (.int .i64 t404)) (fun _ hk => hk.2) (.int .i64 t405)) (fun _ hk => hk.2) (.int .i64 t406)) (fun _ hk => hk.2) (.int .i64 t407)) (fun _ hk => hk.2) (.int .i64 t408)) (fun _ hk => hk.2) (.int .i64 t409)) (fun _ hk => hk.1)⟩, ⟨by (with_reducible repeat first | apply blk_drewN | apply blk_drew | apply blk_alloc); refine blk_far ?_ NB387_411.out _; (with_reducible repeat first | apply blk_drewN | apply blk_drew | apply blk_alloc); refine blk_far ?_ NB387_411.out _; (with_reducible repeat first | apply blk_drewN | apply blk_drew | apply blk_alloc); refine blk_far ?_ NB387_411.out _; (with_reducible repeat first | apply blk_drewN | apply blk_drew | apply blk_alloc); refine blk_far ?_ NB387_411.out _; (with_reducible repeat first | apply blk_drewN | apply blk_drew | apply blk_alloc); refine blk_far ?_ NB387_411.out _; (with_reducible repeat first | apply blk_drewN | apply blk_drew | apply blk_alloc); refine blk_far ?_ NB387_411.out _; (with_reducible repeat first | apply blk_drewN | apply blk_drew | apply blk_alloc); refine blk_far ?_ NB387_411.out _; (with_reducible repeat first | apply blk_drewN | apply blk_drew | apply blk_alloc); exact BK387.out⟩, ⟨by (with_reducible repeat first | apply blk_drewN | apply blk_drew | apply blk_alloc); refine blk_far ?_ NB389_411.out _; (with_reducible repeat first | apply blk_drewN | apply blk_drew | apply blk_alloc); refine blk_far ?_ NB389_411.out _; (with_reducible repeat first | apply blk_drewN | apply blk_drew | apply blk_alloc); refine blk_far ?_ NB389_411.out _; (with_reducible repeat first | apply blk_drewN | apply blk_drew | apply blk_alloc); refine blk_far ?_ NB389_411.out _; (with_reducible repeat first | apply blk_drewN | apply blk_drew | apply blk_alloc); refine blk_far ?_ NB389_411.out _; (with_reducible repeat first | apply blk_drewN | apply blk_drew | apply blk_alloc); refine blk_far ?_ NB389_411.out _; (with_reducible repeat first | apply blk_drewN | apply blk_drew | apply blk_alloc); refine blk_far ?_ NB389_411.out _; (with_reducible repeat first | apply blk_drewN | apply blk_drew | apply blk_alloc); exact BK389.out⟩, ⟨by (with_reducible repeat first | apply blk_drewN | apply blk_drew | apply blk_alloc); refine blk_far ?_ NB399_411.out _; (with_reducible repeat first | apply blk_drewN | apply blk_drew | apply blk_alloc); refine blk_far ?_ NB399_411.out _; (with_reducible repeat first | apply blk_drewN | apply blk_drew | apply blk_alloc); refine blk_far ?_ NB399_411.out _; (with_reducible repeat first | apply blk_drewN | apply blk_drew | apply blk_alloc); refine blk_far ?_ NB399_411.out _; (with_reducible repeat first | apply blk_drewN | apply blk_drew | apply blk_alloc); refine blk_far ?_ NB399_411.out _; (with_reducible repeat first | apply blk_drewN | apply blk_drew | apply blk_alloc); refine blk_far ?_ NB399_411.out _; (with_reducible repeat first | apply blk_drewN | apply blk_drew | apply blk_alloc); refine blk_far ?_ NB399_411.out _; (with_reducible repeat first | apply blk_drewN | apply blk_drew | apply blk_alloc); exact BK399.out⟩, ⟨by (with_reducible repeat first | apply blk_drewN | apply blk_drew | apply blk_alloc); refine blk_put (cs := #[.int .i64 t403, .int .i64 t404, .int .i64 t405, .int .i64 t406, .int .i64 t407, .int .i64 t408, .int .i64 0]) ?_ 6 _ rfl; (with_reducible repeat first | apply blk_drewN | apply blk_drew | apply blk_alloc); refine blk_put (cs := #[.int .i64 t403, .int .i64 t404, .int .i64 t405, .int .i64 t406, .int .i64 t407, .int .i64 0, .int .i64 0]) ?_ 5 _ rfl; (with_reducible repeat first | apply blk_drewN | apply blk_drew | apply blk_alloc); refine blk_put (cs := #[.int .i64 t403, .int .i64 t404, .int .i64 t405, .int .i64 t406, .int .i64 0, .int .i64 0, .int .i64 0]) ?_ 4 _ rfl; (with_reducible repeat first | apply blk_drewN | apply blk_drew | apply blk_alloc); refine blk_put (cs := #[.int .i64 t403, .int .i64 t404, .int .i64 t405, .int .i64 0, .int .i64 0, .int .i64 0, .int .i64 0]) ?_ 3 _ rfl; (with_reducible repeat first | apply blk_drewN | apply blk_drew | apply blk_alloc); refine blk_put (cs := #[.int .i64 t403, .int .i64 t404, .int .i64 0, .int .i64 0, .int .i64 0, .int .i64 0, .int .i64 0]) ?_ 2 _ rfl; (with_reducible repeat first | apply blk_drewN | apply blk_drew | apply blk_alloc); refine blk_put (cs := #[.int .i64 t403, .int .i64 0, .int .i64 0, .int .i64 0, .int .i64 0, .int .i64 0, .int .i64 0]) ?_ 1 _ rfl; (with_reducible repeat first | apply blk_drewN | apply blk_drew | apply blk_alloc); refine blk_put (cs := #[.int .i64 0, .int .i64 0, .int .i64 0, .int .i64 0, .int .i64 0, .int .i64 0, .int .i64 0]) ?_ 0 _ rfl; (with_reducible repeat first | apply blk_drewN | apply blk_drew | apply blk_alloc); exact BK411.out⟩, ⟨by repeat (first | (with_reducible first | exact HB.out | apply below_alloc | apply pw_below_drewN | apply below_drew1 | refine below_set ?_ GE387.out | refine below_set ?_ GE389.out | refine below_set ?_ GE399.out | refine below_set ?_ GE411.out) | exact HB.out)⟩⟩
                    · rw [if_neg c51] at H
                      have c51b0 : (t410 == 0) = false := beq_eq_false_iff_ne.mpr c51
                      have c51b1 : (t410 != 0) = true := bne_iff_ne.mpr c51
                      (first | rw [c51b0] | (simp only [i64_w, i32_w]; rw [c51b0]) | skip)
                      have H' := Aside0.mk H
                      clear H
                      go_wp2
                      go_meet
                      case rel => exact ⟨_, (true), (by first | rfl | (simp; done) | (simp [*]; done)), H', ⟨by have := HK1.out; have := HJ14.out; first | omega | exact Nat.le_refl _⟩, ⟨by (with_reducible repeat (first | apply Kd.R_alloc | apply Kd.R_drewN | apply Kd.R_drew)); exact Kd.R_mono (Kd.R_far (p := ⟨gb411, 6, none⟩) (Kd.R_far (p := ⟨gb411, 5, none⟩) (Kd.R_far (p := ⟨gb411, 4, none⟩) (Kd.R_far (p := ⟨gb411, 3, none⟩) (Kd.R_far (p := ⟨gb411, 2, none⟩) (Kd.R_far (p := ⟨gb411, 1, none⟩) (Kd.R_far (p := ⟨gb411, 0, none⟩) (Kd.R_types HO402.out BK411.out (by decide)) (fun _ hk => hk.2) (.int .i64 t403)) (fun _ hk => hk.2) (.int .i64 t404)) (fun _ hk => hk.2) (.int .i64 t405)) (fun _ hk => hk.2) (.int .i64 t406)) (fun _ hk => hk.2) (.int .i64 t407)) (fun _ hk => hk.2) (.int .i64 t408)) (fun _ hk => hk.2) (.int .i64 t409)) (fun _ hk => hk.1)⟩, ⟨by (with_reducible repeat first | apply blk_drewN | apply blk_drew | apply blk_alloc); refine blk_far ?_ NB387_411.out _; (with_reducible repeat first | apply blk_drewN | apply blk_drew | apply blk_alloc); refine blk_far ?_ NB387_411.out _; (with_reducible repeat first | apply blk_drewN | apply blk_drew | apply blk_alloc); refine blk_far ?_ NB387_411.out _; (with_reducible repeat first | apply blk_drewN | apply blk_drew | apply blk_alloc); refine blk_far ?_ NB387_411.out _; (with_reducible repeat first | apply blk_drewN | apply blk_drew | apply blk_alloc); refine blk_far ?_ NB387_411.out _; (with_reducible repeat first | apply blk_drewN | apply blk_drew | apply blk_alloc); refine blk_far ?_ NB387_411.out _; (with_reducible repeat first | apply blk_drewN | apply blk_drew | apply blk_alloc); refine blk_far ?_ NB387_411.out _; (with_reducible repeat first | apply blk_drewN | apply blk_drew | apply blk_alloc); exact BK387.out⟩, ⟨by (with_reducible repeat first | apply blk_drewN | apply blk_drew | apply blk_alloc); refine blk_far ?_ NB389_411.out _; (with_reducible repeat first | apply blk_drewN | apply blk_drew | apply blk_alloc); refine blk_far ?_ NB389_411.out _; (with_reducible repeat first | apply blk_drewN | apply blk_drew | apply blk_alloc); refine blk_far ?_ NB389_411.out _; (with_reducible repeat first | apply blk_drewN | apply blk_drew | apply blk_alloc); refine blk_far ?_ NB389_411.out _; (with_reducible repeat first | apply blk_drewN | apply blk_drew | apply blk_alloc); refine blk_far ?_ NB389_411.out _; (with_reducible repeat first | apply blk_drewN | apply blk_drew | apply blk_alloc); refine blk_far ?_ NB389_411.out _; (with_reducible repeat first | apply blk_drewN | apply blk_drew | apply blk_alloc); refine blk_far ?_ NB389_411.out _; (with_reducible repeat first | apply blk_drewN | apply blk_drew | apply blk_alloc); exact BK389.out⟩, ⟨by (with_reducible repeat first | apply blk_drewN | apply blk_drew | apply blk_alloc); refine blk_far ?_ NB399_411.out _; (with_reducible repeat first | apply blk_drewN | apply blk_drew | apply blk_alloc); refine blk_far ?_ NB399_411.out _; (with_reducible repeat first | apply blk_drewN | apply blk_drew | apply blk_alloc); refine blk_far ?_ NB399_411.out _; (with_reducible repeat first | apply blk_drewN | apply blk_drew | apply blk_alloc); refine blk_far ?_ NB399_411.out _; (with_reducible repeat first | apply blk_drewN | apply blk_drew | apply blk_alloc); refine blk_far ?_ NB399_411.out _; (with_reducible repeat first | apply blk_drewN | apply blk_drew | apply blk_alloc); refine blk_far ?_ NB399_411.out _; (with_reducible repeat first | apply blk_drewN | apply blk_drew | apply blk_alloc); refine blk_far ?_ NB399_411.out _; (with_reducible repeat first | apply blk_drewN | apply blk_drew | apply blk_alloc); exact BK399.out⟩, ⟨by (with_reducible repeat first | apply blk_drewN | apply blk_drew | apply blk_alloc); refine blk_put (cs := #[.int .i64 t403, .int .i64 t404, .int .i64 t405, .int .i64 t406, .int .i64 t407, .int .i64 t408, .int .i64 0]) ?_ 6 _ rfl; (with_reducible repeat first | apply blk_drewN | apply blk_drew | apply blk_alloc); refine blk_put (cs := #[.int .i64 t403, .int .i64 t404, .int .i64 t405, .int .i64 t406, .int .i64 t407, .int .i64 0, .int .i64 0]) ?_ 5 _ rfl; (with_reducible repeat first | apply blk_drewN | apply blk_drew | apply blk_alloc); refine blk_put (cs := #[.int .i64 t403, .int .i64 t404, .int .i64 t405, .int .i64 t406, .int .i64 0, .int .i64 0, .int .i64 0]) ?_ 4 _ rfl; (with_reducible repeat first | apply blk_drewN | apply blk_drew | apply blk_alloc); refine blk_put (cs := #[.int .i64 t403, .int .i64 t404, .int .i64 t405, .int .i64 0, .int .i64 0, .int .i64 0, .int .i64 0]) ?_ 3 _ rfl; (with_reducible repeat first | apply blk_drewN | apply blk_drew | apply blk_alloc); refine blk_put (cs := #[.int .i64 t403, .int .i64 t404, .int .i64 0, .int .i64 0, .int .i64 0, .int .i64 0, .int .i64 0]) ?_ 2 _ rfl; (with_reducible repeat first | apply blk_drewN | apply blk_drew | apply blk_alloc); refine blk_put (cs := #[.int .i64 t403, .int .i64 0, .int .i64 0, .int .i64 0, .int .i64 0, .int .i64 0, .int .i64 0]) ?_ 1 _ rfl; (with_reducible repeat first | apply blk_drewN | apply blk_drew | apply blk_alloc); refine blk_put (cs := #[.int .i64 0, .int .i64 0, .int .i64 0, .int .i64 0, .int .i64 0, .int .i64 0, .int .i64 0]) ?_ 0 _ rfl; (with_reducible repeat first | apply blk_drewN | apply blk_drew | apply blk_alloc); exact BK411.out⟩, ⟨by repeat (first | (with_reducible first | exact HB.out | apply below_alloc | apply pw_below_drewN | apply below_drew1 | refine below_set ?_ GE387.out | refine below_set ?_ GE389.out | refine below_set ?_ GE399.out | refine below_set ?_ GE411.out) | exact HB.out)⟩⟩
                  case rest =>
                    clear HC29
                    try clear c2
                    try clear p2
                    try clear c3
                    try clear c4
                    try clear c5
                    try clear c6
                    try clear p6
                    try clear c7
                    try clear c8
                    try clear c9
                    try clear c21
                    try clear c27
                    try clear c34
                    try clear c35
                    try clear c36
                    try clear c38
                    try clear c39
                    try clear c42
                    try clear c47
                    try clear c48
                    try clear c49
                    try clear c51
                    try clear c51b0
                    try clear c51b1
                    try clear c52
                    try clear c52b0
                    try clear c53
                    try clear c54
                    try clear c55
                    try clear c57
                    try clear c57b0
                    try clear c58
                    try clear c59
                    try clear c60
                    try clear c62
                    try clear c62b0
                    try clear c63
                    try clear c64
                    try clear p64
                    try clear c65
                    try clear c67
                    try clear c68
                    try clear c70
                    try clear c70b0
                    try clear c71
                    try clear c72
                    try clear c73
                    try clear c75
                    try clear c76
                    try clear c78
                    try clear c78b0
                    try clear c79
                    try clear c80
                    try clear c81
                    try clear c83
                    try clear c84
                    try clear c86
                    try clear c88
                    try clear c89
                    try clear c90
                    try clear c92
                    try clear c93
                    try clear c95
                    try clear hcz40_0
                    try clear hcz40_1
                    try clear hcz40_2
                    try clear hcz40_3
                    try clear hcz40_4
                    try clear hcz43_0
                    try clear hcz43_1
                    try clear hcz43_2
                    try clear hcz43_3
                    try clear hcz43_4
                    try clear hcz43_5
                    try clear hcz43_6
                    try clear hcz50_0
                    try clear hcz50_1
                    try clear hcz50_2
                    try clear hcz50_3
                    try clear hcz50_4
                    try clear hcz50_5
                    try clear hcz50_6
                    try clear hcz56_0
                    try clear hcz56_1
                    try clear hcz56_2
                    try clear hcz56_3
                    try clear hcz56_4
                    try clear hcz56_5
                    try clear hcz56_6
                    try clear hcz61_0
                    try clear hcz61_1
                    try clear hcz61_2
                    try clear hcz61_3
                    try clear hcz61_4
                    try clear hcz61_5
                    try clear hcz61_6
                    try clear hcz66_0
                    try clear hcz66_1
                    try clear hcz66_2
                    try clear hcz66_3
                    try clear hcz66_4
                    try clear hcz66_5
                    try clear hcz66_6
                    try clear hcz69_0
                    try clear hcz69_1
                    try clear hcz74_0
                    try clear hcz74_1
                    try clear hcz74_2
                    try clear hcz74_3
                    try clear hcz74_4
                    try clear hcz74_5
                    try clear hcz74_6
                    try clear hcz77_0
                    try clear hcz77_1
                    try clear hcz82_0
                    try clear hcz82_1
                    try clear hcz82_2
                    try clear hcz82_3
                    try clear hcz82_4
                    try clear hcz82_5
                    try clear hcz82_6
                    try clear hcz85_0
                    try clear hcz85_1
                    try clear hcz87_0
                    try clear hcz87_1
                    try clear hcz87_2
                    try clear hcz87_3
                    try clear hcz87_4
                    try clear hcz87_5
                    try clear hcz87_6
                    try clear hcz91_0
                    try clear hcz91_1
                    try clear hcz91_2
                    try clear hcz91_3
                    try clear hcz91_4
                    try clear hcz91_5
                    try clear hcz91_6
                    try clear hcz94_0
                    try clear hcz94_1
                    try clear hcz96_0
                    try clear hcz96_1
                    try clear hcz96_2
                    try clear hcz96_3
                    try clear hcz96_4
                    try clear hcz96_5
                    try clear hcz96_6
                    try clear hfz40_0
                    try clear hfz40_1
                    try clear hfz40_2
                    try clear hfz40_3
                    try clear hfz40_4
                    try clear hfz43_0
                    try clear hfz43_1
                    try clear hfz43_2
                    try clear hfz43_3
                    try clear hfz43_4
                    try clear hfz43_5
                    try clear hfz43_6
                    try clear hfz50_0
                    try clear hfz50_1
                    try clear hfz50_2
                    try clear hfz50_3
                    try clear hfz50_4
                    try clear hfz50_5
                    try clear hfz50_6
                    try clear hfz56_0
                    try clear hfz56_1
                    try clear hfz56_2
                    try clear hfz56_3
                    try clear hfz56_4
                    try clear hfz56_5
                    try clear hfz56_6
                    try clear hfz61_0
                    try clear hfz61_1
                    try clear hfz61_2
                    try clear hfz61_3
                    try clear hfz61_4
                    try clear hfz61_5
                    try clear hfz61_6
                    try clear hfz66_0
                    try clear hfz66_1
                    try clear hfz66_2
                    try clear hfz66_3
                    try clear hfz66_4
                    try clear hfz66_5
                    try clear hfz66_6
                    try clear hfz69_0
                    try clear hfz69_1
                    try clear hfz74_0
                    try clear hfz74_1
                    try clear hfz74_2
                    try clear hfz74_3
                    try clear hfz74_4
                    try clear hfz74_5
                    try clear hfz74_6
                    try clear hfz77_0
                    try clear hfz77_1
                    try clear hfz82_0
                    try clear hfz82_1
                    try clear hfz82_2
                    try clear hfz82_3
                    try clear hfz82_4
                    try clear hfz82_5
                    try clear hfz82_6
                    try clear hfz85_0
                    try clear hfz85_1
                    try clear hfz87_0
                    try clear hfz87_1
                    try clear hfz87_2
                    try clear hfz87_3
                    try clear hfz87_4
                    try clear hfz87_5
                    try clear hfz87_6
                    try clear hfz91_0
                    try clear hfz91_1
                    try clear hfz91_2
                    try clear hfz91_3
                    try clear hfz91_4
                    try clear hfz91_5
                    try clear hfz91_6
                    try clear hfz94_0
                    try clear hfz94_1
                    try clear hfz96_0
                    try clear hfz96_1
                    try clear hfz96_2
                    try clear hfz96_3
                    try clear hfz96_4
                    try clear hfz96_5
                    try clear hfz96_6
                    obtain ⟨kq, x146_28, rfl, HA, HJ28, HO_9, BK387, BK389, BK399, BK411, HB⟩ := hcut
                    cases kq with
                    | zero => exact absurd HA.out (by simp [potbanklaw01_WareNarrows.j2])
                    | succ kj28 =>
                      have H := HA.out
                      clear HA
                      simp only [potbanklaw01_WareNarrows.j2] at H
                      by_cases c97 : x146_28 = true
                      · subst c97
                        have H1 : (none) = some r := by rw [if_pos rfl] at H; exact H
                        clear H
                        have H := H1
                        clear H1
                        exact absurd H (by simp)
                      · replace c97 := Bool.eq_false_iff.mpr c97
                        subst c97
                        have H1 : ((ware_Bar.f t403 t404 t405 t406 t407 t408 t409 99 (wrap64 (1 + t392))).bind fun bt412 => ((ware_Narrow.f t403 t404 t405 t406 t407 t408 t409 (([(⟨bt412.1, (⟨bt412.2.1, bt412.2.2.1⟩ : S23), (⟨bt412.2.2.2.1, bt412.2.2.2.2.1⟩ : S23)⟩ : S57)] : List (S57)))).bind fun bt422 => (if bt412.2.2.2.2.2 = 0 then (if bt422.2.2.2.2.2.2.2 = 0 then (if (!(bt422.1 == t403) || ((!(bt422.2.1 == t404) || (!(bt422.2.2.1 == t405))) || ((!(bt422.2.2.2.1 == t406) || (!(bt422.2.2.2.2.1 == t407))) || ((!(bt422.2.2.2.2.2.1 == t408) || (!(bt422.2.2.2.2.2.2.1 == t409))))))) = true then (none) else (potbanklaw01_WareNarrows.l0 kj28 l2 (wrap64 (t381 + t388)) y400 (wrap64 (x11_1 + 1)) t380 t381 t382 t383 t384 t385 t386 t404 t405)) else (none)) else (none)))) = some r := by rw [if_neg (show ¬ (false = true) by decide)] at H; exact H
                        clear H
                        have H := H1
                        clear H1
                        replace H := Option.bind_eq_some_iff.mp H
                        obtain ⟨⟨t412, t413, t414, t415, t416, t417⟩, A980, H⟩ := H
                        replace H : ((ware_Narrow.f t403 t404 t405 t406 t407 t408 t409 (([(⟨t412, (⟨t413, t414⟩ : S23), (⟨t415, t416⟩ : S23)⟩ : S57)] : List (S57)))).bind fun bt422 => (if t417 = 0 then (if bt422.2.2.2.2.2.2.2 = 0 then (if (!(bt422.1 == t403) || ((!(bt422.2.1 == t404) || (!(bt422.2.2.1 == t405))) || ((!(bt422.2.2.2.1 == t406) || (!(bt422.2.2.2.2.1 == t407))) || ((!(bt422.2.2.2.2.2.1 == t408) || (!(bt422.2.2.2.2.2.2.1 == t409))))))) = true then (none) else (potbanklaw01_WareNarrows.l0 kj28 l2 (wrap64 (t381 + t388)) y400 (wrap64 (x11_1 + 1)) t380 t381 t382 t383 t384 t385 t386 t404 t405)) else (none)) else (none))) = some r := H
                        have A98 := Aside0.mk A980
                        clear A980
                        obtain ⟨y419, hy419⟩ : ∃ y_ : List (S57), y_ = (([(⟨t412, (⟨t413, t414⟩ : S23), (⟨t415, t416⟩ : S23)⟩ : S57)] : List (S57))) := ⟨_, rfl⟩
                        replace H : ((ware_Narrow.f t403 t404 t405 t406 t407 t408 t409 y419).bind fun bt422 => (if t417 = 0 then (if bt422.2.2.2.2.2.2.2 = 0 then (if (!(bt422.1 == t403) || ((!(bt422.2.1 == t404) || (!(bt422.2.2.1 == t405))) || ((!(bt422.2.2.2.1 == t406) || (!(bt422.2.2.2.2.1 == t407))) || ((!(bt422.2.2.2.2.2.1 == t408) || (!(bt422.2.2.2.2.2.2.1 == t409))))))) = true then (none) else (potbanklaw01_WareNarrows.l0 kj28 l2 (wrap64 (t381 + t388)) y400 (wrap64 (x11_1 + 1)) t380 t381 t382 t383 t384 t385 t386 t404 t405)) else (none)) else (none))) = some r := by first | (rw [hy419]; with_reducible exact H) | (have H2_ := (Option.bind_some _ _).symm.trans H; rw [hy419]; with_reducible exact H2_) | (have H2_ := (Option.bind_some _ _).symm.trans H; with_reducible exact H2_) | with_reducible exact H | (rw [hy419]; exact H) | exact H
                        have Ny419 := Aside0.mk hy419
                        clear hy419
                        replace H := Option.bind_eq_some_iff.mp H
                        obtain ⟨⟨t422, t423, t424, t425, t426, t427, t428, t429⟩, A990, H⟩ := H
                        replace H : (if t417 = 0 then (if t429 = 0 then (if (!(t422 == t403) || ((!(t423 == t404) || (!(t424 == t405))) || ((!(t425 == t406) || (!(t426 == t407))) || ((!(t427 == t408) || (!(t428 == t409))))))) = true then (none) else (potbanklaw01_WareNarrows.l0 kj28 l2 (wrap64 (t381 + t388)) y400 (wrap64 (x11_1 + 1)) t380 t381 t382 t383 t384 t385 t386 t404 t405)) else (none)) else (none)) = some r := H
                        have A99 := Aside0.mk A990
                        clear A990
                        by_cases c100 : t417 = 0
                        · rw [if_pos c100] at H
                          have c100b0 : (t417 == 0) = true := beq_iff_eq.mpr c100
                          have c100b1 : (t417 != 0) = false := bne_eq_false_iff_eq.mpr c100
                          clear c100
                          by_cases c101 : t429 = 0
                          · rw [if_pos c101] at H
                            have c101b0 : (t429 == 0) = true := beq_iff_eq.mpr c101
                            have c101b1 : (t429 != 0) = false := bne_eq_false_iff_eq.mpr c101
                            clear c101
                            by_cases c102 : (!(t422 == t403) || ((!(t423 == t404) || (!(t424 == t405))) || ((!(t425 == t406) || (!(t426 == t407))) || ((!(t427 == t408) || (!(t428 == t409))))))) = true
                            · rw [if_pos c102] at H
                              exact absurd H (by simp)
                            · rw [if_neg c102] at H
                              have c102b0 : (!(t422 == t403) || ((!(t423 == t404) || (!(t424 == t405))) || ((!(t425 == t406) || (!(t426 == t407))) || ((!(t427 == t408) || (!(t428 == t409))))))) = false := by simpa using c102
                              clear c102
                              have H' := Aside0.mk H
                              clear H
                              have hnb103 := NB411_387.out
                              have hnc103 := NB387_411.out
                              have hnb104 := NB411_389.out
                              have hnc104 := NB389_411.out
                              have hnb105 := NB411_399.out
                              have hnc105 := NB399_411.out
                              have hcz106_0 : wc.cell? ⟨gb411, 0, none⟩ = some (.int .i64 t403) := (blk_cell BK411.out 0).trans rfl
                              have hcz106_1 : wc.cell? ⟨gb411, 1, none⟩ = some (.int .i64 t404) := (blk_cell BK411.out 1).trans rfl
                              have hcz106_2 : wc.cell? ⟨gb411, 2, none⟩ = some (.int .i64 t405) := (blk_cell BK411.out 2).trans rfl
                              have hcz106_3 : wc.cell? ⟨gb411, 3, none⟩ = some (.int .i64 t406) := (blk_cell BK411.out 3).trans rfl
                              have hcz106_4 : wc.cell? ⟨gb411, 4, none⟩ = some (.int .i64 t407) := (blk_cell BK411.out 4).trans rfl
                              have hcz106_5 : wc.cell? ⟨gb411, 5, none⟩ = some (.int .i64 t408) := (blk_cell BK411.out 5).trans rfl
                              have hcz106_6 : wc.cell? ⟨gb411, 6, none⟩ = some (.int .i64 t409) := (blk_cell BK411.out 6).trans rfl
                              have hfz106_0 := blk_frozen BK411.out 0
                              have hfz106_1 := blk_frozen BK411.out 1
                              have hfz106_2 := blk_frozen BK411.out 2
                              have hfz106_3 := blk_frozen BK411.out 3
                              have hfz106_4 := blk_frozen BK411.out 4
                              have hfz106_5 := blk_frozen BK411.out 5
                              have hfz106_6 := blk_frozen BK411.out 6
                              have hnb107 := NB389_387.out
                              have hnc107 := NB387_389.out
                              have hnb108 := NB389_399.out
                              have hnc108 := NB399_389.out
                              have hcz109_0 : wc.cell? ⟨gb389, 0, none⟩ = some (.int .i64 x390000_1) := (blk_cell BK389.out 0).trans rfl
                              have hcz109_1 : wc.cell? ⟨gb389, 1, none⟩ = some (.int .i64 x390001_1) := (blk_cell BK389.out 1).trans rfl
                              have hfz109_0 := blk_frozen BK389.out 0
                              have hfz109_1 := blk_frozen BK389.out 1
                              go_wp2_with (first | ((with_reducible refine gate_callee (f := 37) rfl ?_); refine goesL_ (some 152) rfl rfl Try.func37 (by kernel_rfl) rfl #[.agg #[.int .i64 t403, .int .i64 t404, .int .i64 t405, .int .i64 t406, .int .i64 t407, .int .i64 t408, .int .i64 t409], .int .i64 99, .int .i64 (wrap64 (1 + t392))] rfl (by (try simp only [List.map_toArray, List.map_cons, List.map_nil]); first | done | rfl | (simp only [List.length_drop, List.length_take]; rfl)) ?_; (with_reducible refine (ware_Bar.calls t403 t404 t405 t406 t407 t408 t409 99 (wrap64 (1 + t392)) t412 t413 t414 t415 t416 t417 _ A98.out).mono ?_); rintro e w110 ⟨rfl, hb⟩; refine ⟨_, rfl, ?_⟩; replace HO_9 := Aside0.mk (Kd.R_below (by (with_reducible repeat (first | apply Kd.R_alloc | apply Kd.R_drewN | apply Kd.R_drew)); exact (Kd.R_mono (Kd.R_far (p := ⟨gb389, 1, none⟩) (Kd.R_far (p := ⟨gb389, 0, none⟩) (Kd.R_types HO_9.out BK389.out (by decide)) (fun _ hk => hk.2) (.int .i64 t404)) (fun _ hk => hk.2) (.int .i64 t405)) (fun _ h_ => h_.1))) hb); replace BK387 := Aside0.mk (blk_below (g := gb387) (o := .cells #[.int .i64 t380, .int .i64 t381, .int .i64 t382, .int .i64 t383, .int .i64 t384, .int .i64 t385, .int .i64 t386] 43 (0, 0)) (by (with_reducible repeat first | apply blk_drewN | apply blk_drew | apply blk_alloc); refine blk_far ?_ NB387_389.out _; (with_reducible repeat first | apply blk_drewN | apply blk_drew | apply blk_alloc); refine blk_far ?_ NB387_389.out _; (with_reducible repeat first | apply blk_drewN | apply blk_drew | apply blk_alloc); exact BK387.out) hb); replace BK389 := Aside0.mk (blk_below (g := gb389) (o := .cells #[.int .i64 t404, .int .i64 t405] 23 (0, 0)) (by (with_reducible repeat first | apply blk_drewN | apply blk_drew | apply blk_alloc); refine blk_put (cs := #[.int .i64 t404, .int .i64 x390001_1]) ?_ 1 _ rfl; (with_reducible repeat first | apply blk_drewN | apply blk_drew | apply blk_alloc); refine blk_put (cs := #[.int .i64 x390000_1, .int .i64 x390001_1]) ?_ 0 _ rfl; (with_reducible repeat first | apply blk_drewN | apply blk_drew | apply blk_alloc); exact BK389.out) hb); replace BK399 := Aside0.mk (blk_below (g := gb399) (o := .cells #[.int .i64 (wrap64 (1 + x11_1)), .int .i64 ji22, .int .i64 (wrap64 ((wrap64 (1 + t392)) + t394)), .int .i64 ji25, .int .i64 t398] 57 (0, 0)) (by (with_reducible repeat first | apply blk_drewN | apply blk_drew | apply blk_alloc); refine blk_far ?_ NB399_389.out _; (with_reducible repeat first | apply blk_drewN | apply blk_drew | apply blk_alloc); refine blk_far ?_ NB399_389.out _; (with_reducible repeat first | apply blk_drewN | apply blk_drew | apply blk_alloc); exact BK399.out) hb); replace BK411 := Aside0.mk (blk_below (g := gb411) (o := .cells #[.int .i64 t403, .int .i64 t404, .int .i64 t405, .int .i64 t406, .int .i64 t407, .int .i64 t408, .int .i64 t409] 43 (0, 0)) (by (with_reducible repeat first | apply blk_drewN | apply blk_drew | apply blk_alloc); refine blk_far ?_ NB411_389.out _; (with_reducible repeat first | apply blk_drewN | apply blk_drew | apply blk_alloc); refine blk_far ?_ NB411_389.out _; (with_reducible repeat first | apply blk_drewN | apply blk_drew | apply blk_alloc); exact BK411.out) hb); replace HB := Aside0.mk (below_step (by repeat (first | (with_reducible first | exact HB.out | apply below_alloc | apply pw_below_drewN | apply below_drew1 | refine below_set ?_ GE387.out | refine below_set ?_ GE389.out | refine below_set ?_ GE399.out | refine below_set ?_ GE411.out) | exact HB.out)) hb); (try clear hb); (try clear hb2); (try clear hk); (try clear hi)) | ((with_reducible refine gate_dst (N := 18) rfl ?_); refine box_event ?hg (N := 18) ?hd (cs := #[.int .i64 0, .int .i64 0, .int .i64 0, .int .i64 0, .int .i64 0]) (t := 57) ?hr ?_; (case hd => rfl); (case hg => rfl); (case hr => first | (go_simp; done) | (go_simp; rfl)); intro gb418 hg w111 hbox hb; replace HO_9 := Aside0.mk (Kd.R_below (Kd.R_elderB (by (with_reducible repeat (first | apply Kd.R_alloc | apply Kd.R_drewN | apply Kd.R_drew)); exact HO_9.out) gb418 (Nat.le_of_eq hg.symm)) hb); have BK418 := Aside0.mk (hbox); have GW418 := Aside0.mk ((by rw [hg]; exact (below_size (by repeat (first | (with_reducible first | exact HB.out | apply below_alloc | apply pw_below_drewN | apply below_drew1 | refine below_set ?_ GE387.out | refine below_set ?_ GE389.out | refine below_set ?_ GE399.out | refine below_set ?_ GE411.out) | exact HB.out))) : w.heap.size ≤ gb418)); have GE418 := Aside0.mk ((by rw [hg]; exact (below_size (by repeat (first | (with_reducible first | exact HB.out | apply below_alloc | apply pw_below_drewN | apply below_drew1 | refine below_set ?_ GE387.out | refine below_set ?_ GE389.out | refine below_set ?_ GE399.out | refine below_set ?_ GE411.out) | exact HB.out))) : w.heap.size ≤ gb418)); replace HB := Aside0.mk (below_step (by repeat (first | (with_reducible first | exact HB.out | apply below_alloc | apply pw_below_drewN | apply below_drew1 | refine below_set ?_ GE387.out | refine below_set ?_ GE389.out | refine below_set ?_ GE399.out | refine below_set ?_ GE411.out) | exact HB.out)) hb); have NB387_418 := Aside0.mk ((by rw [hg]; exact Nat.ne_of_lt (blk_lt (g := gb387) (o := .cells #[.int .i64 t380, .int .i64 t381, .int .i64 t382, .int .i64 t383, .int .i64 t384, .int .i64 t385, .int .i64 t386] 43 (0, 0)) (by (with_reducible repeat first | apply blk_drewN | apply blk_drew | apply blk_alloc); exact BK387.out)) : gb387 ≠ gb418)); have NB418_387 := Aside0.mk ((by rw [hg]; exact Nat.ne_of_gt (blk_lt (g := gb387) (o := .cells #[.int .i64 t380, .int .i64 t381, .int .i64 t382, .int .i64 t383, .int .i64 t384, .int .i64 t385, .int .i64 t386] 43 (0, 0)) (by (with_reducible repeat first | apply blk_drewN | apply blk_drew | apply blk_alloc); exact BK387.out)) : gb418 ≠ gb387)); replace BK387 := blkE BK387 hb; have NB389_418 := Aside0.mk ((by rw [hg]; exact Nat.ne_of_lt (blk_lt (g := gb389) (o := .cells #[.int .i64 t404, .int .i64 t405] 23 (0, 0)) (by (with_reducible repeat first | apply blk_drewN | apply blk_drew | apply blk_alloc); exact BK389.out)) : gb389 ≠ gb418)); have NB418_389 := Aside0.mk ((by rw [hg]; exact Nat.ne_of_gt (blk_lt (g := gb389) (o := .cells #[.int .i64 t404, .int .i64 t405] 23 (0, 0)) (by (with_reducible repeat first | apply blk_drewN | apply blk_drew | apply blk_alloc); exact BK389.out)) : gb418 ≠ gb389)); replace BK389 := blkE BK389 hb; have NB399_418 := Aside0.mk ((by rw [hg]; exact Nat.ne_of_lt (blk_lt (g := gb399) (o := .cells #[.int .i64 (wrap64 (1 + x11_1)), .int .i64 ji22, .int .i64 (wrap64 ((wrap64 (1 + t392)) + t394)), .int .i64 ji25, .int .i64 t398] 57 (0, 0)) (by (with_reducible repeat first | apply blk_drewN | apply blk_drew | apply blk_alloc); exact BK399.out)) : gb399 ≠ gb418)); have NB418_399 := Aside0.mk ((by rw [hg]; exact Nat.ne_of_gt (blk_lt (g := gb399) (o := .cells #[.int .i64 (wrap64 (1 + x11_1)), .int .i64 ji22, .int .i64 (wrap64 ((wrap64 (1 + t392)) + t394)), .int .i64 ji25, .int .i64 t398] 57 (0, 0)) (by (with_reducible repeat first | apply blk_drewN | apply blk_drew | apply blk_alloc); exact BK399.out)) : gb418 ≠ gb399)); replace BK399 := blkE BK399 hb; have NB411_418 := Aside0.mk ((by rw [hg]; exact Nat.ne_of_lt (blk_lt (g := gb411) (o := .cells #[.int .i64 t403, .int .i64 t404, .int .i64 t405, .int .i64 t406, .int .i64 t407, .int .i64 t408, .int .i64 t409] 43 (0, 0)) (by (with_reducible repeat first | apply blk_drewN | apply blk_drew | apply blk_alloc); exact BK411.out)) : gb411 ≠ gb418)); have NB418_411 := Aside0.mk ((by rw [hg]; exact Nat.ne_of_gt (blk_lt (g := gb411) (o := .cells #[.int .i64 t403, .int .i64 t404, .int .i64 t405, .int .i64 t406, .int .i64 t407, .int .i64 t408, .int .i64 t409] 43 (0, 0)) (by (with_reducible repeat first | apply blk_drewN | apply blk_drew | apply blk_alloc); exact BK411.out)) : gb418 ≠ gb411)); replace BK411 := blkE BK411 hb; clear hb hbox hg; have hnb112 := NB418_387.out; have hnc112 := NB387_418.out; have hnb113 := NB418_389.out; have hnc113 := NB389_418.out; have hnb114 := NB418_399.out; have hnc114 := NB399_418.out; have hnb115 := NB418_411.out; have hnc115 := NB411_418.out; obtain ⟨hcz116_0, hcz116_1, hcz116_2, hcz116_3, hcz116_4⟩ := cells5 BK418.out; obtain ⟨hfz116_0, hfz116_1, hfz116_2, hfz116_3, hfz116_4⟩ := froz5 BK418.out; obtain ⟨hcz117_0, hcz117_1, hcz117_2, hcz117_3, hcz117_4, hcz117_5, hcz117_6⟩ := cells7 BK411.out; obtain ⟨hfz117_0, hfz117_1, hfz117_2, hfz117_3, hfz117_4, hfz117_5, hfz117_6⟩ := froz7 BK411.out) | ((with_reducible refine gate_dst (N := 158) rfl ?_); refine Kd.R_lit k57 _ 57 ?hg (N := 158) ?hd (xs := ([(⟨t412, (⟨t413, t414⟩ : S23), (⟨t415, t416⟩ : S23)⟩ : S57)] : List (S57))) (inner := [.int .i64 t412, .int .i64 t413, .int .i64 t414, .int .i64 t415, .int .i64 t416]) (ok := fun _ => True) (okp := fun _ => True) ?hr ?hp (fun _ hk => hk) trivial (Below.refl _ _) (Nat.le_refl _) (by simp) ?_; (case hd => rfl); (case hg => rfl); (case hr => first | (go_simp; done) | (go_simp; rfl)); (case hp => exact (Reps.c5 (show Kd.M k57 _ _ _ (⟨t412, (⟨t413, t414⟩ : S23), (⟨t415, t416⟩ : S23)⟩ : S57) [.int .i64 t412, .int .i64 t413, .int .i64 t414, .int .i64 t415, .int .i64 t416] from (k57_mkM _ _ _ (⟨t412, (⟨t413, t414⟩ : S23), (⟨t415, t416⟩ : S23)⟩ : S57) )) (Reps.none _ _))); intro v420 w118 ho119 hb hg_ hnew_; clear hg_ hnew_; (first | rw [← Ny419.out] at ho119 | (simp only [Int.reduceToNat] at ho119; rw [← Ny419.out] at ho119)); have HO421 := Aside0.mk (Kd.R_lower (Kd.R_newB (Kd.R_newB (Kd.R_new' ho119 (Kd.R_lt (by (with_reducible repeat (first | apply Kd.R_alloc | apply Kd.R_drewN | apply Kd.R_drew)); exact (Kd.R_mono (Kd.R_far (p := ⟨gb418, 4, none⟩) (Kd.R_far (p := ⟨gb418, 3, none⟩) (Kd.R_far (p := ⟨gb418, 2, none⟩) (Kd.R_far (p := ⟨gb418, 1, none⟩) (Kd.R_far (p := ⟨gb418, 0, none⟩) (Kd.R_mono HO_9.out (fun k_ hk => (⟨hk, hk.2⟩ : _ ∧ k_ ≠ gb418))) (fun _ hk => hk.2) (.int .i64 t412)) (fun _ hk => hk.2) (.int .i64 t413)) (fun _ hk => hk.2) (.int .i64 t414)) (fun _ hk => hk.2) (.int .i64 t415)) (fun _ hk => hk.2) (.int .i64 t416)) (fun _ h_ => h_.1))))) (g := gb399) (o := .cells #[.int .i64 (wrap64 (1 + x11_1)), .int .i64 ji22, .int .i64 (wrap64 ((wrap64 (1 + t392)) + t394)), .int .i64 ji25, .int .i64 t398] 57 (0, 0)) (by (with_reducible repeat first | apply blk_drewN | apply blk_drew | apply blk_alloc); refine blk_far ?_ NB399_418.out _; (with_reducible repeat first | apply blk_drewN | apply blk_drew | apply blk_alloc); refine blk_far ?_ NB399_418.out _; (with_reducible repeat first | apply blk_drewN | apply blk_drew | apply blk_alloc); refine blk_far ?_ NB399_418.out _; (with_reducible repeat first | apply blk_drewN | apply blk_drew | apply blk_alloc); refine blk_far ?_ NB399_418.out _; (with_reducible repeat first | apply blk_drewN | apply blk_drew | apply blk_alloc); refine blk_far ?_ NB399_418.out _; (with_reducible repeat first | apply blk_drewN | apply blk_drew | apply blk_alloc); exact BK399.out)) (g := gb418) (o := .cells #[.int .i64 t412, .int .i64 t413, .int .i64 t414, .int .i64 t415, .int .i64 t416] 57 (0, 0)) (by (with_reducible repeat first | apply blk_drewN | apply blk_drew | apply blk_alloc); refine blk_put (cs := #[.int .i64 t412, .int .i64 t413, .int .i64 t414, .int .i64 t415, .int .i64 0]) ?_ 4 _ rfl; (with_reducible repeat first | apply blk_drewN | apply blk_drew | apply blk_alloc); refine blk_put (cs := #[.int .i64 t412, .int .i64 t413, .int .i64 t414, .int .i64 0, .int .i64 0]) ?_ 3 _ rfl; (with_reducible repeat first | apply blk_drewN | apply blk_drew | apply blk_alloc); refine blk_put (cs := #[.int .i64 t412, .int .i64 t413, .int .i64 0, .int .i64 0, .int .i64 0]) ?_ 2 _ rfl; (with_reducible repeat first | apply blk_drewN | apply blk_drew | apply blk_alloc); refine blk_put (cs := #[.int .i64 t412, .int .i64 0, .int .i64 0, .int .i64 0, .int .i64 0]) ?_ 1 _ rfl; (with_reducible repeat first | apply blk_drewN | apply blk_drew | apply blk_alloc); refine blk_put (cs := #[.int .i64 0, .int .i64 0, .int .i64 0, .int .i64 0, .int .i64 0]) ?_ 0 _ rfl; (with_reducible repeat first | apply blk_drewN | apply blk_drew | apply blk_alloc); exact BK418.out)) (below_size (by repeat (first | (with_reducible first | exact HB.out | apply below_alloc | apply pw_below_drewN | apply below_drew1 | refine below_set ?_ GE387.out | refine below_set ?_ GE389.out | refine below_set ?_ GE399.out | refine below_set ?_ GE411.out | refine below_set ?_ GE418.out) | exact HB.out)))); replace HO_9 := Aside0.mk (Kd.R_elder' (by (with_reducible repeat (first | apply Kd.R_alloc | apply Kd.R_drewN | apply Kd.R_drew)); exact (Kd.R_mono (Kd.R_far (p := ⟨gb418, 4, none⟩) (Kd.R_far (p := ⟨gb418, 3, none⟩) (Kd.R_far (p := ⟨gb418, 2, none⟩) (Kd.R_far (p := ⟨gb418, 1, none⟩) (Kd.R_far (p := ⟨gb418, 0, none⟩) (Kd.R_mono HO_9.out (fun k_ hk => (⟨hk, hk.2⟩ : _ ∧ k_ ≠ gb418))) (fun _ hk => hk.2) (.int .i64 t412)) (fun _ hk => hk.2) (.int .i64 t413)) (fun _ hk => hk.2) (.int .i64 t414)) (fun _ hk => hk.2) (.int .i64 t415)) (fun _ hk => hk.2) (.int .i64 t416)) (fun _ h_ => h_.1))) (Kd.R_base ho119) hb); replace BK387 := Aside0.mk (blk_below (g := gb387) (o := .cells #[.int .i64 t380, .int .i64 t381, .int .i64 t382, .int .i64 t383, .int .i64 t384, .int .i64 t385, .int .i64 t386] 43 (0, 0)) (by (with_reducible repeat first | apply blk_drewN | apply blk_drew | apply blk_alloc); refine blk_far ?_ NB387_418.out _; (with_reducible repeat first | apply blk_drewN | apply blk_drew | apply blk_alloc); refine blk_far ?_ NB387_418.out _; (with_reducible repeat first | apply blk_drewN | apply blk_drew | apply blk_alloc); refine blk_far ?_ NB387_418.out _; (with_reducible repeat first | apply blk_drewN | apply blk_drew | apply blk_alloc); refine blk_far ?_ NB387_418.out _; (with_reducible repeat first | apply blk_drewN | apply blk_drew | apply blk_alloc); refine blk_far ?_ NB387_418.out _; (with_reducible repeat first | apply blk_drewN | apply blk_drew | apply blk_alloc); exact BK387.out) hb); replace BK389 := Aside0.mk (blk_below (g := gb389) (o := .cells #[.int .i64 t404, .int .i64 t405] 23 (0, 0)) (by (with_reducible repeat first | apply blk_drewN | apply blk_drew | apply blk_alloc); refine blk_far ?_ NB389_418.out _; (with_reducible repeat first | apply blk_drewN | apply blk_drew | apply blk_alloc); refine blk_far ?_ NB389_418.out _; (with_reducible repeat first | apply blk_drewN | apply blk_drew | apply blk_alloc); refine blk_far ?_ NB389_418.out _; (with_reducible repeat first | apply blk_drewN | apply blk_drew | apply blk_alloc); refine blk_far ?_ NB389_418.out _; (with_reducible repeat first | apply blk_drewN | apply blk_drew | apply blk_alloc); refine blk_far ?_ NB389_418.out _; (with_reducible repeat first | apply blk_drewN | apply blk_drew | apply blk_alloc); exact BK389.out) hb); replace BK399 := Aside0.mk (blk_below (g := gb399) (o := .cells #[.int .i64 (wrap64 (1 + x11_1)), .int .i64 ji22, .int .i64 (wrap64 ((wrap64 (1 + t392)) + t394)), .int .i64 ji25, .int .i64 t398] 57 (0, 0)) (by (with_reducible repeat first | apply blk_drewN | apply blk_drew | apply blk_alloc); refine blk_far ?_ NB399_418.out _; (with_reducible repeat first | apply blk_drewN | apply blk_drew | apply blk_alloc); refine blk_far ?_ NB399_418.out _; (with_reducible repeat first | apply blk_drewN | apply blk_drew | apply blk_alloc); refine blk_far ?_ NB399_418.out _; (with_reducible repeat first | apply blk_drewN | apply blk_drew | apply blk_alloc); refine blk_far ?_ NB399_418.out _; (with_reducible repeat first | apply blk_drewN | apply blk_drew | apply blk_alloc); refine blk_far ?_ NB399_418.out _; (with_reducible repeat first | apply blk_drewN | apply blk_drew | apply blk_alloc); exact BK399.out) hb); replace BK411 := Aside0.mk (blk_below (g := gb411) (o := .cells #[.int .i64 t403, .int .i64 t404, .int .i64 t405, .int .i64 t406, .int .i64 t407, .int .i64 t408, .int .i64 t409] 43 (0, 0)) (by (with_reducible repeat first | apply blk_drewN | apply blk_drew | apply blk_alloc); refine blk_far ?_ NB411_418.out _; (with_reducible repeat first | apply blk_drewN | apply blk_drew | apply blk_alloc); refine blk_far ?_ NB411_418.out _; (with_reducible repeat first | apply blk_drewN | apply blk_drew | apply blk_alloc); refine blk_far ?_ NB411_418.out _; (with_reducible repeat first | apply blk_drewN | apply blk_drew | apply blk_alloc); refine blk_far ?_ NB411_418.out _; (with_reducible repeat first | apply blk_drewN | apply blk_drew | apply blk_alloc); refine blk_far ?_ NB411_418.out _; (with_reducible repeat first | apply blk_drewN | apply blk_drew | apply blk_alloc); exact BK411.out) hb); replace BK418 := Aside0.mk (blk_below (g := gb418) (o := .cells #[.int .i64 t412, .int .i64 t413, .int .i64 t414, .int .i64 t415, .int .i64 t416] 57 (0, 0)) (by (with_reducible repeat first | apply blk_drewN | apply blk_drew | apply blk_alloc); refine blk_put (cs := #[.int .i64 t412, .int .i64 t413, .int .i64 t414, .int .i64 t415, .int .i64 0]) ?_ 4 _ rfl; (with_reducible repeat first | apply blk_drewN | apply blk_drew | apply blk_alloc); refine blk_put (cs := #[.int .i64 t412, .int .i64 t413, .int .i64 t414, .int .i64 0, .int .i64 0]) ?_ 3 _ rfl; (with_reducible repeat first | apply blk_drewN | apply blk_drew | apply blk_alloc); refine blk_put (cs := #[.int .i64 t412, .int .i64 t413, .int .i64 0, .int .i64 0, .int .i64 0]) ?_ 2 _ rfl; (with_reducible repeat first | apply blk_drewN | apply blk_drew | apply blk_alloc); refine blk_put (cs := #[.int .i64 t412, .int .i64 0, .int .i64 0, .int .i64 0, .int .i64 0]) ?_ 1 _ rfl; (with_reducible repeat first | apply blk_drewN | apply blk_drew | apply blk_alloc); refine blk_put (cs := #[.int .i64 0, .int .i64 0, .int .i64 0, .int .i64 0, .int .i64 0]) ?_ 0 _ rfl; (with_reducible repeat first | apply blk_drewN | apply blk_drew | apply blk_alloc); exact BK418.out) hb); replace HB := Aside0.mk (below_step (by repeat (first | (with_reducible first | exact HB.out | apply below_alloc | apply pw_below_drewN | apply below_drew1 | refine below_set ?_ GE387.out | refine below_set ?_ GE389.out | refine below_set ?_ GE399.out | refine below_set ?_ GE411.out | refine below_set ?_ GE418.out) | exact HB.out)) hb); clear hb ho119; obtain ⟨Ao120, co120, eo120⟩ := Kd.R_slice HO421.out; subst eo120) | ((with_reducible refine gate_callee (f := 36) rfl ?_); refine goesL_ (some 159) rfl rfl Try.func36 (by kernel_rfl) rfl #[.agg #[.int .i64 t403, .int .i64 t404, .int .i64 t405, .int .i64 t406, .int .i64 t407, .int .i64 t408, .int .i64 t409], .slice Ao120 y419.length co120] rfl (by (try simp only [List.map_toArray, List.map_cons, List.map_nil]); first | done | rfl | (simp only [List.length_drop, List.length_take]; rfl)) ?_; (with_reducible refine (ware_Narrow.calls t403 t404 t405 t406 t407 t408 t409 _ _ y419 t422 t423 t424 t425 t426 t427 t428 t429 _ ?side1 ?side2 A99.out).mono ?_); (case side1 => repeat (first | exact (Kd.R_reads' HO421.out).2.2 | (with_reducible refine Kd.C_alloc ?_ _) | (with_reducible refine Kd.C_drewN ?_ _) | (with_reducible refine Kd.C_drew ?_))); (case side2 => exact (Kd.R_reads' HO421.out).2.1); rintro e w121 ⟨rfl, hb⟩; refine ⟨_, rfl, ?_⟩; replace HO_9 := Aside0.mk (Kd.R_below (by (with_reducible repeat (first | apply Kd.R_alloc | apply Kd.R_drewN | apply Kd.R_drew)); exact HO_9.out) hb); replace HO421 := Aside0.mk (Kd.R_below (by (with_reducible repeat (first | apply Kd.R_alloc | apply Kd.R_drewN | apply Kd.R_drew)); exact HO421.out) hb); replace BK387 := blkE BK387 hb; replace BK389 := blkE BK389 hb; replace BK399 := blkE BK399 hb; replace BK411 := blkE BK411 hb; replace BK418 := blkE BK418 hb; replace HB := Aside0.mk (below_step (by repeat (first | (with_reducible first | exact HB.out | apply below_alloc | apply pw_below_drewN | apply below_drew1 | refine below_set ?_ GE387.out | refine below_set ?_ GE389.out | refine below_set ?_ GE399.out | refine below_set ?_ GE411.out | refine below_set ?_ GE418.out) | exact HB.out)) hb); (try clear hb); (try clear hb2); (try clear hk); (try clear hi)) | ((with_reducible refine gate_dst (N := 20) rfl ?_); refine box_event ?hg (N := 20) ?hd (cs := #[.int .i64 0, .int .i64 0, .int .i64 0, .int .i64 0, .int .i64 0, .int .i64 0, .int .i64 0]) (t := 43) ?hr ?_; (case hd => rfl); (case hg => rfl); (case hr => first | (go_simp; done) | (go_simp; rfl)); intro gb430 hg w122 hbox hb; replace HO_9 := Aside0.mk (Kd.R_below (by (with_reducible repeat (first | apply Kd.R_alloc | apply Kd.R_drewN | apply Kd.R_drew)); exact HO_9.out) hb); replace HO421 := Aside0.mk (Kd.R_below (by (with_reducible repeat (first | apply Kd.R_alloc | apply Kd.R_drewN | apply Kd.R_drew)); exact HO421.out) hb); have BK430 := Aside0.mk (hbox); have GW430 := Aside0.mk ((by rw [hg]; exact (below_size (by repeat (first | (with_reducible first | exact HB.out | apply below_alloc | apply pw_below_drewN | apply below_drew1 | refine below_set ?_ GE387.out | refine below_set ?_ GE389.out | refine below_set ?_ GE399.out | refine below_set ?_ GE411.out | refine below_set ?_ GE418.out) | exact HB.out))) : w.heap.size ≤ gb430)); have GE430 := Aside0.mk ((by rw [hg]; exact (below_size (by repeat (first | (with_reducible first | exact HB.out | apply below_alloc | apply pw_below_drewN | apply below_drew1 | refine below_set ?_ GE387.out | refine below_set ?_ GE389.out | refine below_set ?_ GE399.out | refine below_set ?_ GE411.out | refine below_set ?_ GE418.out) | exact HB.out))) : w.heap.size ≤ gb430)); replace HB := Aside0.mk (below_step (by repeat (first | (with_reducible first | exact HB.out | apply below_alloc | apply pw_below_drewN | apply below_drew1 | refine below_set ?_ GE387.out | refine below_set ?_ GE389.out | refine below_set ?_ GE399.out | refine below_set ?_ GE411.out | refine below_set ?_ GE418.out) | exact HB.out)) hb); have NB387_430 := Aside0.mk ((by rw [hg]; exact Nat.ne_of_lt (blk_lt (g := gb387) (o := .cells #[.int .i64 t380, .int .i64 t381, .int .i64 t382, .int .i64 t383, .int .i64 t384, .int .i64 t385, .int .i64 t386] 43 (0, 0)) (by (with_reducible repeat first | apply blk_drewN | apply blk_drew | apply blk_alloc); exact BK387.out)) : gb387 ≠ gb430)); have NB430_387 := Aside0.mk ((by rw [hg]; exact Nat.ne_of_gt (blk_lt (g := gb387) (o := .cells #[.int .i64 t380, .int .i64 t381, .int .i64 t382, .int .i64 t383, .int .i64 t384, .int .i64 t385, .int .i64 t386] 43 (0, 0)) (by (with_reducible repeat first | apply blk_drewN | apply blk_drew | apply blk_alloc); exact BK387.out)) : gb430 ≠ gb387)); replace BK387 := blkE BK387 hb; have NB389_430 := Aside0.mk ((by rw [hg]; exact Nat.ne_of_lt (blk_lt (g := gb389) (o := .cells #[.int .i64 t404, .int .i64 t405] 23 (0, 0)) (by (with_reducible repeat first | apply blk_drewN | apply blk_drew | apply blk_alloc); exact BK389.out)) : gb389 ≠ gb430)); have NB430_389 := Aside0.mk ((by rw [hg]; exact Nat.ne_of_gt (blk_lt (g := gb389) (o := .cells #[.int .i64 t404, .int .i64 t405] 23 (0, 0)) (by (with_reducible repeat first | apply blk_drewN | apply blk_drew | apply blk_alloc); exact BK389.out)) : gb430 ≠ gb389)); replace BK389 := blkE BK389 hb; have NB399_430 := Aside0.mk ((by rw [hg]; exact Nat.ne_of_lt (blk_lt (g := gb399) (o := .cells #[.int .i64 (wrap64 (1 + x11_1)), .int .i64 ji22, .int .i64 (wrap64 ((wrap64 (1 + t392)) + t394)), .int .i64 ji25, .int .i64 t398] 57 (0, 0)) (by (with_reducible repeat first | apply blk_drewN | apply blk_drew | apply blk_alloc); exact BK399.out)) : gb399 ≠ gb430)); have NB430_399 := Aside0.mk ((by rw [hg]; exact Nat.ne_of_gt (blk_lt (g := gb399) (o := .cells #[.int .i64 (wrap64 (1 + x11_1)), .int .i64 ji22, .int .i64 (wrap64 ((wrap64 (1 + t392)) + t394)), .int .i64 ji25, .int .i64 t398] 57 (0, 0)) (by (with_reducible repeat first | apply blk_drewN | apply blk_drew | apply blk_alloc); exact BK399.out)) : gb430 ≠ gb399)); replace BK399 := blkE BK399 hb; have NB411_430 := Aside0.mk ((by rw [hg]; exact Nat.ne_of_lt (blk_lt (g := gb411) (o := .cells #[.int .i64 t403, .int .i64 t404, .int .i64 t405, .int .i64 t406, .int .i64 t407, .int .i64 t408, .int .i64 t409] 43 (0, 0)) (by (with_reducible repeat first | apply blk_drewN | apply blk_drew | apply blk_alloc); exact BK411.out)) : gb411 ≠ gb430)); have NB430_411 := Aside0.mk ((by rw [hg]; exact Nat.ne_of_gt (blk_lt (g := gb411) (o := .cells #[.int .i64 t403, .int .i64 t404, .int .i64 t405, .int .i64 t406, .int .i64 t407, .int .i64 t408, .int .i64 t409] 43 (0, 0)) (by (with_reducible repeat first | apply blk_drewN | apply blk_drew | apply blk_alloc); exact BK411.out)) : gb430 ≠ gb411)); replace BK411 := blkE BK411 hb; have NB418_430 := Aside0.mk ((by rw [hg]; exact Nat.ne_of_lt (blk_lt (g := gb418) (o := .cells #[.int .i64 t412, .int .i64 t413, .int .i64 t414, .int .i64 t415, .int .i64 t416] 57 (0, 0)) (by (with_reducible repeat first | apply blk_drewN | apply blk_drew | apply blk_alloc); exact BK418.out)) : gb418 ≠ gb430)); have NB430_418 := Aside0.mk ((by rw [hg]; exact Nat.ne_of_gt (blk_lt (g := gb418) (o := .cells #[.int .i64 t412, .int .i64 t413, .int .i64 t414, .int .i64 t415, .int .i64 t416] 57 (0, 0)) (by (with_reducible repeat first | apply blk_drewN | apply blk_drew | apply blk_alloc); exact BK418.out)) : gb430 ≠ gb418)); replace BK418 := blkE BK418 hb; clear hb hbox hg; have hnb123 := NB430_387.out; have hnc123 := NB387_430.out; have hnb124 := NB430_389.out; have hnc124 := NB389_430.out; have hnb125 := NB430_399.out; have hnc125 := NB399_430.out; have hnb126 := NB430_411.out; have hnc126 := NB411_430.out; have hnb127 := NB430_418.out; have hnc127 := NB418_430.out; obtain ⟨hcz128_0, hcz128_1, hcz128_2, hcz128_3, hcz128_4, hcz128_5, hcz128_6⟩ := cells7 BK430.out; obtain ⟨hfz128_0, hfz128_1, hfz128_2, hfz128_3, hfz128_4, hfz128_5, hfz128_6⟩ := froz7 BK430.out; obtain ⟨hcz129_0, hcz129_1, hcz129_2, hcz129_3, hcz129_4, hcz129_5, hcz129_6⟩ := cells7 BK411.out; obtain ⟨hfz129_0, hfz129_1, hfz129_2, hfz129_3, hfz129_4, hfz129_5, hfz129_6⟩ := froz7 BK411.out))
                              go_roundg kj28
                              case measure => have := HK1.out; have := HJ14.out; have := HJ28.out; omega
                              case rel => exact ⟨(y400), (wrap64 (x11_1 + 1)), (t404), (t405), (by first | rfl | (simp; done) | (simp [*]; done)), H', ⟨by have := HK1.out; have := HJ14.out; have := HJ28.out; omega⟩, ⟨by (with_reducible repeat (first | apply Kd.R_alloc | apply Kd.R_drewN | apply Kd.R_drew)); exact Kd.R_mono (Kd.R_far (p := ⟨gb430, 6, none⟩) (Kd.R_far (p := ⟨gb430, 5, none⟩) (Kd.R_far (p := ⟨gb430, 4, none⟩) (Kd.R_far (p := ⟨gb430, 3, none⟩) (Kd.R_far (p := ⟨gb430, 2, none⟩) (Kd.R_far (p := ⟨gb430, 1, none⟩) (Kd.R_far (p := ⟨gb430, 0, none⟩) (Kd.R_types HO_9.out BK430.out (by decide)) (fun _ hk => hk.2) (.int .i64 t422)) (fun _ hk => hk.2) (.int .i64 t423)) (fun _ hk => hk.2) (.int .i64 t424)) (fun _ hk => hk.2) (.int .i64 t425)) (fun _ hk => hk.2) (.int .i64 t426)) (fun _ hk => hk.2) (.int .i64 t427)) (fun _ hk => hk.2) (.int .i64 t428)) (fun _ hk => trivial)⟩, ⟨by (with_reducible repeat first | apply blk_drewN | apply blk_drew | apply blk_alloc); refine blk_far ?_ NB387_430.out _; (with_reducible repeat first | apply blk_drewN | apply blk_drew | apply blk_alloc); refine blk_far ?_ NB387_430.out _; (with_reducible repeat first | apply blk_drewN | apply blk_drew | apply blk_alloc); refine blk_far ?_ NB387_430.out _; (with_reducible repeat first | apply blk_drewN | apply blk_drew | apply blk_alloc); refine blk_far ?_ NB387_430.out _; (with_reducible repeat first | apply blk_drewN | apply blk_drew | apply blk_alloc); refine blk_far ?_ NB387_430.out _; (with_reducible repeat first | apply blk_drewN | apply blk_drew | apply blk_alloc); refine blk_far ?_ NB387_430.out _; (with_reducible repeat first | apply blk_drewN | apply blk_drew | apply blk_alloc); refine blk_far ?_ NB387_430.out _; (with_reducible repeat first | apply blk_drewN | apply blk_drew | apply blk_alloc); exact BK387.out⟩, ⟨by (with_reducible repeat first | apply blk_drewN | apply blk_drew | apply blk_alloc); refine blk_far ?_ NB389_430.out _; (with_reducible repeat first | apply blk_drewN | apply blk_drew | apply blk_alloc); refine blk_far ?_ NB389_430.out _; (with_reducible repeat first | apply blk_drewN | apply blk_drew | apply blk_alloc); refine blk_far ?_ NB389_430.out _; (with_reducible repeat first | apply blk_drewN | apply blk_drew | apply blk_alloc); refine blk_far ?_ NB389_430.out _; (with_reducible repeat first | apply blk_drewN | apply blk_drew | apply blk_alloc); refine blk_far ?_ NB389_430.out _; (with_reducible repeat first | apply blk_drewN | apply blk_drew | apply blk_alloc); refine blk_far ?_ NB389_430.out _; (with_reducible repeat first | apply blk_drewN | apply blk_drew | apply blk_alloc); refine blk_far ?_ NB389_430.out _; (with_reducible repeat first | apply blk_drewN | apply blk_drew | apply blk_alloc); exact BK389.out⟩, ⟨by repeat (first | (with_reducible first | exact HB.out | apply below_alloc | apply pw_below_drewN | apply below_drew1 | refine below_set ?_ GE387.out | refine below_set ?_ GE389.out | refine below_set ?_ GE399.out | refine below_set ?_ GE411.out | refine below_set ?_ GE418.out | refine below_set ?_ GE430.out) | exact HB.out)⟩⟩
                          · rw [if_neg c101] at H
                            exact absurd H (by simp)
                        · rw [if_neg c100] at H
                          exact absurd H (by simp)
                · rw [if_neg c27] at H
                  exact absurd H (by simp)
              · rw [if_neg c19] at H
                exact absurd H (by simp)
            · rw [if_neg c18] at H
              exact absurd H (by simp)
          · replace c17 := Bool.eq_false_iff.mpr c17
            subst c17
            have H1 : ((potbanklaw01_sane.f).bind fun t390 => (some t390)) = some r := by rw [if_neg (show ¬ (false = true) by decide)] at H; exact H
            clear H
            have H := H1
            clear H1
            replace H := Option.bind_eq_some_iff.mp H
            obtain ⟨t390, A1300, H⟩ := H
            replace H : (some t390) = some r := H
            have A130 := Aside0.mk A1300
            clear A1300
            obtain rfl := Option.some.inj H
            go_wp2_with (first | ((with_reducible refine gate_callee (f := 19) rfl ?_); refine goesL_ (some 173) rfl rfl Try.func19 (by kernel_rfl) rfl #[] rfl (by (try simp only [List.map_toArray, List.map_cons, List.map_nil]); first | done | rfl | (simp only [List.length_drop, List.length_take]; rfl)) ?_; (with_reducible refine (potbanklaw01_sane.calls  t390 _ A130.out).mono ?_); rintro e w131 ⟨rfl, hb⟩; refine ⟨_, rfl, ?_⟩; replace HO_9 := Aside0.mk (Kd.R_below (by (with_reducible repeat (first | apply Kd.R_alloc | apply Kd.R_drewN | apply Kd.R_drew)); exact HO_9.out) hb); replace BK387 := blkE BK387 hb; replace BK389 := blkE BK389 hb; replace HB := Aside0.mk (below_step (by repeat (first | (with_reducible first | exact HB.out | apply below_alloc | apply pw_below_drewN | apply below_drew1 | refine below_set ?_ GE387.out | refine below_set ?_ GE389.out) | exact HB.out)) hb); (try clear hb); (try clear hb2); (try clear hk); (try clear hi)))
            go_ret
            exact ⟨by first | rfl | (simp [errW_none, errW_some] <;> rfl) | (simp [*, errW_none, errW_some] <;> rfl), by repeat (first | (with_reducible first | exact HB.out | apply below_alloc | apply pw_below_drewN | apply below_drew1 | refine below_set ?_ GE387.out | refine below_set ?_ GE389.out) | exact HB.out)⟩

end Go.Proofs.Ytcgokimagimamaa.F
