/- Written by a program of mine out of the translation: what functions answer; Lean checks it. -/
import Derived.Test.YtcgokimagimamaaMRowCh1
import Derived.Test.YtcgokimagimamaaMRowCh2
import Derived.Test.YtcgokimagimamaaF39
import Derived.Test.YtcgokimagimamaaF40
import Derived.Test.YtcgokimagimamaaF41
import Derived.Test.YtcgokimagimamaaF44
import Derived.Test.YtcgokimagimamaaGH
namespace Go.Proofs.Ytcgokimagimamaa.F
open Go.RowKit Go.Proofs.YtcgokimagimamaaW.PrintWords Go.Proofs.YtcgokimagimamaaW.PrintLast Go.Proofs.YtcgokimagimamaaW.PrintMore
attribute [local go_sem] max2_int min2_int max_two min_two max_three min_three max_four min_four   -- for this text's walks alone
set_option linter.unusedVariables false
set_option linter.unusedSimpArgs false
attribute [local go_sem high] eqA25 eqA43
/-! ### potbanklaw01_WareChecks: function 9 -/
def potbanklaw01_WareChecks.l0 : Nat → Int → List (S25) → List (S43) → Option (Bool)
  | 0, _, _, _ => none
  | k + 1, x15, x524000, x524001 => if x15 < (x524001.length : Int) then (if 0 ≤ x15 then ((ware_CheckBody.f ((rd_T43 x524001 x15).f0) ((rd_T43 x524001 x15).f1.f0) ((rd_T43 x524001 x15).f1.f1) ((rd_T43 x524001 x15).f2.f0) ((rd_T43 x524001 x15).f2.f1) ((rd_T43 x524001 x15).f3.f0) ((rd_T43 x524001 x15).f3.f1)).bind fun t574 => ((potbankref01_CheckBody.f ((rd_T43 x524001 x15).f0) ((rd_T43 x524001 x15).f1.f0) ((rd_T43 x524001 x15).f1.f1) ((rd_T43 x524001 x15).f2.f0) ((rd_T43 x524001 x15).f2.f1) ((rd_T43 x524001 x15).f3.f0) ((rd_T43 x524001 x15).f3.f1)).bind fun t576 => (if t574 = t576 then (potbanklaw01_WareChecks.l0 k (wrap64 (x15 + 1)) x524000 x524001) else (none)))) else (none)) else ((potbanklaw01_sane.f).bind fun t577 => (some t577))
def potbanklaw01_WareChecks.f (k : Nat) (l0_0 : List (S25)) (l0_1 : List (S43)) (a1_0 : Int) (a1_1 : Int) (a1_2 : Int) (a1_3 : Int) (a1_4 : Int) (a1_5 : Int) (a1_6 : Int) (a1_7 : Int) (a1_8 : Int) (a1_9 : Int) (a1_10 : Int) (a2 : Int) : Option (Bool) := (ware_Shape.f k l0_0 l0_1 a2).bind fun bt525 => ((potbankref01_Shape.f k l0_0 l0_1 a2).bind fun bt538 => ((ware_Body.f k l0_0 l0_1 a2).bind fun bt551 => ((potbankref01_Body.f k l0_0 l0_1 a2).bind fun bt560 => (if (!(bt525.1 == bt538.1) || ((!(bt525.2.1 == bt538.2.1) || (!(bt525.2.2.1 == bt538.2.2.1))) || ((!(bt525.2.2.2.1 == bt538.2.2.2.1) || (!(bt525.2.2.2.2.1 == bt538.2.2.2.2.1))) || ((!(bt525.2.2.2.2.2.1 == bt538.2.2.2.2.2.1) || (!(bt525.2.2.2.2.2.2.1 == bt538.2.2.2.2.2.2.1))) || (!(bt525.2.2.2.2.2.2.2.1 == bt538.2.2.2.2.2.2.2.1) || ((!(bt525.2.2.2.2.2.2.2.2.1 == bt538.2.2.2.2.2.2.2.2.1) || (!(bt525.2.2.2.2.2.2.2.2.2.1 == bt538.2.2.2.2.2.2.2.2.2.1))) || (!(bt525.2.2.2.2.2.2.2.2.2.2.1 == bt538.2.2.2.2.2.2.2.2.2.2.1)))))))) = true then (none) else (if bt525.2.2.2.2.2.2.2.2.2.2.2 = bt538.2.2.2.2.2.2.2.2.2.2.2 then (if (!(bt551.1 == bt560.1) || ((!(bt551.2.1 == bt560.2.1) || (!(bt551.2.2.1 == bt560.2.2.1))) || ((!(bt551.2.2.2.1 == bt560.2.2.2.1) || (!(bt551.2.2.2.2.1 == bt560.2.2.2.2.1))) || ((!(bt551.2.2.2.2.2.1 == bt560.2.2.2.2.2.1) || (!(bt551.2.2.2.2.2.2.1 == bt560.2.2.2.2.2.2.1))))))) = true then (none) else (if bt551.2.2.2.2.2.2.2 = bt560.2.2.2.2.2.2.2 then ((ware_CheckShape.f a1_0 a1_1 a1_2 a1_3 a1_4 a1_5 a1_6 a1_7 a1_8 a1_9 a1_10).bind fun t569 => ((potbankref01_CheckShape.f a1_0 a1_1 a1_2 a1_3 a1_4 a1_5 a1_6 a1_7 a1_8 a1_9 a1_10).bind fun t570 => (if t569 = t570 then ((ware_Check.f k l0_0 l0_1).bind fun t571 => ((potbankref01_Check.f k l0_0 l0_1).bind fun t572 => (if t571 = t572 then (potbanklaw01_WareChecks.l0 k 0 l0_0 l0_1) else (none)))) else (none)))) else (none))) else (none))))))
theorem potbanklaw01_WareChecks.mono_l : ∀ k, (∀ y0 y1 y2, LeO (potbanklaw01_WareChecks.l0 k y0 y1 y2) (potbanklaw01_WareChecks.l0 (k + 1) y0 y1 y2))
  | 0 => fun _ _ _ r h => by simp [potbanklaw01_WareChecks.l0] at h
  | k + 1 => by
    have ih0 := potbanklaw01_WareChecks.mono_l k
    · intro y0 y1 y2
      unfold potbanklaw01_WareChecks.l0
      repeat' first
      | (with_reducible exact ih0 _ _ _)
      | (with_reducible exact potbankref01_Body.mono _ _ _ _)
      | (with_reducible exact potbankref01_Check.mono _ _ _)
      | (with_reducible exact potbankref01_Shape.mono _ _ _ _)
      | (with_reducible exact ware_Body.mono _ _ _ _)
      | (with_reducible exact ware_Check.mono _ _ _)
      | (with_reducible exact ware_Shape.mono _ _ _ _)
      | (with_reducible exact LeO.refl _)
      | (with_reducible exact LeO.none _)
      | (with_reducible refine LeO.ite ?_ ?_)
      | (with_reducible refine LeO.bind ?_ (fun _ => ?_))
      | exact ih0 _ _ _
      | exact potbankref01_Body.mono _ _ _ _
      | exact potbankref01_Check.mono _ _ _
      | exact potbankref01_Shape.mono _ _ _ _
      | exact ware_Body.mono _ _ _ _
      | exact ware_Check.mono _ _ _
      | exact ware_Shape.mono _ _ _ _
      | exact LeO.none _
      | refine LeO.ite ?_ ?_
      | refine LeO.bind ?_ (fun _ => ?_)
theorem potbanklaw01_WareChecks.mono : ∀ a0 a1 a2 a3 a4 a5 a6 a7 a8 a9 a10 a11 a12 a13 k, LeO (potbanklaw01_WareChecks.f k a0 a1 a2 a3 a4 a5 a6 a7 a8 a9 a10 a11 a12 a13) (potbanklaw01_WareChecks.f (k + 1) a0 a1 a2 a3 a4 a5 a6 a7 a8 a9 a10 a11 a12 a13) := by
  intro a0 a1 a2 a3 a4 a5 a6 a7 a8 a9 a10 a11 a12 a13 k
  have ih0 := potbanklaw01_WareChecks.mono_l k
  unfold potbanklaw01_WareChecks.f
  repeat' first
      | (with_reducible exact ih0 _ _ _)
      | (with_reducible exact potbankref01_Body.mono _ _ _ _)
      | (with_reducible exact potbankref01_Check.mono _ _ _)
      | (with_reducible exact potbankref01_Shape.mono _ _ _ _)
      | (with_reducible exact ware_Body.mono _ _ _ _)
      | (with_reducible exact ware_Check.mono _ _ _)
      | (with_reducible exact ware_Shape.mono _ _ _ _)
      | (with_reducible exact LeO.refl _)
      | (with_reducible exact LeO.none _)
      | (with_reducible refine LeO.ite ?_ ?_)
      | (with_reducible refine LeO.bind ?_ (fun _ => ?_))
      | exact ih0 _ _ _
      | exact potbankref01_Body.mono _ _ _ _
      | exact potbankref01_Check.mono _ _ _
      | exact potbankref01_Shape.mono _ _ _ _
      | exact ware_Body.mono _ _ _ _
      | exact ware_Check.mono _ _ _
      | exact ware_Shape.mono _ _ _ _
      | exact LeO.none _
      | refine LeO.ite ?_ ?_
      | refine LeO.bind ?_ (fun _ => ?_)
def potbanklaw01_WareChecks.T5 : Bool × List (List Nat × List Nat) := (true, [([], []), ([], []), ([0, 1], [0, 1]), ([2], [2]), ([3], [3]), ([3], [3]), ([4, 5, 3], [3, 4, 5]), ([3, 6], [3, 6]), ([7, 3], [7]), ([8], [8]), ([8], [8]), ([9, 10, 8], [8, 9, 10]), ([8, 11], [8, 11]), ([12, 8], [12]), ([13], [13]), ([13], [13]), ([14, 15, 13], [13, 14, 15]), ([13, 16], [13, 16]), ([17, 13], [17]), ([18], [18]), ([19, 18, 18], [18, 19]), ([18], [18]), ([21, 20, 18], [18, 21]), ([20, 22, 18], [18, 20, 22]), ([18, 23], [18, 23]), ([24, 22], [24]), ([25], [25]), ([26, 25, 25], [25, 26]), ([25], [25]), ([28, 27, 25], [25, 28]), ([27, 29, 25], [25, 27, 29]), ([25, 30], [25, 30])])
def potbanklaw01_WareChecks.B5 : List Nat := [0, 0, 3, 7, 15, 15, 63, 127, 255, 511, 511, 2047, 4095, 8191, 16383, 16383, 65535, 131071, 262143, 524287, 1048575, 524287, 4194303, 8388607, 16777215, 33554431, 67108863, 134217727, 67108863, 536870911, 1073741823, 2147483647]
theorem potbanklaw01_WareChecks.tab5 : rtab .any (opsOf Try.f9 5) = potbanklaw01_WareChecks.T5 := by kernel_rfl
theorem potbanklaw01_WareChecks.bits5 : waitsOk potbanklaw01_WareChecks.T5.2 potbanklaw01_WareChecks.B5 = true := by kernel_rfl
def potbanklaw01_WareChecks.T10 : Bool × List (List Nat × List Nat) := (true, [([], []), ([0], [0]), ([], []), ([1, 2], [1, 2]), ([3], [3]), ([4], [4]), ([], []), ([6], [6]), ([], []), ([7, 8], [7, 8]), ([9], [9]), ([10, 5], [10]), ([5, 11], [5, 11])])
def potbanklaw01_WareChecks.B10 : List Nat := [0, 1, 0, 7, 15, 31, 0, 64, 0, 448, 960, 2047, 4095]
theorem potbanklaw01_WareChecks.tab10 : rtab .any (opsOf Try.f9 10) = potbanklaw01_WareChecks.T10 := by kernel_rfl
theorem potbanklaw01_WareChecks.bits10 : waitsOk potbanklaw01_WareChecks.T10.2 potbanklaw01_WareChecks.B10 = true := by kernel_rfl
set_option maxHeartbeats 8000000 in
set_option maxRecDepth 100000 in
theorem potbanklaw01_WareChecks.calls (k : Nat) (A0_0 : Option Addr) (c0_0 : Nat) (l0_0 : List (S25)) (A0_1 : Option Addr) (c0_1 : Nat) (l0_1 : List (S43)) (a1_0 : Int) (a1_1 : Int) (a1_2 : Int) (a1_3 : Int) (a1_4 : Int) (a1_5 : Int) (a1_6 : Int) (a1_7 : Int) (a1_8 : Int) (a1_9 : Int) (a1_10 : Int) (a2 : Int) (r : Bool) (w : World) (hr0_0 : Kd.C k25 w A0_0 l0_0.length l0_0) (hc0_0 : l0_0.length ≤ c0_0) (hr0_1 : Kd.C k43 w A0_1 l0_1.length l0_1) (hc0_1 : l0_1.length ≤ c0_1) (h : potbanklaw01_WareChecks.f k l0_0 l0_1 a1_0 a1_1 a1_2 a1_3 a1_4 a1_5 a1_6 a1_7 a1_8 a1_9 a1_10 a2 = some r) :
    Calls Try.prog 9 #[.agg #[.slice A0_0 l0_0.length c0_0, .slice A0_1 l0_1.length c0_1], .agg #[.int .i64 a1_0, .int .i64 a1_1, .int .i64 a1_2, .int .i64 a1_3, .int .i64 a1_4, .int .i64 a1_5, .int .i64 a1_6, .int .i64 a1_7, .int .i64 a1_8, .int .i64 a1_9, .int .i64 a1_10], .int .i64 a2] w fun e w' => e = .returned (.bool r) ∧ Below w.heap.size w w' := by
  have hu66 := Try.underlying66
  have hu25 := Try.underlying25
  have hu43 := Try.underlying43
  have HR0_0 := Aside0.mk hr0_0
  have HC0_0 := Aside0.mk hc0_0
  clear hr0_0 hc0_0
  have HR0_1 := Aside0.mk hr0_1
  have HC0_1 := Aside0.mk hc0_1
  clear hr0_1 hc0_1
  have HB := Aside0.mk (Below.refl w.heap.size w)
  have H : ((ware_Shape.f k l0_0 l0_1 a2).bind fun bt525 => ((potbankref01_Shape.f k l0_0 l0_1 a2).bind fun bt538 => ((ware_Body.f k l0_0 l0_1 a2).bind fun bt551 => ((potbankref01_Body.f k l0_0 l0_1 a2).bind fun bt560 => (if (!(bt525.1 == bt538.1) || ((!(bt525.2.1 == bt538.2.1) || (!(bt525.2.2.1 == bt538.2.2.1))) || ((!(bt525.2.2.2.1 == bt538.2.2.2.1) || (!(bt525.2.2.2.2.1 == bt538.2.2.2.2.1))) || ((!(bt525.2.2.2.2.2.1 == bt538.2.2.2.2.2.1) || (!(bt525.2.2.2.2.2.2.1 == bt538.2.2.2.2.2.2.1))) || (!(bt525.2.2.2.2.2.2.2.1 == bt538.2.2.2.2.2.2.2.1) || ((!(bt525.2.2.2.2.2.2.2.2.1 == bt538.2.2.2.2.2.2.2.2.1) || (!(bt525.2.2.2.2.2.2.2.2.2.1 == bt538.2.2.2.2.2.2.2.2.2.1))) || (!(bt525.2.2.2.2.2.2.2.2.2.2.1 == bt538.2.2.2.2.2.2.2.2.2.2.1)))))))) = true then (none) else (if bt525.2.2.2.2.2.2.2.2.2.2.2 = bt538.2.2.2.2.2.2.2.2.2.2.2 then (if (!(bt551.1 == bt560.1) || ((!(bt551.2.1 == bt560.2.1) || (!(bt551.2.2.1 == bt560.2.2.1))) || ((!(bt551.2.2.2.1 == bt560.2.2.2.1) || (!(bt551.2.2.2.2.1 == bt560.2.2.2.2.1))) || ((!(bt551.2.2.2.2.2.1 == bt560.2.2.2.2.2.1) || (!(bt551.2.2.2.2.2.2.1 == bt560.2.2.2.2.2.2.1))))))) = true then (none) else (if bt551.2.2.2.2.2.2.2 = bt560.2.2.2.2.2.2.2 then ((ware_CheckShape.f a1_0 a1_1 a1_2 a1_3 a1_4 a1_5 a1_6 a1_7 a1_8 a1_9 a1_10).bind fun t569 => ((potbankref01_CheckShape.f a1_0 a1_1 a1_2 a1_3 a1_4 a1_5 a1_6 a1_7 a1_8 a1_9 a1_10).bind fun t570 => (if t569 = t570 then ((ware_Check.f k l0_0 l0_1).bind fun t571 => ((potbankref01_Check.f k l0_0 l0_1).bind fun t572 => (if t571 = t572 then (potbanklaw01_WareChecks.l0 k 0 l0_0 l0_1) else (none)))) else (none)))) else (none))) else (none))))))) = some r := h
  clear h
  replace H := Option.bind_eq_some_iff.mp H
  obtain ⟨⟨t525, t526, t527, t528, t529, t530, t531, t532, t533, t534, t535, t536⟩, A40, H⟩ := H
  replace H : ((potbankref01_Shape.f k l0_0 l0_1 a2).bind fun bt538 => ((ware_Body.f k l0_0 l0_1 a2).bind fun bt551 => ((potbankref01_Body.f k l0_0 l0_1 a2).bind fun bt560 => (if (!(t525 == bt538.1) || ((!(t526 == bt538.2.1) || (!(t527 == bt538.2.2.1))) || ((!(t528 == bt538.2.2.2.1) || (!(t529 == bt538.2.2.2.2.1))) || ((!(t530 == bt538.2.2.2.2.2.1) || (!(t531 == bt538.2.2.2.2.2.2.1))) || (!(t532 == bt538.2.2.2.2.2.2.2.1) || ((!(t533 == bt538.2.2.2.2.2.2.2.2.1) || (!(t534 == bt538.2.2.2.2.2.2.2.2.2.1))) || (!(t535 == bt538.2.2.2.2.2.2.2.2.2.2.1)))))))) = true then (none) else (if t536 = bt538.2.2.2.2.2.2.2.2.2.2.2 then (if (!(bt551.1 == bt560.1) || ((!(bt551.2.1 == bt560.2.1) || (!(bt551.2.2.1 == bt560.2.2.1))) || ((!(bt551.2.2.2.1 == bt560.2.2.2.1) || (!(bt551.2.2.2.2.1 == bt560.2.2.2.2.1))) || ((!(bt551.2.2.2.2.2.1 == bt560.2.2.2.2.2.1) || (!(bt551.2.2.2.2.2.2.1 == bt560.2.2.2.2.2.2.1))))))) = true then (none) else (if bt551.2.2.2.2.2.2.2 = bt560.2.2.2.2.2.2.2 then ((ware_CheckShape.f a1_0 a1_1 a1_2 a1_3 a1_4 a1_5 a1_6 a1_7 a1_8 a1_9 a1_10).bind fun t569 => ((potbankref01_CheckShape.f a1_0 a1_1 a1_2 a1_3 a1_4 a1_5 a1_6 a1_7 a1_8 a1_9 a1_10).bind fun t570 => (if t569 = t570 then ((ware_Check.f k l0_0 l0_1).bind fun t571 => ((potbankref01_Check.f k l0_0 l0_1).bind fun t572 => (if t571 = t572 then (potbanklaw01_WareChecks.l0 k 0 l0_0 l0_1) else (none)))) else (none)))) else (none))) else (none)))))) = some r := H
  have A4 := Aside0.mk A40
  clear A40
  replace H := Option.bind_eq_some_iff.mp H
  obtain ⟨⟨t538, t539, t540, t541, t542, t543, t544, t545, t546, t547, t548, t549⟩, A50, H⟩ := H
  replace H : ((ware_Body.f k l0_0 l0_1 a2).bind fun bt551 => ((potbankref01_Body.f k l0_0 l0_1 a2).bind fun bt560 => (if (!(t525 == t538) || ((!(t526 == t539) || (!(t527 == t540))) || ((!(t528 == t541) || (!(t529 == t542))) || ((!(t530 == t543) || (!(t531 == t544))) || (!(t532 == t545) || ((!(t533 == t546) || (!(t534 == t547))) || (!(t535 == t548)))))))) = true then (none) else (if t536 = t549 then (if (!(bt551.1 == bt560.1) || ((!(bt551.2.1 == bt560.2.1) || (!(bt551.2.2.1 == bt560.2.2.1))) || ((!(bt551.2.2.2.1 == bt560.2.2.2.1) || (!(bt551.2.2.2.2.1 == bt560.2.2.2.2.1))) || ((!(bt551.2.2.2.2.2.1 == bt560.2.2.2.2.2.1) || (!(bt551.2.2.2.2.2.2.1 == bt560.2.2.2.2.2.2.1))))))) = true then (none) else (if bt551.2.2.2.2.2.2.2 = bt560.2.2.2.2.2.2.2 then ((ware_CheckShape.f a1_0 a1_1 a1_2 a1_3 a1_4 a1_5 a1_6 a1_7 a1_8 a1_9 a1_10).bind fun t569 => ((potbankref01_CheckShape.f a1_0 a1_1 a1_2 a1_3 a1_4 a1_5 a1_6 a1_7 a1_8 a1_9 a1_10).bind fun t570 => (if t569 = t570 then ((ware_Check.f k l0_0 l0_1).bind fun t571 => ((potbankref01_Check.f k l0_0 l0_1).bind fun t572 => (if t571 = t572 then (potbanklaw01_WareChecks.l0 k 0 l0_0 l0_1) else (none)))) else (none)))) else (none))) else (none))))) = some r := H
  have A5 := Aside0.mk A50
  clear A50
  replace H := Option.bind_eq_some_iff.mp H
  obtain ⟨⟨t551, t552, t553, t554, t555, t556, t557, t558⟩, A60, H⟩ := H
  replace H : ((potbankref01_Body.f k l0_0 l0_1 a2).bind fun bt560 => (if (!(t525 == t538) || ((!(t526 == t539) || (!(t527 == t540))) || ((!(t528 == t541) || (!(t529 == t542))) || ((!(t530 == t543) || (!(t531 == t544))) || (!(t532 == t545) || ((!(t533 == t546) || (!(t534 == t547))) || (!(t535 == t548)))))))) = true then (none) else (if t536 = t549 then (if (!(t551 == bt560.1) || ((!(t552 == bt560.2.1) || (!(t553 == bt560.2.2.1))) || ((!(t554 == bt560.2.2.2.1) || (!(t555 == bt560.2.2.2.2.1))) || ((!(t556 == bt560.2.2.2.2.2.1) || (!(t557 == bt560.2.2.2.2.2.2.1))))))) = true then (none) else (if t558 = bt560.2.2.2.2.2.2.2 then ((ware_CheckShape.f a1_0 a1_1 a1_2 a1_3 a1_4 a1_5 a1_6 a1_7 a1_8 a1_9 a1_10).bind fun t569 => ((potbankref01_CheckShape.f a1_0 a1_1 a1_2 a1_3 a1_4 a1_5 a1_6 a1_7 a1_8 a1_9 a1_10).bind fun t570 => (if t569 = t570 then ((ware_Check.f k l0_0 l0_1).bind fun t571 => ((potbankref01_Check.f k l0_0 l0_1).bind fun t572 => (if t571 = t572 then (potbanklaw01_WareChecks.l0 k 0 l0_0 l0_1) else (none)))) else (none)))) else (none))) else (none)))) = some r := H
  have A6 := Aside0.mk A60
  clear A60
  replace H := Option.bind_eq_some_iff.mp H
  obtain ⟨⟨t560, t561, t562, t563, t564, t565, t566, t567⟩, A70, H⟩ := H
  replace H : (if (!(t525 == t538) || ((!(t526 == t539) || (!(t527 == t540))) || ((!(t528 == t541) || (!(t529 == t542))) || ((!(t530 == t543) || (!(t531 == t544))) || (!(t532 == t545) || ((!(t533 == t546) || (!(t534 == t547))) || (!(t535 == t548)))))))) = true then (none) else (if t536 = t549 then (if (!(t551 == t560) || ((!(t552 == t561) || (!(t553 == t562))) || ((!(t554 == t563) || (!(t555 == t564))) || ((!(t556 == t565) || (!(t557 == t566))))))) = true then (none) else (if t558 = t567 then ((ware_CheckShape.f a1_0 a1_1 a1_2 a1_3 a1_4 a1_5 a1_6 a1_7 a1_8 a1_9 a1_10).bind fun t569 => ((potbankref01_CheckShape.f a1_0 a1_1 a1_2 a1_3 a1_4 a1_5 a1_6 a1_7 a1_8 a1_9 a1_10).bind fun t570 => (if t569 = t570 then ((ware_Check.f k l0_0 l0_1).bind fun t571 => ((potbankref01_Check.f k l0_0 l0_1).bind fun t572 => (if t571 = t572 then (potbanklaw01_WareChecks.l0 k 0 l0_0 l0_1) else (none)))) else (none)))) else (none))) else (none))) = some r := H
  have A7 := Aside0.mk A70
  clear A70
  by_cases c8 : (!(t525 == t538) || ((!(t526 == t539) || (!(t527 == t540))) || ((!(t528 == t541) || (!(t529 == t542))) || ((!(t530 == t543) || (!(t531 == t544))) || (!(t532 == t545) || ((!(t533 == t546) || (!(t534 == t547))) || (!(t535 == t548)))))))) = true
  · rw [if_pos c8] at H
    have c8b0 : (!(t525 == t538) || ((!(t526 == t539) || (!(t527 == t540))) || ((!(t528 == t541) || (!(t529 == t542))) || ((!(t530 == t543) || (!(t531 == t544))) || (!(t532 == t545) || ((!(t533 == t546) || (!(t534 == t547))) || (!(t535 == t548)))))))) = true := c8
    clear c8
    exact absurd H (by simp)
  · rw [if_neg c8] at H
    have c8b0 : (!(t525 == t538) || ((!(t526 == t539) || (!(t527 == t540))) || ((!(t528 == t541) || (!(t529 == t542))) || ((!(t530 == t543) || (!(t531 == t544))) || (!(t532 == t545) || ((!(t533 == t546) || (!(t534 == t547))) || (!(t535 == t548)))))))) = false := by simpa using c8
    clear c8
    by_cases c9 : t536 = t549
    · rw [if_pos c9] at H
      have c9b0 : (t536 == t549) = true := beq_iff_eq.mpr c9
      have c9b1 : (t536 != t549) = false := bne_eq_false_iff_eq.mpr c9
      clear c9
      by_cases c10 : (!(t551 == t560) || ((!(t552 == t561) || (!(t553 == t562))) || ((!(t554 == t563) || (!(t555 == t564))) || ((!(t556 == t565) || (!(t557 == t566))))))) = true
      · rw [if_pos c10] at H
        have c10b0 : (!(t551 == t560) || ((!(t552 == t561) || (!(t553 == t562))) || ((!(t554 == t563) || (!(t555 == t564))) || ((!(t556 == t565) || (!(t557 == t566))))))) = true := c10
        clear c10
        exact absurd H (by simp)
      · rw [if_neg c10] at H
        have c10b0 : (!(t551 == t560) || ((!(t552 == t561) || (!(t553 == t562))) || ((!(t554 == t563) || (!(t555 == t564))) || ((!(t556 == t565) || (!(t557 == t566))))))) = false := by simpa using c10
        clear c10
        by_cases c11 : t558 = t567
        · rw [if_pos c11] at H
          have c11b0 : (t558 == t567) = true := beq_iff_eq.mpr c11
          have c11b1 : (t558 != t567) = false := bne_eq_false_iff_eq.mpr c11
          clear c11
          replace H := Option.bind_eq_some_iff.mp H
          obtain ⟨t569, A120, H⟩ := H
          replace H : ((potbankref01_CheckShape.f a1_0 a1_1 a1_2 a1_3 a1_4 a1_5 a1_6 a1_7 a1_8 a1_9 a1_10).bind fun t570 => (if t569 = t570 then ((ware_Check.f k l0_0 l0_1).bind fun t571 => ((potbankref01_Check.f k l0_0 l0_1).bind fun t572 => (if t571 = t572 then (potbanklaw01_WareChecks.l0 k 0 l0_0 l0_1) else (none)))) else (none))) = some r := H
          have A12 := Aside0.mk A120
          clear A120
          replace H := Option.bind_eq_some_iff.mp H
          obtain ⟨t570, A130, H⟩ := H
          replace H : (if t569 = t570 then ((ware_Check.f k l0_0 l0_1).bind fun t571 => ((potbankref01_Check.f k l0_0 l0_1).bind fun t572 => (if t571 = t572 then (potbanklaw01_WareChecks.l0 k 0 l0_0 l0_1) else (none)))) else (none)) = some r := H
          have A13 := Aside0.mk A130
          clear A130
          by_cases c14 : t569 = t570
          · rw [if_pos c14] at H
            have c14b0 : (t569 == t570) = true := beq_iff_eq.mpr c14
            have c14b1 : (t569 != t570) = false := bne_eq_false_iff_eq.mpr c14
            clear c14
            replace H := Option.bind_eq_some_iff.mp H
            obtain ⟨t571, A150, H⟩ := H
            replace H : ((potbankref01_Check.f k l0_0 l0_1).bind fun t572 => (if t571 = t572 then (potbanklaw01_WareChecks.l0 k 0 l0_0 l0_1) else (none))) = some r := H
            have A15 := Aside0.mk A150
            clear A150
            replace H := Option.bind_eq_some_iff.mp H
            obtain ⟨t572, A160, H⟩ := H
            replace H : (if t571 = t572 then (potbanklaw01_WareChecks.l0 k 0 l0_0 l0_1) else (none)) = some r := H
            have A16 := Aside0.mk A160
            clear A160
            by_cases c17 : t571 = t572
            · rw [if_pos c17] at H
              have c17b0 : (t571 == t572) = true := beq_iff_eq.mpr c17
              have c17b1 : (t571 != t572) = false := bne_eq_false_iff_eq.mpr c17
              clear c17
              have H' := Aside0.mk H
              clear H
              go_enter Try.func9, Try.ntmps9
              try go_wp2_with (first | ((with_reducible refine gate_dst (N := 3) rfl ?_); refine box_event ?hg (N := 3) ?hd (cs := #[.slice A0_0 l0_0.length c0_0, .slice A0_1 l0_1.length c0_1]) (t := 66) ?hr ?_; (case hd => rfl); (case hg => rfl); (case hr => first | (go_simp; done) | (go_simp; rfl)); intro gb523 hg w18 hbox hb; have BK523 := Aside0.mk (hbox); have GW523 := Aside0.mk ((by rw [hg]; exact (below_size (by repeat (first | (with_reducible first | exact HB.out | apply below_alloc | apply pw_below_drewN | apply below_drew1) | exact HB.out))) : w.heap.size ≤ gb523)); have GE523 := Aside0.mk ((by rw [hg]; exact (below_size (by repeat (first | (with_reducible first | exact HB.out | apply below_alloc | apply pw_below_drewN | apply below_drew1) | exact HB.out))) : w.heap.size ≤ gb523)); replace HB := Aside0.mk (below_step (by repeat (first | (with_reducible first | exact HB.out | apply below_alloc | apply pw_below_drewN | apply below_drew1) | exact HB.out)) hb); clear hb hbox hg) | ((with_reducible refine gate_dst (N := 4) rfl ?_); refine box_event ?hg (N := 4) ?hd (cs := #[.int .i64 a1_0, .int .i64 a1_1, .int .i64 a1_2, .int .i64 a1_3, .int .i64 a1_4, .int .i64 a1_5, .int .i64 a1_6, .int .i64 a1_7, .int .i64 a1_8, .int .i64 a1_9, .int .i64 a1_10]) (t := 25) ?hr ?_; (case hd => rfl); (case hg => rfl); (case hr => first | (go_simp; done) | (go_simp; rfl)); intro gb524 hg w19 hbox hb; have BK524 := Aside0.mk (hbox); have GW524 := Aside0.mk ((by rw [hg]; exact (below_size (by repeat (first | (with_reducible first | exact HB.out | apply below_alloc | apply pw_below_drewN | apply below_drew1 | refine below_set ?_ GE523.out) | exact HB.out))) : w.heap.size ≤ gb524)); have GE524 := Aside0.mk ((by rw [hg]; exact (below_size (by repeat (first | (with_reducible first | exact HB.out | apply below_alloc | apply pw_below_drewN | apply below_drew1 | refine below_set ?_ GE523.out) | exact HB.out))) : w.heap.size ≤ gb524)); replace HB := Aside0.mk (below_step (by repeat (first | (with_reducible first | exact HB.out | apply below_alloc | apply pw_below_drewN | apply below_drew1 | refine below_set ?_ GE523.out) | exact HB.out)) hb); have NB523_524 := Aside0.mk ((by rw [hg]; exact Nat.ne_of_lt (blk_lt (g := gb523) (o := .cells #[.slice A0_0 l0_0.length c0_0, .slice A0_1 l0_1.length c0_1] 66 (0, 0)) (by (with_reducible repeat first | apply blk_drewN | apply blk_drew | apply blk_alloc); exact BK523.out)) : gb523 ≠ gb524)); have NB524_523 := Aside0.mk ((by rw [hg]; exact Nat.ne_of_gt (blk_lt (g := gb523) (o := .cells #[.slice A0_0 l0_0.length c0_0, .slice A0_1 l0_1.length c0_1] 66 (0, 0)) (by (with_reducible repeat first | apply blk_drewN | apply blk_drew | apply blk_alloc); exact BK523.out)) : gb524 ≠ gb523)); replace BK523 := blkE BK523 hb; clear hb hbox hg; have hnb20 := NB523_524.out; have hnc20 := NB524_523.out; obtain ⟨hcz21_0, hcz21_1⟩ := cells2 BK523.out; obtain ⟨hfz21_0, hfz21_1⟩ := froz2 BK523.out) | ((with_reducible refine gate_callee (f := 38) rfl ?_); refine goesL_ (some 19) rfl rfl Try.func38 (by kernel_rfl) rfl #[.agg #[.slice A0_0 l0_0.length c0_0, .slice A0_1 l0_1.length c0_1], .int .i64 a2] rfl (by (try simp only [List.map_toArray, List.map_cons, List.map_nil]); first | done | rfl | (simp only [List.length_drop, List.length_take]; rfl)) ?_; (with_reducible refine (ware_Shape.calls k _ _ l0_0 _ _ l0_1 a2 t525 t526 t527 t528 t529 t530 t531 t532 t533 t534 t535 t536 _ ?side1 ?side2 ?side3 ?side4 A4.out).mono ?_); (case side1 => repeat (first | exact (Kd.C_below HR0_0.out HB.out) | (with_reducible refine Kd.C_alloc ?_ _) | (with_reducible refine Kd.C_drewN ?_ _) | (with_reducible refine Kd.C_drew ?_))); (case side2 => exact HC0_0.out); (case side3 => repeat (first | exact (Kd.C_below HR0_1.out HB.out) | (with_reducible refine Kd.C_alloc ?_ _) | (with_reducible refine Kd.C_drewN ?_ _) | (with_reducible refine Kd.C_drew ?_))); (case side4 => exact HC0_1.out); rintro e w22 ⟨rfl, hb⟩; refine ⟨_, rfl, ?_⟩; replace BK523 := blkE BK523 hb; replace BK524 := blkE BK524 hb; replace HB := Aside0.mk (below_step (by repeat (first | (with_reducible first | exact HB.out | apply below_alloc | apply pw_below_drewN | apply below_drew1 | refine below_set ?_ GE523.out | refine below_set ?_ GE524.out) | exact HB.out)) hb); (try clear hb); (try clear hb2); (try clear hk); (try clear hi)) | ((with_reducible refine gate_dst (N := 7) rfl ?_); refine box_event ?hg (N := 7) ?hd (cs := #[.int .i64 0, .int .i64 0, .int .i64 0, .int .i64 0, .int .i64 0, .int .i64 0, .int .i64 0, .int .i64 0, .int .i64 0, .int .i64 0, .int .i64 0]) (t := 25) ?hr ?_; (case hd => rfl); (case hg => rfl); (case hr => first | (go_simp; done) | (go_simp; rfl)); intro gb537 hg w23 hbox hb; have BK537 := Aside0.mk (hbox); have GW537 := Aside0.mk ((by rw [hg]; exact (below_size (by repeat (first | (with_reducible first | exact HB.out | apply below_alloc | apply pw_below_drewN | apply below_drew1 | refine below_set ?_ GE523.out | refine below_set ?_ GE524.out) | exact HB.out))) : w.heap.size ≤ gb537)); have GE537 := Aside0.mk ((by rw [hg]; exact (below_size (by repeat (first | (with_reducible first | exact HB.out | apply below_alloc | apply pw_below_drewN | apply below_drew1 | refine below_set ?_ GE523.out | refine below_set ?_ GE524.out) | exact HB.out))) : w.heap.size ≤ gb537)); replace HB := Aside0.mk (below_step (by repeat (first | (with_reducible first | exact HB.out | apply below_alloc | apply pw_below_drewN | apply below_drew1 | refine below_set ?_ GE523.out | refine below_set ?_ GE524.out) | exact HB.out)) hb); have NB523_537 := Aside0.mk ((by rw [hg]; exact Nat.ne_of_lt (blk_lt (g := gb523) (o := .cells #[.slice A0_0 l0_0.length c0_0, .slice A0_1 l0_1.length c0_1] 66 (0, 0)) (by (with_reducible repeat first | apply blk_drewN | apply blk_drew | apply blk_alloc); exact BK523.out)) : gb523 ≠ gb537)); have NB537_523 := Aside0.mk ((by rw [hg]; exact Nat.ne_of_gt (blk_lt (g := gb523) (o := .cells #[.slice A0_0 l0_0.length c0_0, .slice A0_1 l0_1.length c0_1] 66 (0, 0)) (by (with_reducible repeat first | apply blk_drewN | apply blk_drew | apply blk_alloc); exact BK523.out)) : gb537 ≠ gb523)); replace BK523 := blkE BK523 hb; have NB524_537 := Aside0.mk ((by rw [hg]; exact Nat.ne_of_lt (blk_lt (g := gb524) (o := .cells #[.int .i64 a1_0, .int .i64 a1_1, .int .i64 a1_2, .int .i64 a1_3, .int .i64 a1_4, .int .i64 a1_5, .int .i64 a1_6, .int .i64 a1_7, .int .i64 a1_8, .int .i64 a1_9, .int .i64 a1_10] 25 (0, 0)) (by (with_reducible repeat first | apply blk_drewN | apply blk_drew | apply blk_alloc); exact BK524.out)) : gb524 ≠ gb537)); have NB537_524 := Aside0.mk ((by rw [hg]; exact Nat.ne_of_gt (blk_lt (g := gb524) (o := .cells #[.int .i64 a1_0, .int .i64 a1_1, .int .i64 a1_2, .int .i64 a1_3, .int .i64 a1_4, .int .i64 a1_5, .int .i64 a1_6, .int .i64 a1_7, .int .i64 a1_8, .int .i64 a1_9, .int .i64 a1_10] 25 (0, 0)) (by (with_reducible repeat first | apply blk_drewN | apply blk_drew | apply blk_alloc); exact BK524.out)) : gb537 ≠ gb524)); replace BK524 := blkE BK524 hb; clear hb hbox hg; have hnb24 := NB537_523.out; have hnc24 := NB523_537.out; have hnb25 := NB537_524.out; have hnc25 := NB524_537.out; obtain ⟨hcz26_0, hcz26_1, hcz26_2, hcz26_3, hcz26_4, hcz26_5, hcz26_6, hcz26_7, hcz26_8, hcz26_9, hcz26_10⟩ := cells11 BK537.out; obtain ⟨hfz26_0, hfz26_1, hfz26_2, hfz26_3, hfz26_4, hfz26_5, hfz26_6, hfz26_7, hfz26_8, hfz26_9, hfz26_10⟩ := froz11 BK537.out; obtain ⟨hcz27_0, hcz27_1⟩ := cells2 BK523.out; obtain ⟨hfz27_0, hfz27_1⟩ := froz2 BK523.out) | ((with_reducible refine gate_callee (f := 39) rfl ?_); refine goesL_ (some 25) rfl rfl Try.func39 (by kernel_rfl) rfl #[.agg #[.slice A0_0 l0_0.length c0_0, .slice A0_1 l0_1.length c0_1], .int .i64 a2] rfl (by (try simp only [List.map_toArray, List.map_cons, List.map_nil]); first | done | rfl | (simp only [List.length_drop, List.length_take]; rfl)) ?_; (with_reducible refine (potbankref01_Shape.calls k _ _ l0_0 _ _ l0_1 a2 t538 t539 t540 t541 t542 t543 t544 t545 t546 t547 t548 t549 _ ?side1 ?side2 ?side3 ?side4 A5.out).mono ?_); (case side1 => exact Kd.C_below HR0_0.out (by repeat (first | (with_reducible first | exact HB.out | apply below_alloc | apply pw_below_drewN | apply below_drew1 | refine below_set ?_ GE523.out | refine below_set ?_ GE524.out | refine below_set ?_ GE537.out) | exact HB.out))); (case side2 => exact HC0_0.out); (case side3 => exact Kd.C_below HR0_1.out (by repeat (first | (with_reducible first | exact HB.out | apply below_alloc | apply pw_below_drewN | apply below_drew1 | refine below_set ?_ GE523.out | refine below_set ?_ GE524.out | refine below_set ?_ GE537.out) | exact HB.out))); (case side4 => exact HC0_1.out); rintro e w28 ⟨rfl, hb⟩; refine ⟨_, rfl, ?_⟩; replace BK523 := Aside0.mk (blk_below (g := gb523) (o := .cells #[.slice A0_0 l0_0.length c0_0, .slice A0_1 l0_1.length c0_1] 66 (0, 0)) (by (with_reducible repeat first | apply blk_drewN | apply blk_drew | apply blk_alloc); refine blk_far ?_ NB523_537.out _; (with_reducible repeat first | apply blk_drewN | apply blk_drew | apply blk_alloc); refine blk_far ?_ NB523_537.out _; (with_reducible repeat first | apply blk_drewN | apply blk_drew | apply blk_alloc); refine blk_far ?_ NB523_537.out _; (with_reducible repeat first | apply blk_drewN | apply blk_drew | apply blk_alloc); refine blk_far ?_ NB523_537.out _; (with_reducible repeat first | apply blk_drewN | apply blk_drew | apply blk_alloc); refine blk_far ?_ NB523_537.out _; (with_reducible repeat first | apply blk_drewN | apply blk_drew | apply blk_alloc); refine blk_far ?_ NB523_537.out _; (with_reducible repeat first | apply blk_drewN | apply blk_drew | apply blk_alloc); refine blk_far ?_ NB523_537.out _; (with_reducible repeat first | apply blk_drewN | apply blk_drew | apply blk_alloc); refine blk_far ?_ NB523_537.out _; (with_reducible repeat first | apply blk_drewN | apply blk_drew | apply blk_alloc); refine blk_far ?_ NB523_537.out _; (with_reducible repeat first | apply blk_drewN | apply blk_drew | apply blk_alloc); refine blk_far ?_ NB523_537.out _; (with_reducible repeat first | apply blk_drewN | apply blk_drew | apply blk_alloc); refine blk_far ?_ NB523_537.out _; (with_reducible repeat first | apply blk_drewN | apply blk_drew | apply blk_alloc); exact BK523.out) hb); replace BK524 := Aside0.mk (blk_below (g := gb524) (o := .cells #[.int .i64 a1_0, .int .i64 a1_1, .int .i64 a1_2, .int .i64 a1_3, .int .i64 a1_4, .int .i64 a1_5, .int .i64 a1_6, .int .i64 a1_7, .int .i64 a1_8, .int .i64 a1_9, .int .i64 a1_10] 25 (0, 0)) (by (with_reducible repeat first | apply blk_drewN | apply blk_drew | apply blk_alloc); refine blk_far ?_ NB524_537.out _; (with_reducible repeat first | apply blk_drewN | apply blk_drew | apply blk_alloc); refine blk_far ?_ NB524_537.out _; (with_reducible repeat first | apply blk_drewN | apply blk_drew | apply blk_alloc); refine blk_far ?_ NB524_537.out _; (with_reducible repeat first | apply blk_drewN | apply blk_drew | apply blk_alloc); refine blk_far ?_ NB524_537.out _; (with_reducible repeat first | apply blk_drewN | apply blk_drew | apply blk_alloc); refine blk_far ?_ NB524_537.out _; (with_reducible repeat first | apply blk_drewN | apply blk_drew | apply blk_alloc); refine blk_far ?_ NB524_537.out _; (with_reducible repeat first | apply blk_drewN | apply blk_drew | apply blk_alloc); refine blk_far ?_ NB524_537.out _; (with_reducible repeat first | apply blk_drewN | apply blk_drew | apply blk_alloc); refine blk_far ?_ NB524_537.out _; (with_reducible repeat first | apply blk_drewN | apply blk_drew | apply blk_alloc); refine blk_far ?_ NB524_537.out _; (with_reducible repeat first | apply blk_drewN | apply blk_drew | apply blk_alloc); refine blk_far ?_ NB524_537.out _; (with_reducible repeat first | apply blk_drewN | apply blk_drew | apply blk_alloc); refine blk_far ?_ NB524_537.out _; (with_reducible repeat first | apply blk_drewN | apply blk_drew | apply blk_alloc); exact BK524.out) hb); replace BK537 := Aside0.mk (blk_below (g := gb537) (o := .cells #[.int .i64 t525, .int .i64 t526, .int .i64 t527, .int .i64 t528, .int .i64 t529, .int .i64 t530, .int .i64 t531, .int .i64 t532, .int .i64 t533, .int .i64 t534, .int .i64 t535] 25 (0, 0)) (by (with_reducible repeat first | apply blk_drewN | apply blk_drew | apply blk_alloc); refine blk_put (cs := #[.int .i64 t525, .int .i64 t526, .int .i64 t527, .int .i64 t528, .int .i64 t529, .int .i64 t530, .int .i64 t531, .int .i64 t532, .int .i64 t533, .int .i64 t534, .int .i64 0]) ?_ 10 _ rfl; (with_reducible repeat first | apply blk_drewN | apply blk_drew | apply blk_alloc); refine blk_put (cs := #[.int .i64 t525, .int .i64 t526, .int .i64 t527, .int .i64 t528, .int .i64 t529, .int .i64 t530, .int .i64 t531, .int .i64 t532, .int .i64 t533, .int .i64 0, .int .i64 0]) ?_ 9 _ rfl; (with_reducible repeat first | apply blk_drewN | apply blk_drew | apply blk_alloc); refine blk_put (cs := #[.int .i64 t525, .int .i64 t526, .int .i64 t527, .int .i64 t528, .int .i64 t529, .int .i64 t530, .int .i64 t531, .int .i64 t532, .int .i64 0, .int .i64 0, .int .i64 0]) ?_ 8 _ rfl; (with_reducible repeat first | apply blk_drewN | apply blk_drew | apply blk_alloc); refine blk_put (cs := #[.int .i64 t525, .int .i64 t526, .int .i64 t527, .int .i64 t528, .int .i64 t529, .int .i64 t530, .int .i64 t531, .int .i64 0, .int .i64 0, .int .i64 0, .int .i64 0]) ?_ 7 _ rfl; (with_reducible repeat first | apply blk_drewN | apply blk_drew | apply blk_alloc); refine blk_put (cs := #[.int .i64 t525, .int .i64 t526, .int .i64 t527, .int .i64 t528, .int .i64 t529, .int .i64 t530, .int .i64 0, .int .i64 0, .int .i64 0, .int .i64 0, .int .i64 0]) ?_ 6 _ rfl; (with_reducible repeat first | apply blk_drewN | apply blk_drew | apply blk_alloc); refine blk_put (cs := #[.int .i64 t525, .int .i64 t526, .int .i64 t527, .int .i64 t528, .int .i64 t529, .int .i64 0, .int .i64 0, .int .i64 0, .int .i64 0, .int .i64 0, .int .i64 0]) ?_ 5 _ rfl; (with_reducible repeat first | apply blk_drewN | apply blk_drew | apply blk_alloc); refine blk_put (cs := #[.int .i64 t525, .int .i64 t526, .int .i64 t527, .int .i64 t528, .int .i64 0, .int .i64 0, .int .i64 0, .int .i64 0, .int .i64 0, .int .i64 0, .int .i64 0]) ?_ 4 _ rfl; (with_reducible repeat first | apply blk_drewN | apply blk_drew | apply blk_alloc); refine blk_put (cs := #[.int .i64 t525, .int .i64 t526, .int .i64 t527, .int .i64 0, .int .i64 0, .int .i64 0, .int .i64 0, .int .i64 0, .int .i64 0, .int .i64 0, .int .i64 0]) ?_ 3 _ rfl; (with_reducible repeat first | apply blk_drewN | apply blk_drew | apply blk_alloc); refine blk_put (cs := #[.int .i64 t525, .int .i64 t526, .int .i64 0, .int .i64 0, .int .i64 0, .int .i64 0, .int .i64 0, .int .i64 0, .int .i64 0, .int .i64 0, .int .i64 0]) ?_ 2 _ rfl; (with_reducible repeat first | apply blk_drewN | apply blk_drew | apply blk_alloc); refine blk_put (cs := #[.int .i64 t525, .int .i64 0, .int .i64 0, .int .i64 0, .int .i64 0, .int .i64 0, .int .i64 0, .int .i64 0, .int .i64 0, .int .i64 0, .int .i64 0]) ?_ 1 _ rfl; (with_reducible repeat first | apply blk_drewN | apply blk_drew | apply blk_alloc); refine blk_put (cs := #[.int .i64 0, .int .i64 0, .int .i64 0, .int .i64 0, .int .i64 0, .int .i64 0, .int .i64 0, .int .i64 0, .int .i64 0, .int .i64 0, .int .i64 0]) ?_ 0 _ rfl; (with_reducible repeat first | apply blk_drewN | apply blk_drew | apply blk_alloc); exact BK537.out) hb); replace HB := Aside0.mk (below_step (by repeat (first | (with_reducible first | exact HB.out | apply below_alloc | apply pw_below_drewN | apply below_drew1 | refine below_set ?_ GE523.out | refine below_set ?_ GE524.out | refine below_set ?_ GE537.out) | exact HB.out)) hb); (try clear hb); (try clear hb2); (try clear hk); (try clear hi)) | ((with_reducible refine gate_dst (N := 9) rfl ?_); refine box_event ?hg (N := 9) ?hd (cs := #[.int .i64 0, .int .i64 0, .int .i64 0, .int .i64 0, .int .i64 0, .int .i64 0, .int .i64 0, .int .i64 0, .int .i64 0, .int .i64 0, .int .i64 0]) (t := 25) ?hr ?_; (case hd => rfl); (case hg => rfl); (case hr => first | (go_simp; done) | (go_simp; rfl)); intro gb550 hg w29 hbox hb; have BK550 := Aside0.mk (hbox); have GW550 := Aside0.mk ((by rw [hg]; exact (below_size (by repeat (first | (with_reducible first | exact HB.out | apply below_alloc | apply pw_below_drewN | apply below_drew1 | refine below_set ?_ GE523.out | refine below_set ?_ GE524.out | refine below_set ?_ GE537.out) | exact HB.out))) : w.heap.size ≤ gb550)); have GE550 := Aside0.mk ((by rw [hg]; exact (below_size (by repeat (first | (with_reducible first | exact HB.out | apply below_alloc | apply pw_below_drewN | apply below_drew1 | refine below_set ?_ GE523.out | refine below_set ?_ GE524.out | refine below_set ?_ GE537.out) | exact HB.out))) : w.heap.size ≤ gb550)); replace HB := Aside0.mk (below_step (by repeat (first | (with_reducible first | exact HB.out | apply below_alloc | apply pw_below_drewN | apply below_drew1 | refine below_set ?_ GE523.out | refine below_set ?_ GE524.out | refine below_set ?_ GE537.out) | exact HB.out)) hb); have NB523_550 := Aside0.mk ((by rw [hg]; exact Nat.ne_of_lt (blk_lt (g := gb523) (o := .cells #[.slice A0_0 l0_0.length c0_0, .slice A0_1 l0_1.length c0_1] 66 (0, 0)) (by (with_reducible repeat first | apply blk_drewN | apply blk_drew | apply blk_alloc); exact BK523.out)) : gb523 ≠ gb550)); have NB550_523 := Aside0.mk ((by rw [hg]; exact Nat.ne_of_gt (blk_lt (g := gb523) (o := .cells #[.slice A0_0 l0_0.length c0_0, .slice A0_1 l0_1.length c0_1] 66 (0, 0)) (by (with_reducible repeat first | apply blk_drewN | apply blk_drew | apply blk_alloc); exact BK523.out)) : gb550 ≠ gb523)); replace BK523 := blkE BK523 hb; have NB524_550 := Aside0.mk ((by rw [hg]; exact Nat.ne_of_lt (blk_lt (g := gb524) (o := .cells #[.int .i64 a1_0, .int .i64 a1_1, .int .i64 a1_2, .int .i64 a1_3, .int .i64 a1_4, .int .i64 a1_5, .int .i64 a1_6, .int .i64 a1_7, .int .i64 a1_8, .int .i64 a1_9, .int .i64 a1_10] 25 (0, 0)) (by (with_reducible repeat first | apply blk_drewN | apply blk_drew | apply blk_alloc); exact BK524.out)) : gb524 ≠ gb550)); have NB550_524 := Aside0.mk ((by rw [hg]; exact Nat.ne_of_gt (blk_lt (g := gb524) (o := .cells #[.int .i64 a1_0, .int .i64 a1_1, .int .i64 a1_2, .int .i64 a1_3, .int .i64 a1_4, .int .i64 a1_5, .int .i64 a1_6, .int .i64 a1_7, .int .i64 a1_8, .int .i64 a1_9, .int .i64 a1_10] 25 (0, 0)) (by (with_reducible repeat first | apply blk_drewN | apply blk_drew | apply blk_alloc); exact BK524.out)) : gb550 ≠ gb524)); replace BK524 := blkE BK524 hb; have NB537_550 := Aside0.mk ((by rw [hg]; exact Nat.ne_of_lt (blk_lt (g := gb537) (o := .cells #[.int .i64 t525, .int .i64 t526, .int .i64 t527, .int .i64 t528, .int .i64 t529, .int .i64 t530, .int .i64 t531, .int .i64 t532, .int .i64 t533, .int .i64 t534, .int .i64 t535] 25 (0, 0)) (by (with_reducible repeat first | apply blk_drewN | apply blk_drew | apply blk_alloc); exact BK537.out)) : gb537 ≠ gb550)); have NB550_537 := Aside0.mk ((by rw [hg]; exact Nat.ne_of_gt (blk_lt (g := gb537) (o := .cells #[.int .i64 t525, .int .i64 t526, .int .i64 t527, .int .i64 t528, .int .i64 t529, .int .i64 t530, .int .i64 t531, .int .i64 t532, .int .i64 t533, .int .i64 t534, .int .i64 t535] 25 (0, 0)) (by (with_reducible repeat first | apply blk_drewN | apply blk_drew | apply blk_alloc); exact BK537.out)) : gb550 ≠ gb537)); replace BK537 := blkE BK537 hb; clear hb hbox hg; have hnb30 := NB550_523.out; have hnc30 := NB523_550.out; have hnb31 := NB550_524.out; have hnc31 := NB524_550.out; have hnb32 := NB550_537.out; have hnc32 := NB537_550.out; obtain ⟨hcz33_0, hcz33_1, hcz33_2, hcz33_3, hcz33_4, hcz33_5, hcz33_6, hcz33_7, hcz33_8, hcz33_9, hcz33_10⟩ := cells11 BK550.out; obtain ⟨hfz33_0, hfz33_1, hfz33_2, hfz33_3, hfz33_4, hfz33_5, hfz33_6, hfz33_7, hfz33_8, hfz33_9, hfz33_10⟩ := froz11 BK550.out; obtain ⟨hcz34_0, hcz34_1⟩ := cells2 BK523.out; obtain ⟨hfz34_0, hfz34_1⟩ := froz2 BK523.out) | ((with_reducible refine gate_callee (f := 40) rfl ?_); refine goesL_ (some 31) rfl rfl Try.func40 (by kernel_rfl) rfl #[.agg #[.slice A0_0 l0_0.length c0_0, .slice A0_1 l0_1.length c0_1], .int .i64 a2] rfl (by (try simp only [List.map_toArray, List.map_cons, List.map_nil]); first | done | rfl | (simp only [List.length_drop, List.length_take]; rfl)) ?_; (with_reducible refine (ware_Body.calls k _ _ l0_0 _ _ l0_1 a2 t551 t552 t553 t554 t555 t556 t557 t558 _ ?side1 ?side2 ?side3 ?side4 A6.out).mono ?_); (case side1 => exact Kd.C_below HR0_0.out (by repeat (first | (with_reducible first | exact HB.out | apply below_alloc | apply pw_below_drewN | apply below_drew1 | refine below_set ?_ GE523.out | refine below_set ?_ GE524.out | refine below_set ?_ GE537.out | refine below_set ?_ GE550.out) | exact HB.out))); (case side2 => exact HC0_0.out); (case side3 => exact Kd.C_below HR0_1.out (by repeat (first | (with_reducible first | exact HB.out | apply below_alloc | apply pw_below_drewN | apply below_drew1 | refine below_set ?_ GE523.out | refine below_set ?_ GE524.out | refine below_set ?_ GE537.out | refine below_set ?_ GE550.out) | exact HB.out))); (case side4 => exact HC0_1.out); rintro e w35 ⟨rfl, hb⟩; refine ⟨_, rfl, ?_⟩; replace BK523 := Aside0.mk (blk_below (g := gb523) (o := .cells #[.slice A0_0 l0_0.length c0_0, .slice A0_1 l0_1.length c0_1] 66 (0, 0)) (by (with_reducible repeat first | apply blk_drewN | apply blk_drew | apply blk_alloc); refine blk_far ?_ NB523_550.out _; (with_reducible repeat first | apply blk_drewN | apply blk_drew | apply blk_alloc); refine blk_far ?_ NB523_550.out _; (with_reducible repeat first | apply blk_drewN | apply blk_drew | apply blk_alloc); refine blk_far ?_ NB523_550.out _; (with_reducible repeat first | apply blk_drewN | apply blk_drew | apply blk_alloc); refine blk_far ?_ NB523_550.out _; (with_reducible repeat first | apply blk_drewN | apply blk_drew | apply blk_alloc); refine blk_far ?_ NB523_550.out _; (with_reducible repeat first | apply blk_drewN | apply blk_drew | apply blk_alloc); refine blk_far ?_ NB523_550.out _; (with_reducible repeat first | apply blk_drewN | apply blk_drew | apply blk_alloc); refine blk_far ?_ NB523_550.out _; (with_reducible repeat first | apply blk_drewN | apply blk_drew | apply blk_alloc); refine blk_far ?_ NB523_550.out _; (with_reducible repeat first | apply blk_drewN | apply blk_drew | apply blk_alloc); refine blk_far ?_ NB523_550.out _; (with_reducible repeat first | apply blk_drewN | apply blk_drew | apply blk_alloc); refine blk_far ?_ NB523_550.out _; (with_reducible repeat first | apply blk_drewN | apply blk_drew | apply blk_alloc); refine blk_far ?_ NB523_550.out _; (with_reducible repeat first | apply blk_drewN | apply blk_drew | apply blk_alloc); exact BK523.out) hb); replace BK524 := Aside0.mk (blk_below (g := gb524) (o := .cells #[.int .i64 a1_0, .int .i64 a1_1, .int .i64 a1_2, .int .i64 a1_3, .int .i64 a1_4, .int .i64 a1_5, .int .i64 a1_6, .int .i64 a1_7, .int .i64 a1_8, .int .i64 a1_9, .int .i64 a1_10] 25 (0, 0)) (by (with_reducible repeat first | apply blk_drewN | apply blk_drew | apply blk_alloc); refine blk_far ?_ NB524_550.out _; (with_reducible repeat first | apply blk_drewN | apply blk_drew | apply blk_alloc); refine blk_far ?_ NB524_550.out _; (with_reducible repeat first | apply blk_drewN | apply blk_drew | apply blk_alloc); refine blk_far ?_ NB524_550.out _; (with_reducible repeat first | apply blk_drewN | apply blk_drew | apply blk_alloc); refine blk_far ?_ NB524_550.out _; (with_reducible repeat first | apply blk_drewN | apply blk_drew | apply blk_alloc); refine blk_far ?_ NB524_550.out _; (with_reducible repeat first | apply blk_drewN | apply blk_drew | apply blk_alloc); refine blk_far ?_ NB524_550.out _; (with_reducible repeat first | apply blk_drewN | apply blk_drew | apply blk_alloc); refine blk_far ?_ NB524_550.out _; (with_reducible repeat first | apply blk_drewN | apply blk_drew | apply blk_alloc); refine blk_far ?_ NB524_550.out _; (with_reducible repeat first | apply blk_drewN | apply blk_drew | apply blk_alloc); refine blk_far ?_ NB524_550.out _; (with_reducible repeat first | apply blk_drewN | apply blk_drew | apply blk_alloc); refine blk_far ?_ NB524_550.out _; (with_reducible repeat first | apply blk_drewN | apply blk_drew | apply blk_alloc); refine blk_far ?_ NB524_550.out _; (with_reducible repeat first | apply blk_drewN | apply blk_drew | apply blk_alloc); exact BK524.out) hb); replace BK537 := Aside0.mk (blk_below (g := gb537) (o := .cells #[.int .i64 t525, .int .i64 t526, .int .i64 t527, .int .i64 t528, .int .i64 t529, .int .i64 t530, .int .i64 t531, .int .i64 t532, .int .i64 t533, .int .i64 t534, .int .i64 t535] 25 (0, 0)) (by (with_reducible repeat first | apply blk_drewN | apply blk_drew | apply blk_alloc); refine blk_far ?_ NB537_550.out _; (with_reducible repeat first | apply blk_drewN | apply blk_drew | apply blk_alloc); refine blk_far ?_ NB537_550.out _; (with_reducible repeat first | apply blk_drewN | apply blk_drew | apply blk_alloc); refine blk_far ?_ NB537_550.out _; (with_reducible repeat first | apply blk_drewN | apply blk_drew | apply blk_alloc); refine blk_far ?_ NB537_550.out _; (with_reducible repeat first | apply blk_drewN | apply blk_drew | apply blk_alloc); refine blk_far ?_ NB537_550.out _; (with_reducible repeat first | apply blk_drewN | apply blk_drew | apply blk_alloc); refine blk_far ?_ NB537_550.out _; (with_reducible repeat first | apply blk_drewN | apply blk_drew | apply blk_alloc); refine blk_far ?_ NB537_550.out _; (with_reducible repeat first | apply blk_drewN | apply blk_drew | apply blk_alloc); refine blk_far ?_ NB537_550.out _; (with_reducible repeat first | apply blk_drewN | apply blk_drew | apply blk_alloc); refine blk_far ?_ NB537_550.out _; (with_reducible repeat first | apply blk_drewN | apply blk_drew | apply blk_alloc); refine blk_far ?_ NB537_550.out _; (with_reducible repeat first | apply blk_drewN | apply blk_drew | apply blk_alloc); refine blk_far ?_ NB537_550.out _; (with_reducible repeat first | apply blk_drewN | apply blk_drew | apply blk_alloc); exact BK537.out) hb); replace BK550 := Aside0.mk (blk_below (g := gb550) (o := .cells #[.int .i64 t538, .int .i64 t539, .int .i64 t540, .int .i64 t541, .int .i64 t542, .int .i64 t543, .int .i64 t544, .int .i64 t545, .int .i64 t546, .int .i64 t547, .int .i64 t548] 25 (0, 0)) (by (with_reducible repeat first | apply blk_drewN | apply blk_drew | apply blk_alloc); refine blk_put (cs := #[.int .i64 t538, .int .i64 t539, .int .i64 t540, .int .i64 t541, .int .i64 t542, .int .i64 t543, .int .i64 t544, .int .i64 t545, .int .i64 t546, .int .i64 t547, .int .i64 0]) ?_ 10 _ rfl; (with_reducible repeat first | apply blk_drewN | apply blk_drew | apply blk_alloc); refine blk_put (cs := #[.int .i64 t538, .int .i64 t539, .int .i64 t540, .int .i64 t541, .int .i64 t542, .int .i64 t543, .int .i64 t544, .int .i64 t545, .int .i64 t546, .int .i64 0, .int .i64 0]) ?_ 9 _ rfl; (with_reducible repeat first | apply blk_drewN | apply blk_drew | apply blk_alloc); refine blk_put (cs := #[.int .i64 t538, .int .i64 t539, .int .i64 t540, .int .i64 t541, .int .i64 t542, .int .i64 t543, .int .i64 t544, .int .i64 t545, .int .i64 0, .int .i64 0, .int .i64 0]) ?_ 8 _ rfl; (with_reducible repeat first | apply blk_drewN | apply blk_drew | apply blk_alloc); refine blk_put (cs := #[.int .i64 t538, .int .i64 t539, .int .i64 t540, .int .i64 t541, .int .i64 t542, .int .i64 t543, .int .i64 t544, .int .i64 0, .int .i64 0, .int .i64 0, .int .i64 0]) ?_ 7 _ rfl; (with_reducible repeat first | apply blk_drewN | apply blk_drew | apply blk_alloc); refine blk_put (cs := #[.int .i64 t538, .int .i64 t539, .int .i64 t540, .int .i64 t541, .int .i64 t542, .int .i64 t543, .int .i64 0, .int .i64 0, .int .i64 0, .int .i64 0, .int .i64 0]) ?_ 6 _ rfl; (with_reducible repeat first | apply blk_drewN | apply blk_drew | apply blk_alloc); refine blk_put (cs := #[.int .i64 t538, .int .i64 t539, .int .i64 t540, .int .i64 t541, .int .i64 t542, .int .i64 0, .int .i64 0, .int .i64 0, .int .i64 0, .int .i64 0, .int .i64 0]) ?_ 5 _ rfl; (with_reducible repeat first | apply blk_drewN | apply blk_drew | apply blk_alloc); refine blk_put (cs := #[.int .i64 t538, .int .i64 t539, .int .i64 t540, .int .i64 t541, .int .i64 0, .int .i64 0, .int .i64 0, .int .i64 0, .int .i64 0, .int .i64 0, .int .i64 0]) ?_ 4 _ rfl; (with_reducible repeat first | apply blk_drewN | apply blk_drew | apply blk_alloc); refine blk_put (cs := #[.int .i64 t538, .int .i64 t539, .int .i64 t540, .int .i64 0, .int .i64 0, .int .i64 0, .int .i64 0, .int .i64 0, .int .i64 0, .int .i64 0, .int .i64 0]) ?_ 3 _ rfl; (with_reducible repeat first | apply blk_drewN | apply blk_drew | apply blk_alloc); refine blk_put (cs := #[.int .i64 t538, .int .i64 t539, .int .i64 0, .int .i64 0, .int .i64 0, .int .i64 0, .int .i64 0, .int .i64 0, .int .i64 0, .int .i64 0, .int .i64 0]) ?_ 2 _ rfl; (with_reducible repeat first | apply blk_drewN | apply blk_drew | apply blk_alloc); refine blk_put (cs := #[.int .i64 t538, .int .i64 0, .int .i64 0, .int .i64 0, .int .i64 0, .int .i64 0, .int .i64 0, .int .i64 0, .int .i64 0, .int .i64 0, .int .i64 0]) ?_ 1 _ rfl; (with_reducible repeat first | apply blk_drewN | apply blk_drew | apply blk_alloc); refine blk_put (cs := #[.int .i64 0, .int .i64 0, .int .i64 0, .int .i64 0, .int .i64 0, .int .i64 0, .int .i64 0, .int .i64 0, .int .i64 0, .int .i64 0, .int .i64 0]) ?_ 0 _ rfl; (with_reducible repeat first | apply blk_drewN | apply blk_drew | apply blk_alloc); exact BK550.out) hb); replace HB := Aside0.mk (below_step (by repeat (first | (with_reducible first | exact HB.out | apply below_alloc | apply pw_below_drewN | apply below_drew1 | refine below_set ?_ GE523.out | refine below_set ?_ GE524.out | refine below_set ?_ GE537.out | refine below_set ?_ GE550.out) | exact HB.out)) hb); (try clear hb); (try clear hb2); (try clear hk); (try clear hi)) | ((with_reducible refine gate_dst (N := 11) rfl ?_); refine box_event ?hg (N := 11) ?hd (cs := #[.int .i64 0, .int .i64 0, .int .i64 0, .int .i64 0, .int .i64 0, .int .i64 0, .int .i64 0]) (t := 43) ?hr ?_; (case hd => rfl); (case hg => rfl); (case hr => first | (go_simp; done) | (go_simp; rfl)); intro gb559 hg w36 hbox hb; have BK559 := Aside0.mk (hbox); have GW559 := Aside0.mk ((by rw [hg]; exact (below_size (by repeat (first | (with_reducible first | exact HB.out | apply below_alloc | apply pw_below_drewN | apply below_drew1 | refine below_set ?_ GE523.out | refine below_set ?_ GE524.out | refine below_set ?_ GE537.out | refine below_set ?_ GE550.out) | exact HB.out))) : w.heap.size ≤ gb559)); have GE559 := Aside0.mk ((by rw [hg]; exact (below_size (by repeat (first | (with_reducible first | exact HB.out | apply below_alloc | apply pw_below_drewN | apply below_drew1 | refine below_set ?_ GE523.out | refine below_set ?_ GE524.out | refine below_set ?_ GE537.out | refine below_set ?_ GE550.out) | exact HB.out))) : w.heap.size ≤ gb559)); replace HB := Aside0.mk (below_step (by repeat (first | (with_reducible first | exact HB.out | apply below_alloc | apply pw_below_drewN | apply below_drew1 | refine below_set ?_ GE523.out | refine below_set ?_ GE524.out | refine below_set ?_ GE537.out | refine below_set ?_ GE550.out) | exact HB.out)) hb); have NB523_559 := Aside0.mk ((by rw [hg]; exact Nat.ne_of_lt (blk_lt (g := gb523) (o := .cells #[.slice A0_0 l0_0.length c0_0, .slice A0_1 l0_1.length c0_1] 66 (0, 0)) (by (with_reducible repeat first | apply blk_drewN | apply blk_drew | apply blk_alloc); exact BK523.out)) : gb523 ≠ gb559)); have NB559_523 := Aside0.mk ((by rw [hg]; exact Nat.ne_of_gt (blk_lt (g := gb523) (o := .cells #[.slice A0_0 l0_0.length c0_0, .slice A0_1 l0_1.length c0_1] 66 (0, 0)) (by (with_reducible repeat first | apply blk_drewN | apply blk_drew | apply blk_alloc); exact BK523.out)) : gb559 ≠ gb523)); replace BK523 := blkE BK523 hb; have NB524_559 := Aside0.mk ((by rw [hg]; exact Nat.ne_of_lt (blk_lt (g := gb524) (o := .cells #[.int .i64 a1_0, .int .i64 a1_1, .int .i64 a1_2, .int .i64 a1_3, .int .i64 a1_4, .int .i64 a1_5, .int .i64 a1_6, .int .i64 a1_7, .int .i64 a1_8, .int .i64 a1_9, .int .i64 a1_10] 25 (0, 0)) (by (with_reducible repeat first | apply blk_drewN | apply blk_drew | apply blk_alloc); exact BK524.out)) : gb524 ≠ gb559)); have NB559_524 := Aside0.mk ((by rw [hg]; exact Nat.ne_of_gt (blk_lt (g := gb524) (o := .cells #[.int .i64 a1_0, .int .i64 a1_1, .int .i64 a1_2, .int .i64 a1_3, .int .i64 a1_4, .int .i64 a1_5, .int .i64 a1_6, .int .i64 a1_7, .int .i64 a1_8, .int .i64 a1_9, .int .i64 a1_10] 25 (0, 0)) (by (with_reducible repeat first | apply blk_drewN | apply blk_drew | apply blk_alloc); exact BK524.out)) : gb559 ≠ gb524)); replace BK524 := blkE BK524 hb; have NB537_559 := Aside0.mk ((by rw [hg]; exact Nat.ne_of_lt (blk_lt (g := gb537) (o := .cells #[.int .i64 t525, .int .i64 t526, .int .i64 t527, .int .i64 t528, .int .i64 t529, .int .i64 t530, .int .i64 t531, .int .i64 t532, .int .i64 t533, .int .i64 t534, .int .i64 t535] 25 (0, 0)) (by (with_reducible repeat first | apply blk_drewN | apply blk_drew | apply blk_alloc); exact BK537.out)) : gb537 ≠ gb559)); have NB559_537 := Aside0.mk ((by rw [hg]; exact Nat.ne_of_gt (blk_lt (g := gb537) (o := .cells #[.int .i64 t525, .int .i64 t526, .int .i64 t527, .int .i64 t528, .int .i64 t529, .int .i64 t530, .int .i64 t531, .int .i64 t532, .int .i64 t533, .int .i64 t534, .int .i64 t535] 25 (0, 0)) (by (with_reducible repeat first | apply blk_drewN | apply blk_drew | apply blk_alloc); exact BK537.out)) : gb559 ≠ gb537)); replace BK537 := blkE BK537 hb; have NB550_559 := Aside0.mk ((by rw [hg]; exact Nat.ne_of_lt (blk_lt (g := gb550) (o := .cells #[.int .i64 t538, .int .i64 t539, .int .i64 t540, .int .i64 t541, .int .i64 t542, .int .i64 t543, .int .i64 t544, .int .i64 t545, .int .i64 t546, .int .i64 t547, .int .i64 t548] 25 (0, 0)) (by (with_reducible repeat first | apply blk_drewN | apply blk_drew | apply blk_alloc); exact BK550.out)) : gb550 ≠ gb559)); have NB559_550 := Aside0.mk ((by rw [hg]; exact Nat.ne_of_gt (blk_lt (g := gb550) (o := .cells #[.int .i64 t538, .int .i64 t539, .int .i64 t540, .int .i64 t541, .int .i64 t542, .int .i64 t543, .int .i64 t544, .int .i64 t545, .int .i64 t546, .int .i64 t547, .int .i64 t548] 25 (0, 0)) (by (with_reducible repeat first | apply blk_drewN | apply blk_drew | apply blk_alloc); exact BK550.out)) : gb559 ≠ gb550)); replace BK550 := blkE BK550 hb; clear hb hbox hg; have hnb37 := NB559_523.out; have hnc37 := NB523_559.out; have hnb38 := NB559_524.out; have hnc38 := NB524_559.out; have hnb39 := NB559_537.out; have hnc39 := NB537_559.out; have hnb40 := NB559_550.out; have hnc40 := NB550_559.out; obtain ⟨hcz41_0, hcz41_1, hcz41_2, hcz41_3, hcz41_4, hcz41_5, hcz41_6⟩ := cells7 BK559.out; obtain ⟨hfz41_0, hfz41_1, hfz41_2, hfz41_3, hfz41_4, hfz41_5, hfz41_6⟩ := froz7 BK559.out; obtain ⟨hcz42_0, hcz42_1⟩ := cells2 BK523.out; obtain ⟨hfz42_0, hfz42_1⟩ := froz2 BK523.out) | ((with_reducible refine gate_callee (f := 41) rfl ?_); refine goesL_ (some 37) rfl rfl Try.func41 (by kernel_rfl) rfl #[.agg #[.slice A0_0 l0_0.length c0_0, .slice A0_1 l0_1.length c0_1], .int .i64 a2] rfl (by (try simp only [List.map_toArray, List.map_cons, List.map_nil]); first | done | rfl | (simp only [List.length_drop, List.length_take]; rfl)) ?_; (with_reducible refine (potbankref01_Body.calls k _ _ l0_0 _ _ l0_1 a2 t560 t561 t562 t563 t564 t565 t566 t567 _ ?side1 ?side2 ?side3 ?side4 A7.out).mono ?_); (case side1 => exact Kd.C_below HR0_0.out (by repeat (first | (with_reducible first | exact HB.out | apply below_alloc | apply pw_below_drewN | apply below_drew1 | refine below_set ?_ GE523.out | refine below_set ?_ GE524.out | refine below_set ?_ GE537.out | refine below_set ?_ GE550.out | refine below_set ?_ GE559.out) | exact HB.out))); (case side2 => exact HC0_0.out); (case side3 => exact Kd.C_below HR0_1.out (by repeat (first | (with_reducible first | exact HB.out | apply below_alloc | apply pw_below_drewN | apply below_drew1 | refine below_set ?_ GE523.out | refine below_set ?_ GE524.out | refine below_set ?_ GE537.out | refine below_set ?_ GE550.out | refine below_set ?_ GE559.out) | exact HB.out))); (case side4 => exact HC0_1.out); rintro e w43 ⟨rfl, hb⟩; refine ⟨_, rfl, ?_⟩; replace BK523 := Aside0.mk (blk_below (g := gb523) (o := .cells #[.slice A0_0 l0_0.length c0_0, .slice A0_1 l0_1.length c0_1] 66 (0, 0)) (by (with_reducible repeat first | apply blk_drewN | apply blk_drew | apply blk_alloc); refine blk_far ?_ NB523_559.out _; (with_reducible repeat first | apply blk_drewN | apply blk_drew | apply blk_alloc); refine blk_far ?_ NB523_559.out _; (with_reducible repeat first | apply blk_drewN | apply blk_drew | apply blk_alloc); refine blk_far ?_ NB523_559.out _; (with_reducible repeat first | apply blk_drewN | apply blk_drew | apply blk_alloc); refine blk_far ?_ NB523_559.out _; (with_reducible repeat first | apply blk_drewN | apply blk_drew | apply blk_alloc); refine blk_far ?_ NB523_559.out _; (with_reducible repeat first | apply blk_drewN | apply blk_drew | apply blk_alloc); refine blk_far ?_ NB523_559.out _; (with_reducible repeat first | apply blk_drewN | apply blk_drew | apply blk_alloc); refine blk_far ?_ NB523_559.out _; (with_reducible repeat first | apply blk_drewN | apply blk_drew | apply blk_alloc); exact BK523.out) hb); replace BK524 := Aside0.mk (blk_below (g := gb524) (o := .cells #[.int .i64 a1_0, .int .i64 a1_1, .int .i64 a1_2, .int .i64 a1_3, .int .i64 a1_4, .int .i64 a1_5, .int .i64 a1_6, .int .i64 a1_7, .int .i64 a1_8, .int .i64 a1_9, .int .i64 a1_10] 25 (0, 0)) (by (with_reducible repeat first | apply blk_drewN | apply blk_drew | apply blk_alloc); refine blk_far ?_ NB524_559.out _; (with_reducible repeat first | apply blk_drewN | apply blk_drew | apply blk_alloc); refine blk_far ?_ NB524_559.out _; (with_reducible repeat first | apply blk_drewN | apply blk_drew | apply blk_alloc); refine blk_far ?_ NB524_559.out _; (with_reducible repeat first | apply blk_drewN | apply blk_drew | apply blk_alloc); refine blk_far ?_ NB524_559.out _; (with_reducible repeat first | apply blk_drewN | apply blk_drew | apply blk_alloc); refine blk_far ?_ NB524_559.out _; (with_reducible repeat first | apply blk_drewN | apply blk_drew | apply blk_alloc); refine blk_far ?_ NB524_559.out _; (with_reducible repeat first | apply blk_drewN | apply blk_drew | apply blk_alloc); refine blk_far ?_ NB524_559.out _; (with_reducible repeat first | apply blk_drewN | apply blk_drew | apply blk_alloc); exact BK524.out) hb); replace BK537 := Aside0.mk (blk_below (g := gb537) (o := .cells #[.int .i64 t525, .int .i64 t526, .int .i64 t527, .int .i64 t528, .int .i64 t529, .int .i64 t530, .int .i64 t531, .int .i64 t532, .int .i64 t533, .int .i64 t534, .int .i64 t535] 25 (0, 0)) (by (with_reducible repeat first | apply blk_drewN | apply blk_drew | apply blk_alloc); refine blk_far ?_ NB537_559.out _; (with_reducible repeat first | apply blk_drewN | apply blk_drew | apply blk_alloc); refine blk_far ?_ NB537_559.out _; (with_reducible repeat first | apply blk_drewN | apply blk_drew | apply blk_alloc); refine blk_far ?_ NB537_559.out _; (with_reducible repeat first | apply blk_drewN | apply blk_drew | apply blk_alloc); refine blk_far ?_ NB537_559.out _; (with_reducible repeat first | apply blk_drewN | apply blk_drew | apply blk_alloc); refine blk_far ?_ NB537_559.out _; (with_reducible repeat first | apply blk_drewN | apply blk_drew | apply blk_alloc); refine blk_far ?_ NB537_559.out _; (with_reducible repeat first | apply blk_drewN | apply blk_drew | apply blk_alloc); refine blk_far ?_ NB537_559.out _; (with_reducible repeat first | apply blk_drewN | apply blk_drew | apply blk_alloc); exact BK537.out) hb); replace BK550 := Aside0.mk (blk_below (g := gb550) (o := .cells #[.int .i64 t538, .int .i64 t539, .int .i64 t540, .int .i64 t541, .int .i64 t542, .int .i64 t543, .int .i64 t544, .int .i64 t545, .int .i64 t546, .int .i64 t547, .int .i64 t548] 25 (0, 0)) (by (with_reducible repeat first | apply blk_drewN | apply blk_drew | apply blk_alloc); refine blk_far ?_ NB550_559.out _; (with_reducible repeat first | apply blk_drewN | apply blk_drew | apply blk_alloc); refine blk_far ?_ NB550_559.out _; (with_reducible repeat first | apply blk_drewN | apply blk_drew | apply blk_alloc); refine blk_far ?_ NB550_559.out _; (with_reducible repeat first | apply blk_drewN | apply blk_drew | apply blk_alloc); refine blk_far ?_ NB550_559.out _; (with_reducible repeat first | apply blk_drewN | apply blk_drew | apply blk_alloc); refine blk_far ?_ NB550_559.out _; (with_reducible repeat first | apply blk_drewN | apply blk_drew | apply blk_alloc); refine blk_far ?_ NB550_559.out _; (with_reducible repeat first | apply blk_drewN | apply blk_drew | apply blk_alloc); refine blk_far ?_ NB550_559.out _; (with_reducible repeat first | apply blk_drewN | apply blk_drew | apply blk_alloc); exact BK550.out) hb); replace BK559 := Aside0.mk (blk_below (g := gb559) (o := .cells #[.int .i64 t551, .int .i64 t552, .int .i64 t553, .int .i64 t554, .int .i64 t555, .int .i64 t556, .int .i64 t557] 43 (0, 0)) (by (with_reducible repeat first | apply blk_drewN | apply blk_drew | apply blk_alloc); refine blk_put (cs := #[.int .i64 t551, .int .i64 t552, .int .i64 t553, .int .i64 t554, .int .i64 t555, .int .i64 t556, .int .i64 0]) ?_ 6 _ rfl; (with_reducible repeat first | apply blk_drewN | apply blk_drew | apply blk_alloc); refine blk_put (cs := #[.int .i64 t551, .int .i64 t552, .int .i64 t553, .int .i64 t554, .int .i64 t555, .int .i64 0, .int .i64 0]) ?_ 5 _ rfl; (with_reducible repeat first | apply blk_drewN | apply blk_drew | apply blk_alloc); refine blk_put (cs := #[.int .i64 t551, .int .i64 t552, .int .i64 t553, .int .i64 t554, .int .i64 0, .int .i64 0, .int .i64 0]) ?_ 4 _ rfl; (with_reducible repeat first | apply blk_drewN | apply blk_drew | apply blk_alloc); refine blk_put (cs := #[.int .i64 t551, .int .i64 t552, .int .i64 t553, .int .i64 0, .int .i64 0, .int .i64 0, .int .i64 0]) ?_ 3 _ rfl; (with_reducible repeat first | apply blk_drewN | apply blk_drew | apply blk_alloc); refine blk_put (cs := #[.int .i64 t551, .int .i64 t552, .int .i64 0, .int .i64 0, .int .i64 0, .int .i64 0, .int .i64 0]) ?_ 2 _ rfl; (with_reducible repeat first | apply blk_drewN | apply blk_drew | apply blk_alloc); refine blk_put (cs := #[.int .i64 t551, .int .i64 0, .int .i64 0, .int .i64 0, .int .i64 0, .int .i64 0, .int .i64 0]) ?_ 1 _ rfl; (with_reducible repeat first | apply blk_drewN | apply blk_drew | apply blk_alloc); refine blk_put (cs := #[.int .i64 0, .int .i64 0, .int .i64 0, .int .i64 0, .int .i64 0, .int .i64 0, .int .i64 0]) ?_ 0 _ rfl; (with_reducible repeat first | apply blk_drewN | apply blk_drew | apply blk_alloc); exact BK559.out) hb); replace HB := Aside0.mk (below_step (by repeat (first | (with_reducible first | exact HB.out | apply below_alloc | apply pw_below_drewN | apply below_drew1 | refine below_set ?_ GE523.out | refine below_set ?_ GE524.out | refine below_set ?_ GE537.out | refine below_set ?_ GE550.out | refine below_set ?_ GE559.out) | exact HB.out)) hb); (try clear hb); (try clear hb2); (try clear hk); (try clear hi)) | ((with_reducible refine gate_dst (N := 13) rfl ?_); refine box_event ?hg (N := 13) ?hd (cs := #[.int .i64 0, .int .i64 0, .int .i64 0, .int .i64 0, .int .i64 0, .int .i64 0, .int .i64 0]) (t := 43) ?hr ?_; (case hd => rfl); (case hg => rfl); (case hr => first | (go_simp; done) | (go_simp; rfl)); intro gb568 hg w44 hbox hb; have BK568 := Aside0.mk (hbox); have GW568 := Aside0.mk ((by rw [hg]; exact (below_size (by repeat (first | (with_reducible first | exact HB.out | apply below_alloc | apply pw_below_drewN | apply below_drew1 | refine below_set ?_ GE523.out | refine below_set ?_ GE524.out | refine below_set ?_ GE537.out | refine below_set ?_ GE550.out | refine below_set ?_ GE559.out) | exact HB.out))) : w.heap.size ≤ gb568)); have GE568 := Aside0.mk ((by rw [hg]; exact (below_size (by repeat (first | (with_reducible first | exact HB.out | apply below_alloc | apply pw_below_drewN | apply below_drew1 | refine below_set ?_ GE523.out | refine below_set ?_ GE524.out | refine below_set ?_ GE537.out | refine below_set ?_ GE550.out | refine below_set ?_ GE559.out) | exact HB.out))) : w.heap.size ≤ gb568)); replace HB := Aside0.mk (below_step (by repeat (first | (with_reducible first | exact HB.out | apply below_alloc | apply pw_below_drewN | apply below_drew1 | refine below_set ?_ GE523.out | refine below_set ?_ GE524.out | refine below_set ?_ GE537.out | refine below_set ?_ GE550.out | refine below_set ?_ GE559.out) | exact HB.out)) hb); have NB523_568 := Aside0.mk ((by rw [hg]; exact Nat.ne_of_lt (blk_lt (g := gb523) (o := .cells #[.slice A0_0 l0_0.length c0_0, .slice A0_1 l0_1.length c0_1] 66 (0, 0)) (by (with_reducible repeat first | apply blk_drewN | apply blk_drew | apply blk_alloc); exact BK523.out)) : gb523 ≠ gb568)); have NB568_523 := Aside0.mk ((by rw [hg]; exact Nat.ne_of_gt (blk_lt (g := gb523) (o := .cells #[.slice A0_0 l0_0.length c0_0, .slice A0_1 l0_1.length c0_1] 66 (0, 0)) (by (with_reducible repeat first | apply blk_drewN | apply blk_drew | apply blk_alloc); exact BK523.out)) : gb568 ≠ gb523)); replace BK523 := blkE BK523 hb; have NB524_568 := Aside0.mk ((by rw [hg]; exact Nat.ne_of_lt (blk_lt (g := gb524) (o := .cells #[.int .i64 a1_0, .int .i64 a1_1, .int .i64 a1_2, .int .i64 a1_3, .int .i64 a1_4, .int .i64 a1_5, .int .i64 a1_6, .int .i64 a1_7, .int .i64 a1_8, .int .i64 a1_9, .int .i64 a1_10] 25 (0, 0)) (by (with_reducible repeat first | apply blk_drewN | apply blk_drew | apply blk_alloc); exact BK524.out)) : gb524 ≠ gb568)); have NB568_524 := Aside0.mk ((by rw [hg]; exact Nat.ne_of_gt (blk_lt (g := gb524) (o := .cells #[.int .i64 a1_0, .int .i64 a1_1, .int .i64 a1_2, .int .i64 a1_3, .int .i64 a1_4, .int .i64 a1_5, .int .i64 a1_6, .int .i64 a1_7, .int .i64 a1_8, .int .i64 a1_9, .int .i64 a1_10] 25 (0, 0)) (by (with_reducible repeat first | apply blk_drewN | apply blk_drew | apply blk_alloc); exact BK524.out)) : gb568 ≠ gb524)); replace BK524 := blkE BK524 hb; have NB537_568 := Aside0.mk ((by rw [hg]; exact Nat.ne_of_lt (blk_lt (g := gb537) (o := .cells #[.int .i64 t525, .int .i64 t526, .int .i64 t527, .int .i64 t528, .int .i64 t529, .int .i64 t530, .int .i64 t531, .int .i64 t532, .int .i64 t533, .int .i64 t534, .int .i64 t535] 25 (0, 0)) (by (with_reducible repeat first | apply blk_drewN | apply blk_drew | apply blk_alloc); exact BK537.out)) : gb537 ≠ gb568)); have NB568_537 := Aside0.mk ((by rw [hg]; exact Nat.ne_of_gt (blk_lt (g := gb537) (o := .cells #[.int .i64 t525, .int .i64 t526, .int .i64 t527, .int .i64 t528, .int .i64 t529, .int .i64 t530, .int .i64 t531, .int .i64 t532, .int .i64 t533, .int .i64 t534, .int .i64 t535] 25 (0, 0)) (by (with_reducible repeat first | apply blk_drewN | apply blk_drew | apply blk_alloc); exact BK537.out)) : gb568 ≠ gb537)); replace BK537 := blkE BK537 hb; have NB550_568 := Aside0.mk ((by rw [hg]; exact Nat.ne_of_lt (blk_lt (g := gb550) (o := .cells #[.int .i64 t538, .int .i64 t539, .int .i64 t540, .int .i64 t541, .int .i64 t542, .int .i64 t543, .int .i64 t544, .int .i64 t545, .int .i64 t546, .int .i64 t547, .int .i64 t548] 25 (0, 0)) (by (with_reducible repeat first | apply blk_drewN | apply blk_drew | apply blk_alloc); exact BK550.out)) : gb550 ≠ gb568)); have NB568_550 := Aside0.mk ((by rw [hg]; exact Nat.ne_of_gt (blk_lt (g := gb550) (o := .cells #[.int .i64 t538, .int .i64 t539, .int .i64 t540, .int .i64 t541, .int .i64 t542, .int .i64 t543, .int .i64 t544, .int .i64 t545, .int .i64 t546, .int .i64 t547, .int .i64 t548] 25 (0, 0)) (by (with_reducible repeat first | apply blk_drewN | apply blk_drew | apply blk_alloc); exact BK550.out)) : gb568 ≠ gb550)); replace BK550 := blkE BK550 hb; have NB559_568 := Aside0.mk ((by rw [hg]; exact Nat.ne_of_lt (blk_lt (g := gb559) (o := .cells #[.int .i64 t551, .int .i64 t552, .int .i64 t553, .int .i64 t554, .int .i64 t555, .int .i64 t556, .int .i64 t557] 43 (0, 0)) (by (with_reducible repeat first | apply blk_drewN | apply blk_drew | apply blk_alloc); exact BK559.out)) : gb559 ≠ gb568)); have NB568_559 := Aside0.mk ((by rw [hg]; exact Nat.ne_of_gt (blk_lt (g := gb559) (o := .cells #[.int .i64 t551, .int .i64 t552, .int .i64 t553, .int .i64 t554, .int .i64 t555, .int .i64 t556, .int .i64 t557] 43 (0, 0)) (by (with_reducible repeat first | apply blk_drewN | apply blk_drew | apply blk_alloc); exact BK559.out)) : gb568 ≠ gb559)); replace BK559 := blkE BK559 hb; clear hb hbox hg; have hnb45 := NB568_523.out; have hnc45 := NB523_568.out; have hnb46 := NB568_524.out; have hnc46 := NB524_568.out; have hnb47 := NB568_537.out; have hnc47 := NB537_568.out; have hnb48 := NB568_550.out; have hnc48 := NB550_568.out; have hnb49 := NB568_559.out; have hnc49 := NB559_568.out; obtain ⟨hcz50_0, hcz50_1, hcz50_2, hcz50_3, hcz50_4, hcz50_5, hcz50_6⟩ := cells7 BK568.out; obtain ⟨hfz50_0, hfz50_1, hfz50_2, hfz50_3, hfz50_4, hfz50_5, hfz50_6⟩ := froz7 BK568.out))
              have n0_ : Aside0 ((((((((w44.setCell ⟨gb568, 0, none⟩ (.int .i64 t560)).setCell ⟨gb568, 1, none⟩ (.int .i64 t561)).setCell ⟨gb568, 2, none⟩ (.int .i64 t562)).setCell ⟨gb568, 3, none⟩ (.int .i64 t563)).setCell ⟨gb568, 4, none⟩ (.int .i64 t564)).setCell ⟨gb568, 5, none⟩ (.int .i64 t565)).setCell ⟨gb568, 6, none⟩ (.int .i64 t566)).heap[gb523]? = some (.cells #[.slice A0_0 l0_0.length c0_0, .slice A0_1 l0_1.length c0_1] 66 (0, 0))) := ⟨by (with_reducible repeat first | apply blk_drewN | apply blk_drew | apply blk_alloc); refine blk_far ?_ NB523_568.out _; (with_reducible repeat first | apply blk_drewN | apply blk_drew | apply blk_alloc); refine blk_far ?_ NB523_568.out _; (with_reducible repeat first | apply blk_drewN | apply blk_drew | apply blk_alloc); refine blk_far ?_ NB523_568.out _; (with_reducible repeat first | apply blk_drewN | apply blk_drew | apply blk_alloc); refine blk_far ?_ NB523_568.out _; (with_reducible repeat first | apply blk_drewN | apply blk_drew | apply blk_alloc); refine blk_far ?_ NB523_568.out _; (with_reducible repeat first | apply blk_drewN | apply blk_drew | apply blk_alloc); refine blk_far ?_ NB523_568.out _; (with_reducible repeat first | apply blk_drewN | apply blk_drew | apply blk_alloc); refine blk_far ?_ NB523_568.out _; (with_reducible repeat first | apply blk_drewN | apply blk_drew | apply blk_alloc); exact BK523.out⟩
              have n1_ : Aside0 ((((((((w44.setCell ⟨gb568, 0, none⟩ (.int .i64 t560)).setCell ⟨gb568, 1, none⟩ (.int .i64 t561)).setCell ⟨gb568, 2, none⟩ (.int .i64 t562)).setCell ⟨gb568, 3, none⟩ (.int .i64 t563)).setCell ⟨gb568, 4, none⟩ (.int .i64 t564)).setCell ⟨gb568, 5, none⟩ (.int .i64 t565)).setCell ⟨gb568, 6, none⟩ (.int .i64 t566)).heap[gb524]? = some (.cells #[.int .i64 a1_0, .int .i64 a1_1, .int .i64 a1_2, .int .i64 a1_3, .int .i64 a1_4, .int .i64 a1_5, .int .i64 a1_6, .int .i64 a1_7, .int .i64 a1_8, .int .i64 a1_9, .int .i64 a1_10] 25 (0, 0))) := ⟨by (with_reducible repeat first | apply blk_drewN | apply blk_drew | apply blk_alloc); refine blk_far ?_ NB524_568.out _; (with_reducible repeat first | apply blk_drewN | apply blk_drew | apply blk_alloc); refine blk_far ?_ NB524_568.out _; (with_reducible repeat first | apply blk_drewN | apply blk_drew | apply blk_alloc); refine blk_far ?_ NB524_568.out _; (with_reducible repeat first | apply blk_drewN | apply blk_drew | apply blk_alloc); refine blk_far ?_ NB524_568.out _; (with_reducible repeat first | apply blk_drewN | apply blk_drew | apply blk_alloc); refine blk_far ?_ NB524_568.out _; (with_reducible repeat first | apply blk_drewN | apply blk_drew | apply blk_alloc); refine blk_far ?_ NB524_568.out _; (with_reducible repeat first | apply blk_drewN | apply blk_drew | apply blk_alloc); refine blk_far ?_ NB524_568.out _; (with_reducible repeat first | apply blk_drewN | apply blk_drew | apply blk_alloc); exact BK524.out⟩
              have n2_ : Aside0 ((((((((w44.setCell ⟨gb568, 0, none⟩ (.int .i64 t560)).setCell ⟨gb568, 1, none⟩ (.int .i64 t561)).setCell ⟨gb568, 2, none⟩ (.int .i64 t562)).setCell ⟨gb568, 3, none⟩ (.int .i64 t563)).setCell ⟨gb568, 4, none⟩ (.int .i64 t564)).setCell ⟨gb568, 5, none⟩ (.int .i64 t565)).setCell ⟨gb568, 6, none⟩ (.int .i64 t566)).heap[gb537]? = some (.cells #[.int .i64 t525, .int .i64 t526, .int .i64 t527, .int .i64 t528, .int .i64 t529, .int .i64 t530, .int .i64 t531, .int .i64 t532, .int .i64 t533, .int .i64 t534, .int .i64 t535] 25 (0, 0))) := ⟨by (with_reducible repeat first | apply blk_drewN | apply blk_drew | apply blk_alloc); refine blk_far ?_ NB537_568.out _; (with_reducible repeat first | apply blk_drewN | apply blk_drew | apply blk_alloc); refine blk_far ?_ NB537_568.out _; (with_reducible repeat first | apply blk_drewN | apply blk_drew | apply blk_alloc); refine blk_far ?_ NB537_568.out _; (with_reducible repeat first | apply blk_drewN | apply blk_drew | apply blk_alloc); refine blk_far ?_ NB537_568.out _; (with_reducible repeat first | apply blk_drewN | apply blk_drew | apply blk_alloc); refine blk_far ?_ NB537_568.out _; (with_reducible repeat first | apply blk_drewN | apply blk_drew | apply blk_alloc); refine blk_far ?_ NB537_568.out _; (with_reducible repeat first | apply blk_drewN | apply blk_drew | apply blk_alloc); refine blk_far ?_ NB537_568.out _; (with_reducible repeat first | apply blk_drewN | apply blk_drew | apply blk_alloc); exact BK537.out⟩
              have n3_ : Aside0 ((((((((w44.setCell ⟨gb568, 0, none⟩ (.int .i64 t560)).setCell ⟨gb568, 1, none⟩ (.int .i64 t561)).setCell ⟨gb568, 2, none⟩ (.int .i64 t562)).setCell ⟨gb568, 3, none⟩ (.int .i64 t563)).setCell ⟨gb568, 4, none⟩ (.int .i64 t564)).setCell ⟨gb568, 5, none⟩ (.int .i64 t565)).setCell ⟨gb568, 6, none⟩ (.int .i64 t566)).heap[gb550]? = some (.cells #[.int .i64 t538, .int .i64 t539, .int .i64 t540, .int .i64 t541, .int .i64 t542, .int .i64 t543, .int .i64 t544, .int .i64 t545, .int .i64 t546, .int .i64 t547, .int .i64 t548] 25 (0, 0))) := ⟨by (with_reducible repeat first | apply blk_drewN | apply blk_drew | apply blk_alloc); refine blk_far ?_ NB550_568.out _; (with_reducible repeat first | apply blk_drewN | apply blk_drew | apply blk_alloc); refine blk_far ?_ NB550_568.out _; (with_reducible repeat first | apply blk_drewN | apply blk_drew | apply blk_alloc); refine blk_far ?_ NB550_568.out _; (with_reducible repeat first | apply blk_drewN | apply blk_drew | apply blk_alloc); refine blk_far ?_ NB550_568.out _; (with_reducible repeat first | apply blk_drewN | apply blk_drew | apply blk_alloc); refine blk_far ?_ NB550_568.out _; (with_reducible repeat first | apply blk_drewN | apply blk_drew | apply blk_alloc); refine blk_far ?_ NB550_568.out _; (with_reducible repeat first | apply blk_drewN | apply blk_drew | apply blk_alloc); refine blk_far ?_ NB550_568.out _; (with_reducible repeat first | apply blk_drewN | apply blk_drew | apply blk_alloc); exact BK550.out⟩
              have n4_ : Aside0 ((((((((w44.setCell ⟨gb568, 0, none⟩ (.int .i64 t560)).setCell ⟨gb568, 1, none⟩ (.int .i64 t561)).setCell ⟨gb568, 2, none⟩ (.int .i64 t562)).setCell ⟨gb568, 3, none⟩ (.int .i64 t563)).setCell ⟨gb568, 4, none⟩ (.int .i64 t564)).setCell ⟨gb568, 5, none⟩ (.int .i64 t565)).setCell ⟨gb568, 6, none⟩ (.int .i64 t566)).heap[gb559]? = some (.cells #[.int .i64 t551, .int .i64 t552, .int .i64 t553, .int .i64 t554, .int .i64 t555, .int .i64 t556, .int .i64 t557] 43 (0, 0))) := ⟨by (with_reducible repeat first | apply blk_drewN | apply blk_drew | apply blk_alloc); refine blk_far ?_ NB559_568.out _; (with_reducible repeat first | apply blk_drewN | apply blk_drew | apply blk_alloc); refine blk_far ?_ NB559_568.out _; (with_reducible repeat first | apply blk_drewN | apply blk_drew | apply blk_alloc); refine blk_far ?_ NB559_568.out _; (with_reducible repeat first | apply blk_drewN | apply blk_drew | apply blk_alloc); refine blk_far ?_ NB559_568.out _; (with_reducible repeat first | apply blk_drewN | apply blk_drew | apply blk_alloc); refine blk_far ?_ NB559_568.out _; (with_reducible repeat first | apply blk_drewN | apply blk_drew | apply blk_alloc); refine blk_far ?_ NB559_568.out _; (with_reducible repeat first | apply blk_drewN | apply blk_drew | apply blk_alloc); refine blk_far ?_ NB559_568.out _; (with_reducible repeat first | apply blk_drewN | apply blk_drew | apply blk_alloc); exact BK559.out⟩
              have n5_ : Aside0 ((((((((w44.setCell ⟨gb568, 0, none⟩ (.int .i64 t560)).setCell ⟨gb568, 1, none⟩ (.int .i64 t561)).setCell ⟨gb568, 2, none⟩ (.int .i64 t562)).setCell ⟨gb568, 3, none⟩ (.int .i64 t563)).setCell ⟨gb568, 4, none⟩ (.int .i64 t564)).setCell ⟨gb568, 5, none⟩ (.int .i64 t565)).setCell ⟨gb568, 6, none⟩ (.int .i64 t566)).heap[gb568]? = some (.cells #[.int .i64 t560, .int .i64 t561, .int .i64 t562, .int .i64 t563, .int .i64 t564, .int .i64 t565, .int .i64 t566] 43 (0, 0))) := ⟨by (with_reducible repeat first | apply blk_drewN | apply blk_drew | apply blk_alloc); refine blk_put (cs := #[.int .i64 t560, .int .i64 t561, .int .i64 t562, .int .i64 t563, .int .i64 t564, .int .i64 t565, .int .i64 0]) ?_ 6 _ rfl; (with_reducible repeat first | apply blk_drewN | apply blk_drew | apply blk_alloc); refine blk_put (cs := #[.int .i64 t560, .int .i64 t561, .int .i64 t562, .int .i64 t563, .int .i64 t564, .int .i64 0, .int .i64 0]) ?_ 5 _ rfl; (with_reducible repeat first | apply blk_drewN | apply blk_drew | apply blk_alloc); refine blk_put (cs := #[.int .i64 t560, .int .i64 t561, .int .i64 t562, .int .i64 t563, .int .i64 0, .int .i64 0, .int .i64 0]) ?_ 4 _ rfl; (with_reducible repeat first | apply blk_drewN | apply blk_drew | apply blk_alloc); refine blk_put (cs := #[.int .i64 t560, .int .i64 t561, .int .i64 t562, .int .i64 0, .int .i64 0, .int .i64 0, .int .i64 0]) ?_ 3 _ rfl; (with_reducible repeat first | apply blk_drewN | apply blk_drew | apply blk_alloc); refine blk_put (cs := #[.int .i64 t560, .int .i64 t561, .int .i64 0, .int .i64 0, .int .i64 0, .int .i64 0, .int .i64 0]) ?_ 2 _ rfl; (with_reducible repeat first | apply blk_drewN | apply blk_drew | apply blk_alloc); refine blk_put (cs := #[.int .i64 t560, .int .i64 0, .int .i64 0, .int .i64 0, .int .i64 0, .int .i64 0, .int .i64 0]) ?_ 1 _ rfl; (with_reducible repeat first | apply blk_drewN | apply blk_drew | apply blk_alloc); refine blk_put (cs := #[.int .i64 0, .int .i64 0, .int .i64 0, .int .i64 0, .int .i64 0, .int .i64 0, .int .i64 0]) ?_ 0 _ rfl; (with_reducible repeat first | apply blk_drewN | apply blk_drew | apply blk_alloc); exact BK568.out⟩
              have n6_ : Aside0 (Below w.heap.size w (((((((w44.setCell ⟨gb568, 0, none⟩ (.int .i64 t560)).setCell ⟨gb568, 1, none⟩ (.int .i64 t561)).setCell ⟨gb568, 2, none⟩ (.int .i64 t562)).setCell ⟨gb568, 3, none⟩ (.int .i64 t563)).setCell ⟨gb568, 4, none⟩ (.int .i64 t564)).setCell ⟨gb568, 5, none⟩ (.int .i64 t565)).setCell ⟨gb568, 6, none⟩ (.int .i64 t566))) := ⟨by repeat (first | (with_reducible first | exact HB.out | apply below_alloc | apply pw_below_drewN | apply below_drew1 | refine below_set ?_ GE523.out | refine below_set ?_ GE524.out | refine below_set ?_ GE537.out | refine below_set ?_ GE550.out | refine below_set ?_ GE559.out | refine below_set ?_ GE568.out) | exact HB.out)⟩
              (try clear BK523)
              (try clear BK524)
              (try clear BK537)
              (try clear BK550)
              (try clear BK559)
              (try clear BK568)
              (try clear HB)
              generalize (((((((w44.setCell ⟨gb568, 0, none⟩ (.int .i64 t560)).setCell ⟨gb568, 1, none⟩ (.int .i64 t561)).setCell ⟨gb568, 2, none⟩ (.int .i64 t562)).setCell ⟨gb568, 3, none⟩ (.int .i64 t563)).setCell ⟨gb568, 4, none⟩ (.int .i64 t564)).setCell ⟨gb568, 5, none⟩ (.int .i64 t565)).setCell ⟨gb568, 6, none⟩ (.int .i64 t566)) = w51 at n0_ n1_ n2_ n3_ n4_ n5_ n6_ ⊢
              have BK523 := n0_
              have BK524 := n1_
              have BK537 := n2_
              have BK550 := n3_
              have BK559 := n4_
              have BK568 := n5_
              have HB := n6_
              clear n0_ n1_ n2_ n3_ n4_ n5_ n6_
              have n0_ := Aside0.mk (blk_drew BK523.out)
              have n1_ := Aside0.mk (blk_drew BK524.out)
              have n2_ := Aside0.mk (blk_drew BK537.out)
              have n3_ := Aside0.mk (blk_drew BK550.out)
              have n4_ := Aside0.mk (blk_drew BK559.out)
              have n5_ := Aside0.mk (blk_drew BK568.out)
              have n6_ := Aside0.mk (below_drew1 HB.out)
              clear BK523
              clear BK524
              clear BK537
              clear BK550
              clear BK559
              clear BK568
              clear HB
              have BK523 := n0_
              have BK524 := n1_
              have BK537 := n2_
              have BK550 := n3_
              have BK559 := n4_
              have BK568 := n5_
              have HB := n6_
              clear n0_ n1_ n2_ n3_ n4_ n5_ n6_
              refine start_ (n := 32) (S := fun w' => w'.cell? ⟨gb537, 0, none⟩ = some (.int .i64 t525) ∧ w'.cell? ⟨gb537, 1, none⟩ = some (.int .i64 t526) ∧ w'.cell? ⟨gb537, 2, none⟩ = some (.int .i64 t527) ∧ w'.cell? ⟨gb537, 3, none⟩ = some (.int .i64 t528) ∧ w'.cell? ⟨gb537, 4, none⟩ = some (.int .i64 t529) ∧ w'.cell? ⟨gb537, 5, none⟩ = some (.int .i64 t530) ∧ w'.cell? ⟨gb537, 6, none⟩ = some (.int .i64 t531) ∧ w'.cell? ⟨gb537, 7, none⟩ = some (.int .i64 t532) ∧ w'.cell? ⟨gb537, 8, none⟩ = some (.int .i64 t533) ∧ w'.cell? ⟨gb537, 9, none⟩ = some (.int .i64 t534) ∧ w'.cell? ⟨gb537, 10, none⟩ = some (.int .i64 t535) ∧ w'.cell? ⟨gb550, 0, none⟩ = some (.int .i64 t538) ∧ w'.cell? ⟨gb550, 1, none⟩ = some (.int .i64 t539) ∧ w'.cell? ⟨gb550, 2, none⟩ = some (.int .i64 t540) ∧ w'.cell? ⟨gb550, 3, none⟩ = some (.int .i64 t541) ∧ w'.cell? ⟨gb550, 4, none⟩ = some (.int .i64 t542) ∧ w'.cell? ⟨gb550, 5, none⟩ = some (.int .i64 t543) ∧ w'.cell? ⟨gb550, 6, none⟩ = some (.int .i64 t544) ∧ w'.cell? ⟨gb550, 7, none⟩ = some (.int .i64 t545) ∧ w'.cell? ⟨gb550, 8, none⟩ = some (.int .i64 t546) ∧ w'.cell? ⟨gb550, 9, none⟩ = some (.int .i64 t547) ∧ w'.cell? ⟨gb550, 10, none⟩ = some (.int .i64 t548) ∧ w'.cell? ⟨gb559, 0, none⟩ = some (.int .i64 t551) ∧ w'.cell? ⟨gb559, 1, none⟩ = some (.int .i64 t552) ∧ w'.cell? ⟨gb559, 2, none⟩ = some (.int .i64 t553) ∧ w'.cell? ⟨gb559, 3, none⟩ = some (.int .i64 t554) ∧ w'.cell? ⟨gb559, 4, none⟩ = some (.int .i64 t555) ∧ w'.cell? ⟨gb559, 5, none⟩ = some (.int .i64 t556) ∧ w'.cell? ⟨gb559, 6, none⟩ = some (.int .i64 t557) ∧ w'.cell? ⟨gb568, 0, none⟩ = some (.int .i64 t560) ∧ w'.cell? ⟨gb568, 1, none⟩ = some (.int .i64 t561) ∧ w'.cell? ⟨gb568, 2, none⟩ = some (.int .i64 t562) ∧ w'.cell? ⟨gb568, 3, none⟩ = some (.int .i64 t563) ∧ w'.cell? ⟨gb568, 4, none⟩ = some (.int .i64 t564) ∧ w'.cell? ⟨gb568, 5, none⟩ = some (.int .i64 t565) ∧ w'.cell? ⟨gb568, 6, none⟩ = some (.int .i64 t566) ∧ w'.cell? ⟨gb524, 0, none⟩ = some (.int .i64 a1_0) ∧ w'.cell? ⟨gb524, 1, none⟩ = some (.int .i64 a1_1) ∧ w'.cell? ⟨gb524, 2, none⟩ = some (.int .i64 a1_2) ∧ w'.cell? ⟨gb524, 3, none⟩ = some (.int .i64 a1_3) ∧ w'.cell? ⟨gb524, 4, none⟩ = some (.int .i64 a1_4) ∧ w'.cell? ⟨gb524, 5, none⟩ = some (.int .i64 a1_5) ∧ w'.cell? ⟨gb524, 6, none⟩ = some (.int .i64 a1_6) ∧ w'.cell? ⟨gb524, 7, none⟩ = some (.int .i64 a1_7) ∧ w'.cell? ⟨gb524, 8, none⟩ = some (.int .i64 a1_8) ∧ w'.cell? ⟨gb524, 9, none⟩ = some (.int .i64 a1_9) ∧ w'.cell? ⟨gb524, 10, none⟩ = some (.int .i64 a1_10) ∧ w'.cell? ⟨gb523, 0, none⟩ = some (.slice A0_0 l0_0.length c0_0) ∧ w'.cell? ⟨gb523, 1, none⟩ = some (.slice A0_1 l0_1.length c0_1)) (ds := []) #[false, false, false, false, false, false, false, false, false, false, false, false, false, false, false, false, false, false, false, false, false, false, false, false, false, false, false, false, false, false, false, false] (by kernel_rfl) rfl rfl ⟨(blk_cell BK537.out 0).trans rfl, (blk_cell BK537.out 1).trans rfl, (blk_cell BK537.out 2).trans rfl, (blk_cell BK537.out 3).trans rfl, (blk_cell BK537.out 4).trans rfl, (blk_cell BK537.out 5).trans rfl, (blk_cell BK537.out 6).trans rfl, (blk_cell BK537.out 7).trans rfl, (blk_cell BK537.out 8).trans rfl, (blk_cell BK537.out 9).trans rfl, (blk_cell BK537.out 10).trans rfl, (blk_cell BK550.out 0).trans rfl, (blk_cell BK550.out 1).trans rfl, (blk_cell BK550.out 2).trans rfl, (blk_cell BK550.out 3).trans rfl, (blk_cell BK550.out 4).trans rfl, (blk_cell BK550.out 5).trans rfl, (blk_cell BK550.out 6).trans rfl, (blk_cell BK550.out 7).trans rfl, (blk_cell BK550.out 8).trans rfl, (blk_cell BK550.out 9).trans rfl, (blk_cell BK550.out 10).trans rfl, (blk_cell BK559.out 0).trans rfl, (blk_cell BK559.out 1).trans rfl, (blk_cell BK559.out 2).trans rfl, (blk_cell BK559.out 3).trans rfl, (blk_cell BK559.out 4).trans rfl, (blk_cell BK559.out 5).trans rfl, (blk_cell BK559.out 6).trans rfl, (blk_cell BK568.out 0).trans rfl, (blk_cell BK568.out 1).trans rfl, (blk_cell BK568.out 2).trans rfl, (blk_cell BK568.out 3).trans rfl, (blk_cell BK568.out 4).trans rfl, (blk_cell BK568.out 5).trans rfl, (blk_cell BK568.out 6).trans rfl, (blk_cell BK524.out 0).trans rfl, (blk_cell BK524.out 1).trans rfl, (blk_cell BK524.out 2).trans rfl, (blk_cell BK524.out 3).trans rfl, (blk_cell BK524.out 4).trans rfl, (blk_cell BK524.out 5).trans rfl, (blk_cell BK524.out 6).trans rfl, (blk_cell BK524.out 7).trans rfl, (blk_cell BK524.out 8).trans rfl, (blk_cell BK524.out 9).trans rfl, (blk_cell BK524.out 10).trans rfl, (blk_cell BK523.out 0).trans rfl, (blk_cell BK523.out 1).trans rfl⟩ (fun hHeld => ?_); refine with_tabW potbanklaw01_WareChecks.tab5 potbanklaw01_WareChecks.bits5 (fun HT_ HW_ => ?_)
              generalize w51.drew = w52 at BK523 BK524 BK537 BK550 BK559 BK568 HB hHeld ⊢
              refine take_ (i := 0) (N := some 40) (v := ?_) (a' := ?_) #[true, false, false, false, false, false, false, false, false, false, false, false, false, false, false, false, false, false, false, false, false, false, false, false, false, false, false, false, false, false, false, false] rfl rfl (take_ofW HT_.out HW_.out (by kernel_rfl)) (fun _ _ _ h => h) (Or.inl ⟨by rfl, ?_⟩) hHeld ?_ ?_
              rotate_left
              · rintro w' ⟨s0, s1, s2, s3, s4, s5, s6, s7, s8, s9, s10, s11, s12, s13, s14, s15, s16, s17, s18, s19, s20, s21, s22, s23, s24, s25, s26, s27, s28, s29, s30, s31, s32, s33, s34, s35, s36, s37, s38, s39, s40, s41, s42, s43, s44, s45, s46, s47, s48⟩
                go_simp
                with_reducible rfl
              rotate_left
              · simp only [Act.put, List.setIfInBounds_toArray, List.set_cons_zero, List.set_cons_succ, i64_w, i32_w]
                rfl
              refine take_ (i := 1) (N := some 41) (v := ?_) (a' := ?_) #[true, true, false, false, false, false, false, false, false, false, false, false, false, false, false, false, false, false, false, false, false, false, false, false, false, false, false, false, false, false, false, false] rfl rfl (take_ofW HT_.out HW_.out (by kernel_rfl)) (fun _ _ _ h => h) (Or.inl ⟨by rfl, ?_⟩) hHeld ?_ ?_
              rotate_left
              · rintro w' ⟨s0, s1, s2, s3, s4, s5, s6, s7, s8, s9, s10, s11, s12, s13, s14, s15, s16, s17, s18, s19, s20, s21, s22, s23, s24, s25, s26, s27, s28, s29, s30, s31, s32, s33, s34, s35, s36, s37, s38, s39, s40, s41, s42, s43, s44, s45, s46, s47, s48⟩
                go_simp
                with_reducible rfl
              rotate_left
              · simp only [Act.put, List.setIfInBounds_toArray, List.set_cons_zero, List.set_cons_succ, i64_w, i32_w]
                rfl
              refine pure_ (i := 2) (N := some 42) (v := ?_) (a' := ?_) #[true, true, true, false, false, false, false, false, false, false, false, false, false, false, false, false, false, false, false, false, false, false, false, false, false, false, false, false, false, false, false, false] rfl rfl (any_of HT_.out (by kernel_rfl)) (fun _ _ _ h => h) (Or.inl ⟨by rfl, ?_⟩) ?_ ?_
              rotate_left
              · intro w'
                go_simp
                with_reducible rfl
              rotate_left
              · simp only [Act.put, List.setIfInBounds_toArray, List.set_cons_zero, List.set_cons_succ, i64_w, i32_w]
                rfl
              refine pure_ (i := 3) (N := some 43) (v := ?_) (a' := ?_) #[true, true, true, true, false, false, false, false, false, false, false, false, false, false, false, false, false, false, false, false, false, false, false, false, false, false, false, false, false, false, false, false] rfl rfl (any_of HT_.out (by kernel_rfl)) (fun _ _ _ h => h) (Or.inl ⟨by rfl, ?_⟩) ?_ ?_
              rotate_left
              · intro w'
                go_simp
                with_reducible rfl
              rotate_left
              · simp only [Act.put, List.setIfInBounds_toArray, List.set_cons_zero, List.set_cons_succ, i64_w, i32_w]
                rfl
              refine pure_ (i := 4) (N := some 44) (v := ?_) (a' := ?_) #[true, true, true, true, true, false, false, false, false, false, false, false, false, false, false, false, false, false, false, false, false, false, false, false, false, false, false, false, false, false, false, false] rfl rfl (any_of HT_.out (by kernel_rfl)) (fun _ _ _ h => h) (Or.inl ⟨by rfl, ?_⟩) ?_ ?_
              rotate_left
              · intro w'
                go_simp
                with_reducible rfl
              rotate_left
              · simp only [Act.put, List.setIfInBounds_toArray, List.set_cons_zero, List.set_cons_succ, i64_w, i32_w]
                rfl
              refine pure_ (i := 5) (N := some 45) (v := ?_) (a' := ?_) #[true, true, true, true, true, true, false, false, false, false, false, false, false, false, false, false, false, false, false, false, false, false, false, false, false, false, false, false, false, false, false, false] rfl rfl (any_of HT_.out (by kernel_rfl)) (fun _ _ _ h => h) (Or.inl ⟨by rfl, ?_⟩) ?_ ?_
              rotate_left
              · intro w'
                go_simp
                with_reducible rfl
              rotate_left
              · simp only [Act.put, List.setIfInBounds_toArray, List.set_cons_zero, List.set_cons_succ, i64_w, i32_w]
                rfl
              refine pure_ (i := 6) (N := some 46) (v := ?_) (a' := ?_) #[true, true, true, true, true, true, true, false, false, false, false, false, false, false, false, false, false, false, false, false, false, false, false, false, false, false, false, false, false, false, false, false] rfl rfl (any_of HT_.out (by kernel_rfl)) (fun _ _ _ h => h) (Or.inl ⟨by rfl, ?_⟩) ?_ ?_
              rotate_left
              · intro w'
                go_simp
                with_reducible rfl
              rotate_left
              · simp only [Act.put, List.setIfInBounds_toArray, List.set_cons_zero, List.set_cons_succ, i64_w, i32_w]
                rfl
              refine pure_ (i := 7) (N := some 47) (v := ?_) (a' := ?_) #[true, true, true, true, true, true, true, true, false, false, false, false, false, false, false, false, false, false, false, false, false, false, false, false, false, false, false, false, false, false, false, false] rfl rfl (any_of HT_.out (by kernel_rfl)) (fun _ _ _ h => h) (Or.inl ⟨by rfl, ?_⟩) ?_ ?_
              rotate_left
              · intro w'
                go_simp
                with_reducible rfl
              rotate_left
              · simp only [Act.put, List.setIfInBounds_toArray, List.set_cons_zero, List.set_cons_succ, i64_w, i32_w]
                rfl
              refine pure_ (i := 8) (N := some 48) (v := ?_) (a' := ?_) #[true, true, true, true, true, true, true, true, true, false, false, false, false, false, false, false, false, false, false, false, false, false, false, false, false, false, false, false, false, false, false, false] rfl rfl (any_of HT_.out (by kernel_rfl)) (fun _ _ _ h => h) (Or.inl ⟨by rfl, ?_⟩) ?_ ?_
              rotate_left
              · intro w'
                go_simp
                with_reducible rfl
              rotate_left
              · simp only [Act.put, List.setIfInBounds_toArray, List.set_cons_zero, List.set_cons_succ, i64_w, i32_w]
                rfl
              refine take_ (i := 9) (N := some 49) (v := ?_) (a' := ?_) #[true, true, true, true, true, true, true, true, true, true, false, false, false, false, false, false, false, false, false, false, false, false, false, false, false, false, false, false, false, false, false, false] rfl rfl (take_ofW HT_.out HW_.out (by kernel_rfl)) (fun _ _ _ h => h) (Or.inl ⟨by rfl, ?_⟩) hHeld ?_ ?_
              rotate_left
              · rintro w' ⟨s0, s1, s2, s3, s4, s5, s6, s7, s8, s9, s10, s11, s12, s13, s14, s15, s16, s17, s18, s19, s20, s21, s22, s23, s24, s25, s26, s27, s28, s29, s30, s31, s32, s33, s34, s35, s36, s37, s38, s39, s40, s41, s42, s43, s44, s45, s46, s47, s48⟩
                go_simp
                with_reducible rfl
              rotate_left
              · simp only [Act.put, List.setIfInBounds_toArray, List.set_cons_zero, List.set_cons_succ, i64_w, i32_w]
                rfl
              refine take_ (i := 10) (N := some 50) (v := ?_) (a' := ?_) #[true, true, true, true, true, true, true, true, true, true, true, false, false, false, false, false, false, false, false, false, false, false, false, false, false, false, false, false, false, false, false, false] rfl rfl (take_ofW HT_.out HW_.out (by kernel_rfl)) (fun _ _ _ h => h) (Or.inl ⟨by rfl, ?_⟩) hHeld ?_ ?_
              rotate_left
              · rintro w' ⟨s0, s1, s2, s3, s4, s5, s6, s7, s8, s9, s10, s11, s12, s13, s14, s15, s16, s17, s18, s19, s20, s21, s22, s23, s24, s25, s26, s27, s28, s29, s30, s31, s32, s33, s34, s35, s36, s37, s38, s39, s40, s41, s42, s43, s44, s45, s46, s47, s48⟩
                go_simp
                with_reducible rfl
              rotate_left
              · simp only [Act.put, List.setIfInBounds_toArray, List.set_cons_zero, List.set_cons_succ, i64_w, i32_w]
                rfl
              refine pure_ (i := 11) (N := some 51) (v := ?_) (a' := ?_) #[true, true, true, true, true, true, true, true, true, true, true, true, false, false, false, false, false, false, false, false, false, false, false, false, false, false, false, false, false, false, false, false] rfl rfl (any_of HT_.out (by kernel_rfl)) (fun _ _ _ h => h) (Or.inl ⟨by rfl, ?_⟩) ?_ ?_
              rotate_left
              · intro w'
                go_simp
                with_reducible rfl
              rotate_left
              · simp only [Act.put, List.setIfInBounds_toArray, List.set_cons_zero, List.set_cons_succ, i64_w, i32_w]
                rfl
              refine pure_ (i := 12) (N := some 52) (v := ?_) (a' := ?_) #[true, true, true, true, true, true, true, true, true, true, true, true, true, false, false, false, false, false, false, false, false, false, false, false, false, false, false, false, false, false, false, false] rfl rfl (any_of HT_.out (by kernel_rfl)) (fun _ _ _ h => h) (Or.inl ⟨by rfl, ?_⟩) ?_ ?_
              rotate_left
              · intro w'
                go_simp
                with_reducible rfl
              rotate_left
              · simp only [Act.put, List.setIfInBounds_toArray, List.set_cons_zero, List.set_cons_succ, i64_w, i32_w]
                rfl
              refine pure_ (i := 13) (N := some 53) (v := ?_) (a' := ?_) #[true, true, true, true, true, true, true, true, true, true, true, true, true, true, false, false, false, false, false, false, false, false, false, false, false, false, false, false, false, false, false, false] rfl rfl (any_of HT_.out (by kernel_rfl)) (fun _ _ _ h => h) (Or.inl ⟨by rfl, ?_⟩) ?_ ?_
              rotate_left
              · intro w'
                go_simp
                with_reducible rfl
              rotate_left
              · simp only [Act.put, List.setIfInBounds_toArray, List.set_cons_zero, List.set_cons_succ, i64_w, i32_w]
                rfl
              refine pure_ (i := 14) (N := some 54) (v := ?_) (a' := ?_) #[true, true, true, true, true, true, true, true, true, true, true, true, true, true, true, false, false, false, false, false, false, false, false, false, false, false, false, false, false, false, false, false] rfl rfl (any_of HT_.out (by kernel_rfl)) (fun _ _ _ h => h) (Or.inl ⟨by rfl, ?_⟩) ?_ ?_
              rotate_left
              · intro w'
                go_simp
                with_reducible rfl
              rotate_left
              · simp only [Act.put, List.setIfInBounds_toArray, List.set_cons_zero, List.set_cons_succ, i64_w, i32_w]
                rfl
              refine pure_ (i := 15) (N := some 55) (v := ?_) (a' := ?_) #[true, true, true, true, true, true, true, true, true, true, true, true, true, true, true, true, false, false, false, false, false, false, false, false, false, false, false, false, false, false, false, false] rfl rfl (any_of HT_.out (by kernel_rfl)) (fun _ _ _ h => h) (Or.inl ⟨by rfl, ?_⟩) ?_ ?_
              rotate_left
              · intro w'
                go_simp
                with_reducible rfl
              rotate_left
              · simp only [Act.put, List.setIfInBounds_toArray, List.set_cons_zero, List.set_cons_succ, i64_w, i32_w]
                rfl
              refine pure_ (i := 16) (N := some 56) (v := ?_) (a' := ?_) #[true, true, true, true, true, true, true, true, true, true, true, true, true, true, true, true, true, false, false, false, false, false, false, false, false, false, false, false, false, false, false, false] rfl rfl (any_of HT_.out (by kernel_rfl)) (fun _ _ _ h => h) (Or.inl ⟨by rfl, ?_⟩) ?_ ?_
              rotate_left
              · intro w'
                go_simp
                with_reducible rfl
              rotate_left
              · simp only [Act.put, List.setIfInBounds_toArray, List.set_cons_zero, List.set_cons_succ, i64_w, i32_w]
                rfl
              refine pure_ (i := 17) (N := some 57) (v := ?_) (a' := ?_) #[true, true, true, true, true, true, true, true, true, true, true, true, true, true, true, true, true, true, false, false, false, false, false, false, false, false, false, false, false, false, false, false] rfl rfl (any_of HT_.out (by kernel_rfl)) (fun _ _ _ h => h) (Or.inl ⟨by rfl, ?_⟩) ?_ ?_
              rotate_left
              · intro w'
                go_simp
                with_reducible rfl
              rotate_left
              · simp only [Act.put, List.setIfInBounds_toArray, List.set_cons_zero, List.set_cons_succ, i64_w, i32_w]
                rfl
              refine pure_ (i := 18) (N := some 58) (v := ?_) (a' := ?_) #[true, true, true, true, true, true, true, true, true, true, true, true, true, true, true, true, true, true, true, false, false, false, false, false, false, false, false, false, false, false, false, false] rfl rfl (any_of HT_.out (by kernel_rfl)) (fun _ _ _ h => h) (Or.inl ⟨by rfl, ?_⟩) ?_ ?_
              rotate_left
              · intro w'
                go_simp
                with_reducible rfl
              rotate_left
              · simp only [Act.put, List.setIfInBounds_toArray, List.set_cons_zero, List.set_cons_succ, i64_w, i32_w]
                rfl
              refine take_ (i := 19) (N := some 59) (v := ?_) (a' := ?_) #[true, true, true, true, true, true, true, true, true, true, true, true, true, true, true, true, true, true, true, true, false, false, false, false, false, false, false, false, false, false, false, false] rfl rfl (take_ofW HT_.out HW_.out (by kernel_rfl)) (fun _ _ _ h => h) (Or.inl ⟨by rfl, ?_⟩) hHeld ?_ ?_
              rotate_left
              · rintro w' ⟨s0, s1, s2, s3, s4, s5, s6, s7, s8, s9, s10, s11, s12, s13, s14, s15, s16, s17, s18, s19, s20, s21, s22, s23, s24, s25, s26, s27, s28, s29, s30, s31, s32, s33, s34, s35, s36, s37, s38, s39, s40, s41, s42, s43, s44, s45, s46, s47, s48⟩
                go_simp
                with_reducible rfl
              rotate_left
              · simp only [Act.put, List.setIfInBounds_toArray, List.set_cons_zero, List.set_cons_succ, i64_w, i32_w]
                rfl
              refine take_ (i := 21) (N := some 61) (v := ?_) (a' := ?_) #[true, true, true, true, true, true, true, true, true, true, true, true, true, true, true, true, true, true, true, true, false, true, false, false, false, false, false, false, false, false, false, false] rfl rfl (take_ofW HT_.out HW_.out (by kernel_rfl)) (fun _ _ _ h => h) (Or.inl ⟨by rfl, ?_⟩) hHeld ?_ ?_
              rotate_left
              · rintro w' ⟨s0, s1, s2, s3, s4, s5, s6, s7, s8, s9, s10, s11, s12, s13, s14, s15, s16, s17, s18, s19, s20, s21, s22, s23, s24, s25, s26, s27, s28, s29, s30, s31, s32, s33, s34, s35, s36, s37, s38, s39, s40, s41, s42, s43, s44, s45, s46, s47, s48⟩
                go_simp
                with_reducible rfl
              rotate_left
              · simp only [Act.put, List.setIfInBounds_toArray, List.set_cons_zero, List.set_cons_succ, i64_w, i32_w]
                rfl
              refine one_ (i := 20) (N := some 60) #[true, true, true, true, true, true, true, true, true, true, true, true, true, true, true, true, true, true, true, true, true, true, false, false, false, false, false, false, false, false, false, false] rfl rfl (one_of HT_.out (by kernel_rfl)) (by decide) (fun K hK => ?_)
              refine goes_ Try.func27 (by kernel_rfl) rfl #[.agg #[.int .i64 a1_0, .int .i64 a1_1, .int .i64 a1_2, .int .i64 a1_3, .int .i64 a1_4, .int .i64 a1_5, .int .i64 a1_6, .int .i64 a1_7, .int .i64 a1_8, .int .i64 a1_9, .int .i64 a1_10]] (by rfl) rfl rfl (by (try simp only [List.map_toArray, List.map_cons, List.map_nil]); first | done | rfl | (simp only [List.length_drop, List.length_take]; rfl)) ?_
              with_reducible refine (ware_CheckShape.calls a1_0 a1_1 a1_2 a1_3 a1_4 a1_5 a1_6 a1_7 a1_8 a1_9 a1_10 t569 _ A12.out).mono ?_
              rintro e w53 ⟨rfl, hb⟩
              refine ⟨_, rfl, ?_⟩
              have n0_ := blkE BK523 hb
              have n1_ := blkE BK524 hb
              have n2_ := blkE BK537 hb
              have n3_ := blkE BK550 hb
              have n4_ := blkE BK559 hb
              have n5_ := blkE BK568 hb
              have n6_ := Aside0.mk (below_step (by repeat (first | (with_reducible first | exact HB.out | apply below_alloc | apply pw_below_drewN | apply below_drew1 | refine below_set ?_ GE523.out | refine below_set ?_ GE524.out | refine below_set ?_ GE537.out | refine below_set ?_ GE550.out | refine below_set ?_ GE559.out | refine below_set ?_ GE568.out) | exact HB.out)) hb)
              clear BK523
              clear BK524
              clear BK537
              clear BK550
              clear BK559
              clear BK568
              clear HB
              have BK523 := n0_
              have BK524 := n1_
              have BK537 := n2_
              have BK550 := n3_
              have BK559 := n4_
              have BK568 := n5_
              have HB := n6_
              clear n0_ n1_ n2_ n3_ n4_ n5_ n6_
              (try clear hb)
              (try clear hb2)
              (try clear hk)
              (try clear hi)
              refine hK.out _ _ ⟨(blk_cell BK537.out 0).trans rfl, (blk_cell BK537.out 1).trans rfl, (blk_cell BK537.out 2).trans rfl, (blk_cell BK537.out 3).trans rfl, (blk_cell BK537.out 4).trans rfl, (blk_cell BK537.out 5).trans rfl, (blk_cell BK537.out 6).trans rfl, (blk_cell BK537.out 7).trans rfl, (blk_cell BK537.out 8).trans rfl, (blk_cell BK537.out 9).trans rfl, (blk_cell BK537.out 10).trans rfl, (blk_cell BK550.out 0).trans rfl, (blk_cell BK550.out 1).trans rfl, (blk_cell BK550.out 2).trans rfl, (blk_cell BK550.out 3).trans rfl, (blk_cell BK550.out 4).trans rfl, (blk_cell BK550.out 5).trans rfl, (blk_cell BK550.out 6).trans rfl, (blk_cell BK550.out 7).trans rfl, (blk_cell BK550.out 8).trans rfl, (blk_cell BK550.out 9).trans rfl, (blk_cell BK550.out 10).trans rfl, (blk_cell BK559.out 0).trans rfl, (blk_cell BK559.out 1).trans rfl, (blk_cell BK559.out 2).trans rfl, (blk_cell BK559.out 3).trans rfl, (blk_cell BK559.out 4).trans rfl, (blk_cell BK559.out 5).trans rfl, (blk_cell BK559.out 6).trans rfl, (blk_cell BK568.out 0).trans rfl, (blk_cell BK568.out 1).trans rfl, (blk_cell BK568.out 2).trans rfl, (blk_cell BK568.out 3).trans rfl, (blk_cell BK568.out 4).trans rfl, (blk_cell BK568.out 5).trans rfl, (blk_cell BK568.out 6).trans rfl, (blk_cell BK524.out 0).trans rfl, (blk_cell BK524.out 1).trans rfl, (blk_cell BK524.out 2).trans rfl, (blk_cell BK524.out 3).trans rfl, (blk_cell BK524.out 4).trans rfl, (blk_cell BK524.out 5).trans rfl, (blk_cell BK524.out 6).trans rfl, (blk_cell BK524.out 7).trans rfl, (blk_cell BK524.out 8).trans rfl, (blk_cell BK524.out 9).trans rfl, (blk_cell BK524.out 10).trans rfl, (blk_cell BK523.out 0).trans rfl, (blk_cell BK523.out 1).trans rfl⟩ (fun hHeld => ?_)
              clear hK K
              refine norm_ (a' := ?_) ?_ ?_
              rotate_left
              · show Act.put _ (some 60) _ = _
                simp only [Act.put, List.setIfInBounds_toArray, List.set_cons_zero, List.set_cons_succ, i64_w, i32_w]
                rfl
              refine one_ (i := 22) (N := some 62) #[true, true, true, true, true, true, true, true, true, true, true, true, true, true, true, true, true, true, true, true, true, true, true, false, false, false, false, false, false, false, false, false] rfl rfl (one_of HT_.out (by kernel_rfl)) (by decide) (fun K hK => ?_)
              refine goes_ Try.func42 (by kernel_rfl) rfl #[.agg #[.int .i64 a1_0, .int .i64 a1_1, .int .i64 a1_2, .int .i64 a1_3, .int .i64 a1_4, .int .i64 a1_5, .int .i64 a1_6, .int .i64 a1_7, .int .i64 a1_8, .int .i64 a1_9, .int .i64 a1_10]] (by rfl) rfl rfl (by (try simp only [List.map_toArray, List.map_cons, List.map_nil]); first | done | rfl | (simp only [List.length_drop, List.length_take]; rfl)) ?_
              with_reducible refine (potbankref01_CheckShape.calls a1_0 a1_1 a1_2 a1_3 a1_4 a1_5 a1_6 a1_7 a1_8 a1_9 a1_10 t570 _ A13.out).mono ?_
              rintro e w54 ⟨rfl, hb⟩
              refine ⟨_, rfl, ?_⟩
              have n0_ := blkE BK523 hb
              have n1_ := blkE BK524 hb
              have n2_ := blkE BK537 hb
              have n3_ := blkE BK550 hb
              have n4_ := blkE BK559 hb
              have n5_ := blkE BK568 hb
              have n6_ := Aside0.mk (below_step (by repeat (first | (with_reducible first | exact HB.out | apply below_alloc | apply pw_below_drewN | apply below_drew1 | refine below_set ?_ GE523.out | refine below_set ?_ GE524.out | refine below_set ?_ GE537.out | refine below_set ?_ GE550.out | refine below_set ?_ GE559.out | refine below_set ?_ GE568.out) | exact HB.out)) hb)
              clear BK523
              clear BK524
              clear BK537
              clear BK550
              clear BK559
              clear BK568
              clear HB
              have BK523 := n0_
              have BK524 := n1_
              have BK537 := n2_
              have BK550 := n3_
              have BK559 := n4_
              have BK568 := n5_
              have HB := n6_
              clear n0_ n1_ n2_ n3_ n4_ n5_ n6_
              (try clear hb)
              (try clear hb2)
              (try clear hk)
              (try clear hi)
              refine hK.out _ _ ⟨(blk_cell BK537.out 0).trans rfl, (blk_cell BK537.out 1).trans rfl, (blk_cell BK537.out 2).trans rfl, (blk_cell BK537.out 3).trans rfl, (blk_cell BK537.out 4).trans rfl, (blk_cell BK537.out 5).trans rfl, (blk_cell BK537.out 6).trans rfl, (blk_cell BK537.out 7).trans rfl, (blk_cell BK537.out 8).trans rfl, (blk_cell BK537.out 9).trans rfl, (blk_cell BK537.out 10).trans rfl, (blk_cell BK550.out 0).trans rfl, (blk_cell BK550.out 1).trans rfl, (blk_cell BK550.out 2).trans rfl, (blk_cell BK550.out 3).trans rfl, (blk_cell BK550.out 4).trans rfl, (blk_cell BK550.out 5).trans rfl, (blk_cell BK550.out 6).trans rfl, (blk_cell BK550.out 7).trans rfl, (blk_cell BK550.out 8).trans rfl, (blk_cell BK550.out 9).trans rfl, (blk_cell BK550.out 10).trans rfl, (blk_cell BK559.out 0).trans rfl, (blk_cell BK559.out 1).trans rfl, (blk_cell BK559.out 2).trans rfl, (blk_cell BK559.out 3).trans rfl, (blk_cell BK559.out 4).trans rfl, (blk_cell BK559.out 5).trans rfl, (blk_cell BK559.out 6).trans rfl, (blk_cell BK568.out 0).trans rfl, (blk_cell BK568.out 1).trans rfl, (blk_cell BK568.out 2).trans rfl, (blk_cell BK568.out 3).trans rfl, (blk_cell BK568.out 4).trans rfl, (blk_cell BK568.out 5).trans rfl, (blk_cell BK568.out 6).trans rfl, (blk_cell BK524.out 0).trans rfl, (blk_cell BK524.out 1).trans rfl, (blk_cell BK524.out 2).trans rfl, (blk_cell BK524.out 3).trans rfl, (blk_cell BK524.out 4).trans rfl, (blk_cell BK524.out 5).trans rfl, (blk_cell BK524.out 6).trans rfl, (blk_cell BK524.out 7).trans rfl, (blk_cell BK524.out 8).trans rfl, (blk_cell BK524.out 9).trans rfl, (blk_cell BK524.out 10).trans rfl, (blk_cell BK523.out 0).trans rfl, (blk_cell BK523.out 1).trans rfl⟩ (fun hHeld => ?_)
              clear hK K
              refine norm_ (a' := ?_) ?_ ?_
              rotate_left
              · show Act.put _ (some 62) _ = _
                simp only [Act.put, List.setIfInBounds_toArray, List.set_cons_zero, List.set_cons_succ, i64_w, i32_w]
                rfl
              refine pure_ (i := 23) (N := some 63) (v := ?_) (a' := ?_) #[true, true, true, true, true, true, true, true, true, true, true, true, true, true, true, true, true, true, true, true, true, true, true, true, false, false, false, false, false, false, false, false] rfl rfl (any_of HT_.out (by kernel_rfl)) (fun _ _ _ h => h) (Or.inl ⟨by rfl, ?_⟩) ?_ ?_
              rotate_left
              · intro w'
                go_simp
                with_reducible rfl
              rotate_left
              · simp only [Act.put, List.setIfInBounds_toArray, List.set_cons_zero, List.set_cons_succ, i64_w, i32_w]
                rfl
              refine pure_ (i := 24) (N := some 64) (v := ?_) (a' := ?_) #[true, true, true, true, true, true, true, true, true, true, true, true, true, true, true, true, true, true, true, true, true, true, true, true, true, false, false, false, false, false, false, false] rfl rfl (any_of HT_.out (by kernel_rfl)) (fun _ _ _ h => h) (Or.inl ⟨by rfl, ?_⟩) ?_ ?_
              rotate_left
              · intro w'
                go_simp
                with_reducible rfl
              rotate_left
              · simp only [Act.put, List.setIfInBounds_toArray, List.set_cons_zero, List.set_cons_succ, i64_w, i32_w]
                rfl
              refine pure_ (i := 25) (N := some 65) (v := ?_) (a' := ?_) #[true, true, true, true, true, true, true, true, true, true, true, true, true, true, true, true, true, true, true, true, true, true, true, true, true, true, false, false, false, false, false, false] rfl rfl (any_of HT_.out (by kernel_rfl)) (fun _ _ _ h => h) (Or.inl ⟨by rfl, ?_⟩) ?_ ?_
              rotate_left
              · intro w'
                go_simp
                with_reducible rfl
              rotate_left
              · simp only [Act.put, List.setIfInBounds_toArray, List.set_cons_zero, List.set_cons_succ, i64_w, i32_w]
                rfl
              refine take_ (i := 26) (N := some 66) (v := ?_) (a' := ?_) #[true, true, true, true, true, true, true, true, true, true, true, true, true, true, true, true, true, true, true, true, true, true, true, true, true, true, true, false, false, false, false, false] rfl rfl (take_ofW HT_.out HW_.out (by kernel_rfl)) (fun _ _ _ h => h) (Or.inl ⟨by rfl, ?_⟩) hHeld ?_ ?_
              rotate_left
              · rintro w' ⟨s0, s1, s2, s3, s4, s5, s6, s7, s8, s9, s10, s11, s12, s13, s14, s15, s16, s17, s18, s19, s20, s21, s22, s23, s24, s25, s26, s27, s28, s29, s30, s31, s32, s33, s34, s35, s36, s37, s38, s39, s40, s41, s42, s43, s44, s45, s46, s47, s48⟩
                go_simp
                with_reducible rfl
              rotate_left
              · simp only [Act.put, List.setIfInBounds_toArray, List.set_cons_zero, List.set_cons_succ, i64_w, i32_w]
                rfl
              refine take_ (i := 28) (N := some 68) (v := ?_) (a' := ?_) #[true, true, true, true, true, true, true, true, true, true, true, true, true, true, true, true, true, true, true, true, true, true, true, true, true, true, true, false, true, false, false, false] rfl rfl (take_ofW HT_.out HW_.out (by kernel_rfl)) (fun _ _ _ h => h) (Or.inl ⟨by rfl, ?_⟩) hHeld ?_ ?_
              rotate_left
              · rintro w' ⟨s0, s1, s2, s3, s4, s5, s6, s7, s8, s9, s10, s11, s12, s13, s14, s15, s16, s17, s18, s19, s20, s21, s22, s23, s24, s25, s26, s27, s28, s29, s30, s31, s32, s33, s34, s35, s36, s37, s38, s39, s40, s41, s42, s43, s44, s45, s46, s47, s48⟩
                go_simp
                with_reducible rfl
              rotate_left
              · simp only [Act.put, List.setIfInBounds_toArray, List.set_cons_zero, List.set_cons_succ, i64_w, i32_w]
                rfl
              refine one_ (i := 27) (N := some 67) #[true, true, true, true, true, true, true, true, true, true, true, true, true, true, true, true, true, true, true, true, true, true, true, true, true, true, true, true, true, false, false, false] rfl rfl (one_of HT_.out (by kernel_rfl)) (by decide) (fun K hK => ?_)
              refine goes_ Try.func43 (by kernel_rfl) rfl #[.agg #[.slice A0_0 l0_0.length c0_0, .slice A0_1 l0_1.length c0_1]] (by rfl) rfl rfl (by (try simp only [List.map_toArray, List.map_cons, List.map_nil]); first | done | rfl | (simp only [List.length_drop, List.length_take]; rfl)) ?_
              with_reducible refine (ware_Check.calls k _ _ l0_0 _ _ l0_1 t571 _ ?side1 ?side2 ?side3 ?side4 A15.out).mono ?_
              (case side1 => repeat (first | exact (Kd.C_below HR0_0.out HB.out) | (with_reducible refine Kd.C_alloc ?_ _) | (with_reducible refine Kd.C_drewN ?_ _) | (with_reducible refine Kd.C_drew ?_)))
              (case side2 => exact HC0_0.out)
              (case side3 => repeat (first | exact (Kd.C_below HR0_1.out HB.out) | (with_reducible refine Kd.C_alloc ?_ _) | (with_reducible refine Kd.C_drewN ?_ _) | (with_reducible refine Kd.C_drew ?_)))
              (case side4 => exact HC0_1.out)
              rintro e w55 ⟨rfl, hb⟩
              refine ⟨_, rfl, ?_⟩
              have n0_ := blkE BK523 hb
              have n1_ := blkE BK524 hb
              have n2_ := blkE BK537 hb
              have n3_ := blkE BK550 hb
              have n4_ := blkE BK559 hb
              have n5_ := blkE BK568 hb
              have n6_ := Aside0.mk (below_step (by repeat (first | (with_reducible first | exact HB.out | apply below_alloc | apply pw_below_drewN | apply below_drew1 | refine below_set ?_ GE523.out | refine below_set ?_ GE524.out | refine below_set ?_ GE537.out | refine below_set ?_ GE550.out | refine below_set ?_ GE559.out | refine below_set ?_ GE568.out) | exact HB.out)) hb)
              clear BK523
              clear BK524
              clear BK537
              clear BK550
              clear BK559
              clear BK568
              clear HB
              have BK523 := n0_
              have BK524 := n1_
              have BK537 := n2_
              have BK550 := n3_
              have BK559 := n4_
              have BK568 := n5_
              have HB := n6_
              clear n0_ n1_ n2_ n3_ n4_ n5_ n6_
              (try clear hb)
              (try clear hb2)
              (try clear hk)
              (try clear hi)
              refine hK.out _ _ ⟨(blk_cell BK537.out 0).trans rfl, (blk_cell BK537.out 1).trans rfl, (blk_cell BK537.out 2).trans rfl, (blk_cell BK537.out 3).trans rfl, (blk_cell BK537.out 4).trans rfl, (blk_cell BK537.out 5).trans rfl, (blk_cell BK537.out 6).trans rfl, (blk_cell BK537.out 7).trans rfl, (blk_cell BK537.out 8).trans rfl, (blk_cell BK537.out 9).trans rfl, (blk_cell BK537.out 10).trans rfl, (blk_cell BK550.out 0).trans rfl, (blk_cell BK550.out 1).trans rfl, (blk_cell BK550.out 2).trans rfl, (blk_cell BK550.out 3).trans rfl, (blk_cell BK550.out 4).trans rfl, (blk_cell BK550.out 5).trans rfl, (blk_cell BK550.out 6).trans rfl, (blk_cell BK550.out 7).trans rfl, (blk_cell BK550.out 8).trans rfl, (blk_cell BK550.out 9).trans rfl, (blk_cell BK550.out 10).trans rfl, (blk_cell BK559.out 0).trans rfl, (blk_cell BK559.out 1).trans rfl, (blk_cell BK559.out 2).trans rfl, (blk_cell BK559.out 3).trans rfl, (blk_cell BK559.out 4).trans rfl, (blk_cell BK559.out 5).trans rfl, (blk_cell BK559.out 6).trans rfl, (blk_cell BK568.out 0).trans rfl, (blk_cell BK568.out 1).trans rfl, (blk_cell BK568.out 2).trans rfl, (blk_cell BK568.out 3).trans rfl, (blk_cell BK568.out 4).trans rfl, (blk_cell BK568.out 5).trans rfl, (blk_cell BK568.out 6).trans rfl, (blk_cell BK524.out 0).trans rfl, (blk_cell BK524.out 1).trans rfl, (blk_cell BK524.out 2).trans rfl, (blk_cell BK524.out 3).trans rfl, (blk_cell BK524.out 4).trans rfl, (blk_cell BK524.out 5).trans rfl, (blk_cell BK524.out 6).trans rfl, (blk_cell BK524.out 7).trans rfl, (blk_cell BK524.out 8).trans rfl, (blk_cell BK524.out 9).trans rfl, (blk_cell BK524.out 10).trans rfl, (blk_cell BK523.out 0).trans rfl, (blk_cell BK523.out 1).trans rfl⟩ (fun hHeld => ?_)
              clear hK K
              refine norm_ (a' := ?_) ?_ ?_
              rotate_left
              · show Act.put _ (some 67) _ = _
                simp only [Act.put, List.setIfInBounds_toArray, List.set_cons_zero, List.set_cons_succ, i64_w, i32_w]
                rfl
              refine one_ (i := 29) (N := some 69) #[true, true, true, true, true, true, true, true, true, true, true, true, true, true, true, true, true, true, true, true, true, true, true, true, true, true, true, true, true, true, false, false] rfl rfl (one_of HT_.out (by kernel_rfl)) (by decide) (fun K hK => ?_)
              refine goes_ Try.func44 (by kernel_rfl) rfl #[.agg #[.slice A0_0 l0_0.length c0_0, .slice A0_1 l0_1.length c0_1]] (by rfl) rfl rfl (by (try simp only [List.map_toArray, List.map_cons, List.map_nil]); first | done | rfl | (simp only [List.length_drop, List.length_take]; rfl)) ?_
              with_reducible refine (potbankref01_Check.calls k _ _ l0_0 _ _ l0_1 t572 _ ?side1 ?side2 ?side3 ?side4 A16.out).mono ?_
              (case side1 => repeat (first | exact (Kd.C_below HR0_0.out HB.out) | (with_reducible refine Kd.C_alloc ?_ _) | (with_reducible refine Kd.C_drewN ?_ _) | (with_reducible refine Kd.C_drew ?_)))
              (case side2 => exact HC0_0.out)
              (case side3 => repeat (first | exact (Kd.C_below HR0_1.out HB.out) | (with_reducible refine Kd.C_alloc ?_ _) | (with_reducible refine Kd.C_drewN ?_ _) | (with_reducible refine Kd.C_drew ?_)))
              (case side4 => exact HC0_1.out)
              rintro e w56 ⟨rfl, hb⟩
              refine ⟨_, rfl, ?_⟩
              have n0_ := blkE BK523 hb
              have n1_ := blkE BK524 hb
              have n2_ := blkE BK537 hb
              have n3_ := blkE BK550 hb
              have n4_ := blkE BK559 hb
              have n5_ := blkE BK568 hb
              have n6_ := Aside0.mk (below_step (by repeat (first | (with_reducible first | exact HB.out | apply below_alloc | apply pw_below_drewN | apply below_drew1 | refine below_set ?_ GE523.out | refine below_set ?_ GE524.out | refine below_set ?_ GE537.out | refine below_set ?_ GE550.out | refine below_set ?_ GE559.out | refine below_set ?_ GE568.out) | exact HB.out)) hb)
              clear BK523
              clear BK524
              clear BK537
              clear BK550
              clear BK559
              clear BK568
              clear HB
              have BK523 := n0_
              have BK524 := n1_
              have BK537 := n2_
              have BK550 := n3_
              have BK559 := n4_
              have BK568 := n5_
              have HB := n6_
              clear n0_ n1_ n2_ n3_ n4_ n5_ n6_
              (try clear hb)
              (try clear hb2)
              (try clear hk)
              (try clear hi)
              refine hK.out _ _ ⟨(blk_cell BK537.out 0).trans rfl, (blk_cell BK537.out 1).trans rfl, (blk_cell BK537.out 2).trans rfl, (blk_cell BK537.out 3).trans rfl, (blk_cell BK537.out 4).trans rfl, (blk_cell BK537.out 5).trans rfl, (blk_cell BK537.out 6).trans rfl, (blk_cell BK537.out 7).trans rfl, (blk_cell BK537.out 8).trans rfl, (blk_cell BK537.out 9).trans rfl, (blk_cell BK537.out 10).trans rfl, (blk_cell BK550.out 0).trans rfl, (blk_cell BK550.out 1).trans rfl, (blk_cell BK550.out 2).trans rfl, (blk_cell BK550.out 3).trans rfl, (blk_cell BK550.out 4).trans rfl, (blk_cell BK550.out 5).trans rfl, (blk_cell BK550.out 6).trans rfl, (blk_cell BK550.out 7).trans rfl, (blk_cell BK550.out 8).trans rfl, (blk_cell BK550.out 9).trans rfl, (blk_cell BK550.out 10).trans rfl, (blk_cell BK559.out 0).trans rfl, (blk_cell BK559.out 1).trans rfl, (blk_cell BK559.out 2).trans rfl, (blk_cell BK559.out 3).trans rfl, (blk_cell BK559.out 4).trans rfl, (blk_cell BK559.out 5).trans rfl, (blk_cell BK559.out 6).trans rfl, (blk_cell BK568.out 0).trans rfl, (blk_cell BK568.out 1).trans rfl, (blk_cell BK568.out 2).trans rfl, (blk_cell BK568.out 3).trans rfl, (blk_cell BK568.out 4).trans rfl, (blk_cell BK568.out 5).trans rfl, (blk_cell BK568.out 6).trans rfl, (blk_cell BK524.out 0).trans rfl, (blk_cell BK524.out 1).trans rfl, (blk_cell BK524.out 2).trans rfl, (blk_cell BK524.out 3).trans rfl, (blk_cell BK524.out 4).trans rfl, (blk_cell BK524.out 5).trans rfl, (blk_cell BK524.out 6).trans rfl, (blk_cell BK524.out 7).trans rfl, (blk_cell BK524.out 8).trans rfl, (blk_cell BK524.out 9).trans rfl, (blk_cell BK524.out 10).trans rfl, (blk_cell BK523.out 0).trans rfl, (blk_cell BK523.out 1).trans rfl⟩ (fun hHeld => ?_)
              clear hK K
              refine norm_ (a' := ?_) ?_ ?_
              rotate_left
              · show Act.put _ (some 69) _ = _
                simp only [Act.put, List.setIfInBounds_toArray, List.set_cons_zero, List.set_cons_succ, i64_w, i32_w]
                rfl
              refine pure_ (i := 30) (N := some 70) (v := ?_) (a' := ?_) #[true, true, true, true, true, true, true, true, true, true, true, true, true, true, true, true, true, true, true, true, true, true, true, true, true, true, true, true, true, true, true, false] rfl rfl (any_of HT_.out (by kernel_rfl)) (fun _ _ _ h => h) (Or.inl ⟨by rfl, ?_⟩) ?_ ?_
              rotate_left
              · intro w'
                go_simp
                with_reducible rfl
              rotate_left
              · simp only [Act.put, List.setIfInBounds_toArray, List.set_cons_zero, List.set_cons_succ, i64_w, i32_w]
                rfl
              refine pure_ (i := 31) (N := some 71) (v := ?_) (a' := ?_) #[true, true, true, true, true, true, true, true, true, true, true, true, true, true, true, true, true, true, true, true, true, true, true, true, true, true, true, true, true, true, true, true] rfl rfl (any_of HT_.out (by kernel_rfl)) (fun _ _ _ h => h) (Or.inl ⟨by rfl, ?_⟩) ?_ ?_
              rotate_left
              · intro w'
                go_simp
                with_reducible rfl
              rotate_left
              · simp only [Act.put, List.setIfInBounds_toArray, List.set_cons_zero, List.set_cons_succ, i64_w, i32_w]
                rfl
              refine done_ (done_of HT_.out (by kernel_rfl)) ?_
              try go_wp2
              go_loopg [15] k (fun kq v15 w' => ∃ (x15_1 : Int), v15 = .int .i64 x15_1 ∧ Aside0 (potbanklaw01_WareChecks.l0 kq x15_1 l0_0 l0_1 = some r) ∧ Aside0 (kq ≤ k) ∧ Aside0 (w'.heap[gb523]? = some (.cells #[(.slice A0_0 l0_0.length c0_0), (.slice A0_1 l0_1.length c0_1)] 66 (0, 0))) ∧ Aside0 (w'.heap[gb524]? = some (.cells #[.int .i64 a1_0, .int .i64 a1_1, .int .i64 a1_2, .int .i64 a1_3, .int .i64 a1_4, .int .i64 a1_5, .int .i64 a1_6, .int .i64 a1_7, .int .i64 a1_8, .int .i64 a1_9, .int .i64 a1_10] 25 (0, 0))) ∧ Aside0 (w'.heap[gb537]? = some (.cells #[.int .i64 t525, .int .i64 t526, .int .i64 t527, .int .i64 t528, .int .i64 t529, .int .i64 t530, .int .i64 t531, .int .i64 t532, .int .i64 t533, .int .i64 t534, .int .i64 t535] 25 (0, 0))) ∧ Aside0 (w'.heap[gb550]? = some (.cells #[.int .i64 t538, .int .i64 t539, .int .i64 t540, .int .i64 t541, .int .i64 t542, .int .i64 t543, .int .i64 t544, .int .i64 t545, .int .i64 t546, .int .i64 t547, .int .i64 t548] 25 (0, 0))) ∧ Aside0 (w'.heap[gb559]? = some (.cells #[.int .i64 t551, .int .i64 t552, .int .i64 t553, .int .i64 t554, .int .i64 t555, .int .i64 t556, .int .i64 t557] 43 (0, 0))) ∧ Aside0 (w'.heap[gb568]? = some (.cells #[.int .i64 t560, .int .i64 t561, .int .i64 t562, .int .i64 t563, .int .i64 t564, .int .i64 t565, .int .i64 t566] 43 (0, 0))) ∧ Aside0 (Below w.heap.size w w'))
              case atStart => exact ⟨(0), (by first | rfl | (simp; done) | (simp [*]; done)), H', ⟨Nat.le_refl _⟩, ⟨by (with_reducible repeat first | apply blk_drewN | apply blk_drew | apply blk_alloc); exact BK523.out⟩, ⟨by (with_reducible repeat first | apply blk_drewN | apply blk_drew | apply blk_alloc); exact BK524.out⟩, ⟨by (with_reducible repeat first | apply blk_drewN | apply blk_drew | apply blk_alloc); exact BK537.out⟩, ⟨by (with_reducible repeat first | apply blk_drewN | apply blk_drew | apply blk_alloc); exact BK550.out⟩, ⟨by (with_reducible repeat first | apply blk_drewN | apply blk_drew | apply blk_alloc); exact BK559.out⟩, ⟨by (with_reducible repeat first | apply blk_drewN | apply blk_drew | apply blk_alloc); exact BK568.out⟩, ⟨by repeat (first | (with_reducible first | exact HB.out | apply below_alloc | apply pw_below_drewN | apply below_drew1 | refine below_set ?_ GE523.out | refine below_set ?_ GE524.out | refine below_set ?_ GE537.out | refine below_set ?_ GE550.out | refine below_set ?_ GE559.out | refine below_set ?_ GE568.out) | exact HB.out)⟩⟩
              case round =>
                clear H'
                try clear c1
                try clear c2
                try clear p2
                try clear c3
                try clear c4
                try clear c8
                try clear c8b0
                try clear c9
                try clear c9b0
                try clear c9b1
                try clear c10
                try clear c10b0
                try clear c11
                try clear c11b0
                try clear c11b1
                try clear c14
                try clear c14b0
                try clear c14b1
                try clear c17
                try clear c17b0
                try clear c17b1
                try clear c20
                try clear c24
                try clear c25
                try clear c27
                try clear c30
                try clear c31
                try clear c32
                try clear c37
                try clear c38
                try clear c39
                try clear c40
                try clear c41
                try clear c42
                try clear c43
                try clear c44
                try clear c45
                try clear c46
                try clear c47
                try clear c48
                try clear c49
                try clear hcz21_0
                try clear hcz21_1
                try clear hcz26_0
                try clear hcz26_1
                try clear hcz26_10
                try clear hcz26_2
                try clear hcz26_3
                try clear hcz26_4
                try clear hcz26_5
                try clear hcz26_6
                try clear hcz26_7
                try clear hcz26_8
                try clear hcz26_9
                try clear hcz27_0
                try clear hcz27_1
                try clear hcz33_0
                try clear hcz33_1
                try clear hcz33_10
                try clear hcz33_2
                try clear hcz33_3
                try clear hcz33_4
                try clear hcz33_5
                try clear hcz33_6
                try clear hcz33_7
                try clear hcz33_8
                try clear hcz33_9
                try clear hcz34_0
                try clear hcz34_1
                try clear hcz41_0
                try clear hcz41_1
                try clear hcz41_2
                try clear hcz41_3
                try clear hcz41_4
                try clear hcz41_5
                try clear hcz41_6
                try clear hcz42_0
                try clear hcz42_1
                try clear hcz50_0
                try clear hcz50_1
                try clear hcz50_2
                try clear hcz50_3
                try clear hcz50_4
                try clear hcz50_5
                try clear hcz50_6
                try clear hfz21_0
                try clear hfz21_1
                try clear hfz26_0
                try clear hfz26_1
                try clear hfz26_10
                try clear hfz26_2
                try clear hfz26_3
                try clear hfz26_4
                try clear hfz26_5
                try clear hfz26_6
                try clear hfz26_7
                try clear hfz26_8
                try clear hfz26_9
                try clear hfz27_0
                try clear hfz27_1
                try clear hfz33_0
                try clear hfz33_1
                try clear hfz33_10
                try clear hfz33_2
                try clear hfz33_3
                try clear hfz33_4
                try clear hfz33_5
                try clear hfz33_6
                try clear hfz33_7
                try clear hfz33_8
                try clear hfz33_9
                try clear hfz34_0
                try clear hfz34_1
                try clear hfz41_0
                try clear hfz41_1
                try clear hfz41_2
                try clear hfz41_3
                try clear hfz41_4
                try clear hfz41_5
                try clear hfz41_6
                try clear hfz42_0
                try clear hfz42_1
                try clear hfz50_0
                try clear hfz50_1
                try clear hfz50_2
                try clear hfz50_3
                try clear hfz50_4
                try clear hfz50_5
                try clear hfz50_6
                obtain ⟨x15_1, rfl, HA, HK1, BK523, BK524, BK537, BK550, BK559, BK568, HB⟩ := hrel
                cases gk with
                | zero => exact absurd HA.out (by simp [potbanklaw01_WareChecks.l0])
                | succ k1 =>
                  have H := HA.out
                  clear HA
                  simp only [potbanklaw01_WareChecks.l0] at H
                  by_cases c57 : x15_1 < (l0_1.length : Int)
                  · rw [if_pos c57] at H
                    have c57b0 : decide (x15_1 < (l0_1.length : Int)) = true := decide_eq_true c57
                    clear c57
                    by_cases c58 : 0 ≤ x15_1
                    · rw [if_pos c58] at H
                      have c58b0 : decide (0 ≤ x15_1) = true := decide_eq_true c58
                      clear c58
                      replace H := Option.bind_eq_some_iff.mp H
                      obtain ⟨t574, A590, H⟩ := H
                      replace H : ((potbankref01_CheckBody.f ((rd_T43 l0_1 x15_1).f0) ((rd_T43 l0_1 x15_1).f1.f0) ((rd_T43 l0_1 x15_1).f1.f1) ((rd_T43 l0_1 x15_1).f2.f0) ((rd_T43 l0_1 x15_1).f2.f1) ((rd_T43 l0_1 x15_1).f3.f0) ((rd_T43 l0_1 x15_1).f3.f1)).bind fun t576 => (if t574 = t576 then (potbanklaw01_WareChecks.l0 k1 (wrap64 (x15_1 + 1)) l0_0 l0_1) else (none))) = some r := H
                      have A59 := Aside0.mk A590
                      clear A590
                      replace H := Option.bind_eq_some_iff.mp H
                      obtain ⟨t576, A600, H⟩ := H
                      replace H : (if t574 = t576 then (potbanklaw01_WareChecks.l0 k1 (wrap64 (x15_1 + 1)) l0_0 l0_1) else (none)) = some r := H
                      have A60 := Aside0.mk A600
                      clear A600
                      by_cases c61 : t574 = t576
                      · rw [if_pos c61] at H
                        have c61b0 : (t574 == t576) = true := beq_iff_eq.mpr c61
                        have c61b1 : (t574 != t576) = false := bne_eq_false_iff_eq.mpr c61
                        clear c61
                        have H' := Aside0.mk H
                        clear H
                        have hnb62 := NB523_524.out
                        have hnc62 := NB524_523.out
                        have hnb63 := NB523_537.out
                        have hnc63 := NB537_523.out
                        have hnb64 := NB523_550.out
                        have hnc64 := NB550_523.out
                        have hnb65 := NB523_559.out
                        have hnc65 := NB559_523.out
                        have hnb66 := NB523_568.out
                        have hnc66 := NB568_523.out
                        have hcz67_0 : wr.cell? ⟨gb523, 0, none⟩ = some (.slice A0_0 l0_0.length c0_0) := (blk_cell BK523.out 0).trans rfl
                        have hcz67_1 : wr.cell? ⟨gb523, 1, none⟩ = some (.slice A0_1 l0_1.length c0_1) := (blk_cell BK523.out 1).trans rfl
                        have hfz67_0 := blk_frozen BK523.out 0
                        have hfz67_1 := blk_frozen BK523.out 1
                        try go_wp2
                        have n0_ := Aside0.mk (blk_drew BK523.out)
                        have n1_ := Aside0.mk (blk_drew BK524.out)
                        have n2_ := Aside0.mk (blk_drew BK537.out)
                        have n3_ := Aside0.mk (blk_drew BK550.out)
                        have n4_ := Aside0.mk (blk_drew BK559.out)
                        have n5_ := Aside0.mk (blk_drew BK568.out)
                        have n6_ := Aside0.mk (below_drew1 HB.out)
                        clear BK523
                        clear BK524
                        clear BK537
                        clear BK550
                        clear BK559
                        clear BK568
                        clear HB
                        have BK523 := n0_
                        have BK524 := n1_
                        have BK537 := n2_
                        have BK550 := n3_
                        have BK559 := n4_
                        have BK568 := n5_
                        have HB := n6_
                        clear n0_ n1_ n2_ n3_ n4_ n5_ n6_
                        have p573 : 0 ≤ (x15_1 : Int) := of_decide_eq_true (by first | (with_reducible assumption) | assumption)
                        have q573 : x15_1 < (l0_1.length : Int) := of_decide_eq_true (by first | (with_reducible assumption) | assumption)
                        obtain ⟨ad573, e573, hx573_0, hx573_1, hx573_2, hx573_3, hx573_4, hx573_5, hx573_6⟩ := at_T43 HR0_1.out x15_1 p573 q573
                        have hw573_6 := hx573_6
                        have hw573_5 := hx573_5
                        have hw573_4 := hx573_4
                        have hw573_3 := hx573_3
                        have hw573_2 := hx573_2
                        have hw573_1 := hx573_1
                        have hw573_0 := hx573_0
                        cases e573
                        replace hx573_0 := (HB.out.cell (World.block_lt_of_cell? w _ hx573_0)).trans hx573_0
                        replace hx573_1 := (HB.out.cell (World.block_lt_of_cell? w _ hx573_1)).trans hx573_1
                        replace hx573_2 := (HB.out.cell (World.block_lt_of_cell? w _ hx573_2)).trans hx573_2
                        replace hx573_3 := (HB.out.cell (World.block_lt_of_cell? w _ hx573_3)).trans hx573_3
                        replace hx573_4 := (HB.out.cell (World.block_lt_of_cell? w _ hx573_4)).trans hx573_4
                        replace hx573_5 := (HB.out.cell (World.block_lt_of_cell? w _ hx573_5)).trans hx573_5
                        replace hx573_6 := (HB.out.cell (World.block_lt_of_cell? w _ hx573_6)).trans hx573_6
                        replace p573 := eq_true p573
                        replace q573 := eq_true q573
                        have p575 : 0 ≤ (x15_1 : Int) := of_decide_eq_true (by first | (with_reducible assumption) | assumption)
                        have q575 : x15_1 < (l0_1.length : Int) := of_decide_eq_true (by first | (with_reducible assumption) | assumption)
                        obtain ⟨ad575, e575, hx575_0, hx575_1, hx575_2, hx575_3, hx575_4, hx575_5, hx575_6⟩ := at_T43 HR0_1.out x15_1 p575 q575
                        have hw575_6 := hx575_6
                        have hw575_5 := hx575_5
                        have hw575_4 := hx575_4
                        have hw575_3 := hx575_3
                        have hw575_2 := hx575_2
                        have hw575_1 := hx575_1
                        have hw575_0 := hx575_0
                        obtain rfl : ad573 = ad575 := (by injection e575)
                        replace hx575_0 := (HB.out.cell (World.block_lt_of_cell? w _ hx575_0)).trans hx575_0
                        replace hx575_1 := (HB.out.cell (World.block_lt_of_cell? w _ hx575_1)).trans hx575_1
                        replace hx575_2 := (HB.out.cell (World.block_lt_of_cell? w _ hx575_2)).trans hx575_2
                        replace hx575_3 := (HB.out.cell (World.block_lt_of_cell? w _ hx575_3)).trans hx575_3
                        replace hx575_4 := (HB.out.cell (World.block_lt_of_cell? w _ hx575_4)).trans hx575_4
                        replace hx575_5 := (HB.out.cell (World.block_lt_of_cell? w _ hx575_5)).trans hx575_5
                        replace hx575_6 := (HB.out.cell (World.block_lt_of_cell? w _ hx575_6)).trans hx575_6
                        replace p575 := eq_true p575
                        replace q575 := eq_true q575
                        refine start_ (n := 13) (S := fun w' => w'.cell? ⟨gb523, 0, none⟩ = some (.slice A0_0 l0_0.length c0_0) ∧ w'.cell? ⟨gb523, 1, none⟩ = some (.slice (some ad573) l0_1.length c0_1) ∧ w'.cell? (ad573.add ((x15_1).toNat * 7)) = some (.int .i64 ((rd_T43 l0_1 x15_1).f0)) ∧ w'.cell? ⟨(ad573.add ((x15_1).toNat * 7)).block, (ad573.add ((x15_1).toNat * 7)).off + 1, none⟩ = some (.int .i64 ((rd_T43 l0_1 x15_1).f1.f0)) ∧ w'.cell? ⟨(ad573.add ((x15_1).toNat * 7)).block, (ad573.add ((x15_1).toNat * 7)).off + 2, none⟩ = some (.int .i64 ((rd_T43 l0_1 x15_1).f1.f1)) ∧ w'.cell? ⟨(ad573.add ((x15_1).toNat * 7)).block, (ad573.add ((x15_1).toNat * 7)).off + 3, none⟩ = some (.int .i64 ((rd_T43 l0_1 x15_1).f2.f0)) ∧ w'.cell? ⟨(ad573.add ((x15_1).toNat * 7)).block, (ad573.add ((x15_1).toNat * 7)).off + 4, none⟩ = some (.int .i64 ((rd_T43 l0_1 x15_1).f2.f1)) ∧ w'.cell? ⟨(ad573.add ((x15_1).toNat * 7)).block, (ad573.add ((x15_1).toNat * 7)).off + 5, none⟩ = some (.int .i64 ((rd_T43 l0_1 x15_1).f3.f0)) ∧ w'.cell? ⟨(ad573.add ((x15_1).toNat * 7)).block, (ad573.add ((x15_1).toNat * 7)).off + 6, none⟩ = some (.int .i64 ((rd_T43 l0_1 x15_1).f3.f1)) ∧ w'.cell? (ad573.add ((x15_1).toNat * 7)) = some (.int .i64 ((rd_T43 l0_1 x15_1).f0)) ∧ w'.cell? ⟨(ad573.add ((x15_1).toNat * 7)).block, (ad573.add ((x15_1).toNat * 7)).off + 1, none⟩ = some (.int .i64 ((rd_T43 l0_1 x15_1).f1.f0)) ∧ w'.cell? ⟨(ad573.add ((x15_1).toNat * 7)).block, (ad573.add ((x15_1).toNat * 7)).off + 2, none⟩ = some (.int .i64 ((rd_T43 l0_1 x15_1).f1.f1)) ∧ w'.cell? ⟨(ad573.add ((x15_1).toNat * 7)).block, (ad573.add ((x15_1).toNat * 7)).off + 3, none⟩ = some (.int .i64 ((rd_T43 l0_1 x15_1).f2.f0)) ∧ w'.cell? ⟨(ad573.add ((x15_1).toNat * 7)).block, (ad573.add ((x15_1).toNat * 7)).off + 4, none⟩ = some (.int .i64 ((rd_T43 l0_1 x15_1).f2.f1)) ∧ w'.cell? ⟨(ad573.add ((x15_1).toNat * 7)).block, (ad573.add ((x15_1).toNat * 7)).off + 5, none⟩ = some (.int .i64 ((rd_T43 l0_1 x15_1).f3.f0)) ∧ w'.cell? ⟨(ad573.add ((x15_1).toNat * 7)).block, (ad573.add ((x15_1).toNat * 7)).off + 6, none⟩ = some (.int .i64 ((rd_T43 l0_1 x15_1).f3.f1))) (ds := []) #[false, false, false, false, false, false, false, false, false, false, false, false, false] (by kernel_rfl) rfl rfl ⟨(blk_cell BK523.out 0).trans rfl, (blk_cell BK523.out 1).trans rfl, ((HB.out.cell (World.block_lt_of_cell? w _ hw573_0)).trans hw573_0), ((HB.out.cell (World.block_lt_of_cell? w _ hw573_1)).trans hw573_1), ((HB.out.cell (World.block_lt_of_cell? w _ hw573_2)).trans hw573_2), ((HB.out.cell (World.block_lt_of_cell? w _ hw573_3)).trans hw573_3), ((HB.out.cell (World.block_lt_of_cell? w _ hw573_4)).trans hw573_4), ((HB.out.cell (World.block_lt_of_cell? w _ hw573_5)).trans hw573_5), ((HB.out.cell (World.block_lt_of_cell? w _ hw573_6)).trans hw573_6), ((HB.out.cell (World.block_lt_of_cell? w _ hw575_0)).trans hw575_0), ((HB.out.cell (World.block_lt_of_cell? w _ hw575_1)).trans hw575_1), ((HB.out.cell (World.block_lt_of_cell? w _ hw575_2)).trans hw575_2), ((HB.out.cell (World.block_lt_of_cell? w _ hw575_3)).trans hw575_3), ((HB.out.cell (World.block_lt_of_cell? w _ hw575_4)).trans hw575_4), ((HB.out.cell (World.block_lt_of_cell? w _ hw575_5)).trans hw575_5), ((HB.out.cell (World.block_lt_of_cell? w _ hw575_6)).trans hw575_6)⟩ (fun hHeld => ?_); refine with_tabW potbanklaw01_WareChecks.tab10 potbanklaw01_WareChecks.bits10 (fun HT_ HW_ => ?_)
                        generalize wr.drew = w68 at BK523 BK524 BK537 BK550 BK559 BK568 HB hx573_0 hx573_1 hx573_2 hx573_3 hx573_4 hx573_5 hx573_6 hx575_0 hx575_1 hx575_2 hx575_3 hx575_4 hx575_5 hx575_6 hHeld ⊢
                        refine pure_ (i := 0) (N := some 79) (v := ?_) (a' := ?_) #[true, false, false, false, false, false, false, false, false, false, false, false, false] rfl rfl (any_of HT_.out (by kernel_rfl)) (fun _ _ _ h => h) (Or.inl ⟨by rfl, ?_⟩) ?_ ?_
                        rotate_left
                        · intro w'
                          go_simp
                          with_reducible rfl
                        rotate_left
                        · simp only [Act.put, List.setIfInBounds_toArray, List.set_cons_zero, List.set_cons_succ, i64_w, i32_w]
                          rfl
                        refine pure_ (i := 2) (N := some 81) (v := ?_) (a' := ?_) #[true, false, true, false, false, false, false, false, false, false, false, false, false] rfl rfl (any_of HT_.out (by kernel_rfl)) (fun _ _ _ h => h) (Or.inl ⟨by rfl, ?_⟩) ?_ ?_
                        rotate_left
                        · intro w'
                          go_simp
                          with_reducible rfl
                        rotate_left
                        · simp only [Act.put, List.setIfInBounds_toArray, List.set_cons_zero, List.set_cons_succ, i64_w, i32_w]
                          rfl
                        refine pure_ (i := 6) (N := some 85) (v := ?_) (a' := ?_) #[true, false, true, false, false, false, true, false, false, false, false, false, false] rfl rfl (any_of HT_.out (by kernel_rfl)) (fun _ _ _ h => h) (Or.inl ⟨by rfl, ?_⟩) ?_ ?_
                        rotate_left
                        · intro w'
                          go_simp
                          with_reducible rfl
                        rotate_left
                        · simp only [Act.put, List.setIfInBounds_toArray, List.set_cons_zero, List.set_cons_succ, i64_w, i32_w]
                          rfl
                        refine pure_ (i := 8) (N := some 87) (v := ?_) (a' := ?_) #[true, false, true, false, false, false, true, false, true, false, false, false, false] rfl rfl (any_of HT_.out (by kernel_rfl)) (fun _ _ _ h => h) (Or.inl ⟨by rfl, ?_⟩) ?_ ?_
                        rotate_left
                        · intro w'
                          go_simp
                          with_reducible rfl
                        rotate_left
                        · simp only [Act.put, List.setIfInBounds_toArray, List.set_cons_zero, List.set_cons_succ, i64_w, i32_w]
                          rfl
                        refine take_ (i := 1) (N := some 80) (v := ?_) (a' := ?_) #[true, true, true, false, false, false, true, false, true, false, false, false, false] rfl rfl (take_ofW HT_.out HW_.out (by kernel_rfl)) (fun _ _ _ h => h) (Or.inl ⟨by rfl, ?_⟩) hHeld ?_ ?_
                        rotate_left
                        · rintro w' ⟨s0, s1, s2, s3, s4, s5, s6, s7, s8, s9, s10, s11, s12, s13, s14, s15⟩
                          go_simp
                          with_reducible rfl
                        rotate_left
                        · simp only [Act.put, List.setIfInBounds_toArray, List.set_cons_zero, List.set_cons_succ, i64_w, i32_w]
                          rfl
                        refine pure_ (i := 3) (N := some 82) (v := ?_) (a' := ?_) #[true, true, true, true, false, false, true, false, true, false, false, false, false] rfl rfl (any_of HT_.out (by kernel_rfl)) (fun _ _ _ h => h) (Or.inl ⟨by rfl, ?_⟩) ?_ ?_
                        rotate_left
                        · intro w'
                          go_simp
                          with_reducible rfl
                        rotate_left
                        · simp only [Act.put, List.setIfInBounds_toArray, List.set_cons_zero, List.set_cons_succ, i64_w, i32_w]
                          rfl
                        refine take_ (i := 4) (N := some 83) (v := ?_) (a' := ?_) #[true, true, true, true, true, false, true, false, true, false, false, false, false] rfl rfl (take_ofW HT_.out HW_.out (by kernel_rfl)) (fun _ _ _ h => h) (Or.inl ⟨by rfl, ?_⟩) hHeld ?_ ?_
                        rotate_left
                        · rintro w' ⟨s0, s1, s2, s3, s4, s5, s6, s7, s8, s9, s10, s11, s12, s13, s14, s15⟩
                          go_simp
                          with_reducible rfl
                        rotate_left
                        · simp only [Act.put, List.setIfInBounds_toArray, List.set_cons_zero, List.set_cons_succ, i64_w, i32_w]
                          rfl
                        refine take_ (i := 7) (N := some 86) (v := ?_) (a' := ?_) #[true, true, true, true, true, false, true, true, true, false, false, false, false] rfl rfl (take_ofW HT_.out HW_.out (by kernel_rfl)) (fun _ _ _ h => h) (Or.inl ⟨by rfl, ?_⟩) hHeld ?_ ?_
                        rotate_left
                        · rintro w' ⟨s0, s1, s2, s3, s4, s5, s6, s7, s8, s9, s10, s11, s12, s13, s14, s15⟩
                          go_simp
                          with_reducible rfl
                        rotate_left
                        · simp only [Act.put, List.setIfInBounds_toArray, List.set_cons_zero, List.set_cons_succ, i64_w, i32_w]
                          rfl
                        refine pure_ (i := 9) (N := some 88) (v := ?_) (a' := ?_) #[true, true, true, true, true, false, true, true, true, true, false, false, false] rfl rfl (any_of HT_.out (by kernel_rfl)) (fun _ _ _ h => h) (Or.inl ⟨by rfl, ?_⟩) ?_ ?_
                        rotate_left
                        · intro w'
                          go_simp
                          with_reducible rfl
                        rotate_left
                        · simp only [Act.put, List.setIfInBounds_toArray, List.set_cons_zero, List.set_cons_succ, i64_w, i32_w]
                          rfl
                        refine take_ (i := 10) (N := some 89) (v := ?_) (a' := ?_) #[true, true, true, true, true, false, true, true, true, true, true, false, false] rfl rfl (take_ofW HT_.out HW_.out (by kernel_rfl)) (fun _ _ _ h => h) (Or.inl ⟨by rfl, ?_⟩) hHeld ?_ ?_
                        rotate_left
                        · rintro w' ⟨s0, s1, s2, s3, s4, s5, s6, s7, s8, s9, s10, s11, s12, s13, s14, s15⟩
                          go_simp
                          with_reducible rfl
                        rotate_left
                        · simp only [Act.put, List.setIfInBounds_toArray, List.set_cons_zero, List.set_cons_succ, i64_w, i32_w]
                          rfl
                        refine one_ (i := 5) (N := some 84) #[true, true, true, true, true, true, true, true, true, true, true, false, false] rfl rfl (one_of HT_.out (by kernel_rfl)) (by decide) (fun K hK => ?_)
                        refine goes_ Try.func45 (by kernel_rfl) rfl #[.agg #[.int .i64 ((rd_T43 l0_1 x15_1).f0), .int .i64 ((rd_T43 l0_1 x15_1).f1.f0), .int .i64 ((rd_T43 l0_1 x15_1).f1.f1), .int .i64 ((rd_T43 l0_1 x15_1).f2.f0), .int .i64 ((rd_T43 l0_1 x15_1).f2.f1), .int .i64 ((rd_T43 l0_1 x15_1).f3.f0), .int .i64 ((rd_T43 l0_1 x15_1).f3.f1)]] (by rfl) rfl rfl (by (try simp only [List.map_toArray, List.map_cons, List.map_nil]); first | done | rfl | (simp only [List.length_drop, List.length_take]; rfl)) ?_
                        with_reducible refine (ware_CheckBody.calls ((rd_T43 l0_1 x15_1).f0) ((rd_T43 l0_1 x15_1).f1.f0) ((rd_T43 l0_1 x15_1).f1.f1) ((rd_T43 l0_1 x15_1).f2.f0) ((rd_T43 l0_1 x15_1).f2.f1) ((rd_T43 l0_1 x15_1).f3.f0) ((rd_T43 l0_1 x15_1).f3.f1) t574 _ A59.out).mono ?_
                        rintro e w69 ⟨rfl, hb⟩
                        refine ⟨_, rfl, ?_⟩
                        have n0_ := blkE BK523 hb
                        have n1_ := blkE BK524 hb
                        have n2_ := blkE BK537 hb
                        have n3_ := blkE BK550 hb
                        have n4_ := blkE BK559 hb
                        have n5_ := blkE BK568 hb
                        have n6_ := Aside0.mk (below_step (by repeat (first | (with_reducible first | exact HB.out | apply below_alloc | apply pw_below_drewN | apply below_drew1 | refine below_set ?_ GE523.out | refine below_set ?_ GE524.out | refine below_set ?_ GE537.out | refine below_set ?_ GE550.out | refine below_set ?_ GE559.out | refine below_set ?_ GE568.out) | exact HB.out)) hb)
                        clear BK523
                        clear BK524
                        clear BK537
                        clear BK550
                        clear BK559
                        clear BK568
                        clear HB
                        have BK523 := n0_
                        have BK524 := n1_
                        have BK537 := n2_
                        have BK550 := n3_
                        have BK559 := n4_
                        have BK568 := n5_
                        have HB := n6_
                        clear n0_ n1_ n2_ n3_ n4_ n5_ n6_
                        (try clear hb)
                        (try clear hb2)
                        (try clear hk)
                        (try clear hi)
                        refine hK.out _ _ ⟨(blk_cell BK523.out 0).trans rfl, (blk_cell BK523.out 1).trans rfl, ((HB.out.cell (World.block_lt_of_cell? w _ hw573_0)).trans hw573_0), ((HB.out.cell (World.block_lt_of_cell? w _ hw573_1)).trans hw573_1), ((HB.out.cell (World.block_lt_of_cell? w _ hw573_2)).trans hw573_2), ((HB.out.cell (World.block_lt_of_cell? w _ hw573_3)).trans hw573_3), ((HB.out.cell (World.block_lt_of_cell? w _ hw573_4)).trans hw573_4), ((HB.out.cell (World.block_lt_of_cell? w _ hw573_5)).trans hw573_5), ((HB.out.cell (World.block_lt_of_cell? w _ hw573_6)).trans hw573_6), ((HB.out.cell (World.block_lt_of_cell? w _ hw575_0)).trans hw575_0), ((HB.out.cell (World.block_lt_of_cell? w _ hw575_1)).trans hw575_1), ((HB.out.cell (World.block_lt_of_cell? w _ hw575_2)).trans hw575_2), ((HB.out.cell (World.block_lt_of_cell? w _ hw575_3)).trans hw575_3), ((HB.out.cell (World.block_lt_of_cell? w _ hw575_4)).trans hw575_4), ((HB.out.cell (World.block_lt_of_cell? w _ hw575_5)).trans hw575_5), ((HB.out.cell (World.block_lt_of_cell? w _ hw575_6)).trans hw575_6)⟩ (fun hHeld => ?_)
                        clear hK K
                        refine norm_ (a' := ?_) ?_ ?_
                        rotate_left
                        · show Act.put _ (some 84) _ = _
                          simp only [Act.put, List.setIfInBounds_toArray, List.set_cons_zero, List.set_cons_succ, i64_w, i32_w]
                          rfl
                        refine one_ (i := 11) (N := some 90) #[true, true, true, true, true, true, true, true, true, true, true, true, false] rfl rfl (one_of HT_.out (by kernel_rfl)) (by decide) (fun K hK => ?_)
                        refine goes_ Try.func46 (by kernel_rfl) rfl #[.agg #[.int .i64 ((rd_T43 l0_1 x15_1).f0), .int .i64 ((rd_T43 l0_1 x15_1).f1.f0), .int .i64 ((rd_T43 l0_1 x15_1).f1.f1), .int .i64 ((rd_T43 l0_1 x15_1).f2.f0), .int .i64 ((rd_T43 l0_1 x15_1).f2.f1), .int .i64 ((rd_T43 l0_1 x15_1).f3.f0), .int .i64 ((rd_T43 l0_1 x15_1).f3.f1)]] (by rfl) rfl rfl (by (try simp only [List.map_toArray, List.map_cons, List.map_nil]); first | done | rfl | (simp only [List.length_drop, List.length_take]; rfl)) ?_
                        with_reducible refine (potbankref01_CheckBody.calls ((rd_T43 l0_1 x15_1).f0) ((rd_T43 l0_1 x15_1).f1.f0) ((rd_T43 l0_1 x15_1).f1.f1) ((rd_T43 l0_1 x15_1).f2.f0) ((rd_T43 l0_1 x15_1).f2.f1) ((rd_T43 l0_1 x15_1).f3.f0) ((rd_T43 l0_1 x15_1).f3.f1) t576 _ A60.out).mono ?_
                        rintro e w70 ⟨rfl, hb⟩
                        refine ⟨_, rfl, ?_⟩
                        have n0_ := blkE BK523 hb
                        have n1_ := blkE BK524 hb
                        have n2_ := blkE BK537 hb
                        have n3_ := blkE BK550 hb
                        have n4_ := blkE BK559 hb
                        have n5_ := blkE BK568 hb
                        have n6_ := Aside0.mk (below_step (by repeat (first | (with_reducible first | exact HB.out | apply below_alloc | apply pw_below_drewN | apply below_drew1 | refine below_set ?_ GE523.out | refine below_set ?_ GE524.out | refine below_set ?_ GE537.out | refine below_set ?_ GE550.out | refine below_set ?_ GE559.out | refine below_set ?_ GE568.out) | exact HB.out)) hb)
                        clear BK523
                        clear BK524
                        clear BK537
                        clear BK550
                        clear BK559
                        clear BK568
                        clear HB
                        have BK523 := n0_
                        have BK524 := n1_
                        have BK537 := n2_
                        have BK550 := n3_
                        have BK559 := n4_
                        have BK568 := n5_
                        have HB := n6_
                        clear n0_ n1_ n2_ n3_ n4_ n5_ n6_
                        (try clear hb)
                        (try clear hb2)
                        (try clear hk)
                        (try clear hi)
                        refine hK.out _ _ ⟨(blk_cell BK523.out 0).trans rfl, (blk_cell BK523.out 1).trans rfl, ((HB.out.cell (World.block_lt_of_cell? w _ hw573_0)).trans hw573_0), ((HB.out.cell (World.block_lt_of_cell? w _ hw573_1)).trans hw573_1), ((HB.out.cell (World.block_lt_of_cell? w _ hw573_2)).trans hw573_2), ((HB.out.cell (World.block_lt_of_cell? w _ hw573_3)).trans hw573_3), ((HB.out.cell (World.block_lt_of_cell? w _ hw573_4)).trans hw573_4), ((HB.out.cell (World.block_lt_of_cell? w _ hw573_5)).trans hw573_5), ((HB.out.cell (World.block_lt_of_cell? w _ hw573_6)).trans hw573_6), ((HB.out.cell (World.block_lt_of_cell? w _ hw575_0)).trans hw575_0), ((HB.out.cell (World.block_lt_of_cell? w _ hw575_1)).trans hw575_1), ((HB.out.cell (World.block_lt_of_cell? w _ hw575_2)).trans hw575_2), ((HB.out.cell (World.block_lt_of_cell? w _ hw575_3)).trans hw575_3), ((HB.out.cell (World.block_lt_of_cell? w _ hw575_4)).trans hw575_4), ((HB.out.cell (World.block_lt_of_cell? w _ hw575_5)).trans hw575_5), ((HB.out.cell (World.block_lt_of_cell? w _ hw575_6)).trans hw575_6)⟩ (fun hHeld => ?_)
                        clear hK K
                        refine norm_ (a' := ?_) ?_ ?_
                        rotate_left
                        · show Act.put _ (some 90) _ = _
                          simp only [Act.put, List.setIfInBounds_toArray, List.set_cons_zero, List.set_cons_succ, i64_w, i32_w]
                          rfl
                        refine pure_ (i := 12) (N := some 91) (v := ?_) (a' := ?_) #[true, true, true, true, true, true, true, true, true, true, true, true, true] rfl rfl (any_of HT_.out (by kernel_rfl)) (fun _ _ _ h => h) (Or.inl ⟨by rfl, ?_⟩) ?_ ?_
                        rotate_left
                        · intro w'
                          go_simp
                          with_reducible rfl
                        rotate_left
                        · simp only [Act.put, List.setIfInBounds_toArray, List.set_cons_zero, List.set_cons_succ, i64_w, i32_w]
                          rfl
                        refine done_ (done_of HT_.out (by kernel_rfl)) ?_
                        try go_wp2
                        go_roundg k1
                        case measure => have := HK1.out; omega
                        case rel => exact ⟨(wrap64 (x15_1 + 1)), (by first | rfl | (simp; done) | (simp [*]; done)), H', ⟨by have := HK1.out; omega⟩, ⟨by (with_reducible repeat first | apply blk_drewN | apply blk_drew | apply blk_alloc); exact BK523.out⟩, ⟨by (with_reducible repeat first | apply blk_drewN | apply blk_drew | apply blk_alloc); exact BK524.out⟩, ⟨by (with_reducible repeat first | apply blk_drewN | apply blk_drew | apply blk_alloc); exact BK537.out⟩, ⟨by (with_reducible repeat first | apply blk_drewN | apply blk_drew | apply blk_alloc); exact BK550.out⟩, ⟨by (with_reducible repeat first | apply blk_drewN | apply blk_drew | apply blk_alloc); exact BK559.out⟩, ⟨by (with_reducible repeat first | apply blk_drewN | apply blk_drew | apply blk_alloc); exact BK568.out⟩, ⟨by repeat (first | (with_reducible first | exact HB.out | apply below_alloc | apply pw_below_drewN | apply below_drew1 | refine below_set ?_ GE523.out | refine below_set ?_ GE524.out | refine below_set ?_ GE537.out | refine below_set ?_ GE550.out | refine below_set ?_ GE559.out | refine below_set ?_ GE568.out) | exact HB.out)⟩⟩
                      · rw [if_neg c61] at H
                        exact absurd H (by simp)
                    · rw [if_neg c58] at H
                      exact absurd H (by simp)
                  · rw [if_neg c57] at H
                    have c57b0 : decide (x15_1 < (l0_1.length : Int)) = false := decide_eq_false c57
                    clear c57
                    replace H := Option.bind_eq_some_iff.mp H
                    obtain ⟨t577, A710, H⟩ := H
                    replace H : (some t577) = some r := H
                    have A71 := Aside0.mk A710
                    clear A710
                    obtain rfl := Option.some.inj H
                    have hnb72 := NB523_524.out
                    have hnc72 := NB524_523.out
                    have hnb73 := NB523_537.out
                    have hnc73 := NB537_523.out
                    have hnb74 := NB523_550.out
                    have hnc74 := NB550_523.out
                    have hnb75 := NB523_559.out
                    have hnc75 := NB559_523.out
                    have hnb76 := NB523_568.out
                    have hnc76 := NB568_523.out
                    have hcz77_0 : wr.cell? ⟨gb523, 0, none⟩ = some (.slice A0_0 l0_0.length c0_0) := (blk_cell BK523.out 0).trans rfl
                    have hcz77_1 : wr.cell? ⟨gb523, 1, none⟩ = some (.slice A0_1 l0_1.length c0_1) := (blk_cell BK523.out 1).trans rfl
                    have hfz77_0 := blk_frozen BK523.out 0
                    have hfz77_1 := blk_frozen BK523.out 1
                    go_wp2_with (first | ((with_reducible refine gate_callee (f := 19) rfl ?_); refine goesL_ (some 92) rfl rfl Try.func19 (by kernel_rfl) rfl #[] rfl (by (try simp only [List.map_toArray, List.map_cons, List.map_nil]); first | done | rfl | (simp only [List.length_drop, List.length_take]; rfl)) ?_; (with_reducible refine (potbanklaw01_sane.calls  t577 _ A71.out).mono ?_); rintro e w78 ⟨rfl, hb⟩; refine ⟨_, rfl, ?_⟩; replace BK523 := blkE BK523 hb; replace BK524 := blkE BK524 hb; replace BK537 := blkE BK537 hb; replace BK550 := blkE BK550 hb; replace BK559 := blkE BK559 hb; replace BK568 := blkE BK568 hb; replace HB := Aside0.mk (below_step (by repeat (first | (with_reducible first | exact HB.out | apply below_alloc | apply pw_below_drewN | apply below_drew1 | refine below_set ?_ GE523.out | refine below_set ?_ GE524.out | refine below_set ?_ GE537.out | refine below_set ?_ GE550.out | refine below_set ?_ GE559.out | refine below_set ?_ GE568.out) | exact HB.out)) hb); (try clear hb); (try clear hb2); (try clear hk); (try clear hi)))
                    go_ret
                    exact ⟨by first | rfl | (simp [errW_none, errW_some] <;> rfl) | (simp [*, errW_none, errW_some] <;> rfl), by repeat (first | (with_reducible first | exact HB.out | apply below_alloc | apply pw_below_drewN | apply below_drew1 | refine below_set ?_ GE523.out | refine below_set ?_ GE524.out | refine below_set ?_ GE537.out | refine below_set ?_ GE550.out | refine below_set ?_ GE559.out | refine below_set ?_ GE568.out) | exact HB.out)⟩
            · rw [if_neg c17] at H
              exact absurd H (by simp)
          · rw [if_neg c14] at H
            have c14b0 : (t569 == t570) = false := beq_eq_false_iff_ne.mpr c14
            have c14b1 : (t569 != t570) = true := bne_iff_ne.mpr c14
            exact absurd H (by simp)
        · rw [if_neg c11] at H
          have c11b0 : (t558 == t567) = false := beq_eq_false_iff_ne.mpr c11
          have c11b1 : (t558 != t567) = true := bne_iff_ne.mpr c11
          exact absurd H (by simp)
    · rw [if_neg c9] at H
      have c9b0 : (t536 == t549) = false := beq_eq_false_iff_ne.mpr c9
      have c9b1 : (t536 != t549) = true := bne_iff_ne.mpr c9
      exact absurd H (by simp)

end Go.Proofs.Ytcgokimagimamaa.F
