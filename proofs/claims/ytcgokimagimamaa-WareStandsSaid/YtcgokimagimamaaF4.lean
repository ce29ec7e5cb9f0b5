/- Written by a program of mine out of the translation: what functions answer; Lean checks it. -/
import Derived.Test.YtcgokimagimamaaF
import Derived.Test.YtcgokimagimamaaF20
import Derived.Test.YtcgokimagimamaaF21
import Derived.Test.YtcgokimagimamaaF22
import Derived.Test.YtcgokimagimamaaHandA
namespace Go.Proofs.Ytcgokimagimamaa.F
open Go.RowKit Go.Proofs.YtcgokimagimamaaW.PrintWords Go.Proofs.YtcgokimagimamaaW.PrintLast Go.Proofs.YtcgokimagimamaaW.PrintMore
attribute [local go_sem] max2_int min2_int max_two min_two max_three min_three max_four min_four   -- for this text's walks alone
set_option linter.unusedVariables false
set_option linter.unusedSimpArgs false
/-! ### potbanklaw01_WareStands: function 4 -/
mutual
def potbanklaw01_WareStands.l0 : Nat → Int → List Int → Bool → Int → Int → Int → Int → Int → Int → Int → Int → Int → Int → Int → Int → Int → Option (Bool)
  | 0, _, _, _, _, _, _, _, _, _, _, _, _, _, _, _, _ => none
  | k + 1, x1, x2, x8, x10, x11, x177000, x177001, x177002, x177003, x177004, x177005, x177006, x177007, x177008, x177009, x177010 => if x11 ≥ 0 then ((ware_Load.f x177000 x177001 x177002 x177003 x177004 x177005 x177006 x177007 x177008 x177009 x177010 x1 x11).bind fun bt180 => (if bt180.2.2 = 0 then (if x10 < bt180.1 then (potbanklaw01_WareStands.j1 k x1 x2 x8 x10 x11 true x177000 x177001 x177002 x177003 x177004 x177005 x177006 x177007 x177008 x177009 x177010) else (if x10 > bt180.2.1 then (potbanklaw01_WareStands.j1 k x1 x2 x8 x10 x11 true x177000 x177001 x177002 x177003 x177004 x177005 x177006 x177007 x177008 x177009 x177010) else (if x8 = true then (potbanklaw01_WareStands.j1 k x1 x2 x8 x10 x11 (decide (x10 > x177010)) x177000 x177001 x177002 x177003 x177004 x177005 x177006 x177007 x177008 x177009 x177010) else (potbanklaw01_WareStands.j1 k x1 x2 x8 x10 x11 false x177000 x177001 x177002 x177003 x177004 x177005 x177006 x177007 x177008 x177009 x177010)))) else (potbanklaw01_WareStands.j1 k x1 x2 x8 x10 x11 true x177000 x177001 x177002 x177003 x177004 x177005 x177006 x177007 x177008 x177009 x177010))) else ((ware_Load.f x177000 x177001 x177002 x177003 x177004 x177005 x177006 x177007 x177008 x177009 x177010 x1 0).bind fun bt186 => (if bt186.2.2 = 0 then (if x8 = true then (potbanklaw01_WareStands.j2 k x1 x2 x8 false x177000 x177001 x177002 x177003 x177004 x177005 x177006 x177007 x177008 x177009 x177010) else (potbanklaw01_WareStands.j2 k x1 x2 x8 (decide (bt186.2.1 ≤ x177010)) x177000 x177001 x177002 x177003 x177004 x177005 x177006 x177007 x177008 x177009 x177010)) else (potbanklaw01_WareStands.j2 k x1 x2 x8 true x177000 x177001 x177002 x177003 x177004 x177005 x177006 x177007 x177008 x177009 x177010)))
def potbanklaw01_WareStands.j1 : Nat → Int → List Int → Bool → Int → Int → Bool → Int → Int → Int → Int → Int → Int → Int → Int → Int → Int → Int → Option (Bool)
  | 0, _, _, _, _, _, _, _, _, _, _, _, _, _, _, _, _, _ => none
  | k + 1, x1, x2, x8, x10, x11, x77, x177000, x177001, x177002, x177003, x177004, x177005, x177006, x177007, x177008, x177009, x177010 => if x77 = true then (none) else ((potbankref01_At.f x2 x11).bind fun t184 => ((potbankref01_Mod.f t184 (wrap64 ((wrap64 (x177009 - x177008)) + 1))).bind fun t185 => (potbanklaw01_WareStands.l0 k x1 x2 x8 (wrap64 (x10 + (wrap64 (x177008 + t185)))) (wrap64 (x11 - 1)) x177000 x177001 x177002 x177003 x177004 x177005 x177006 x177007 x177008 x177009 x177010)))
def potbanklaw01_WareStands.j2 : Nat → Int → List Int → Bool → Bool → Int → Int → Int → Int → Int → Int → Int → Int → Int → Int → Int → Option (Bool)
  | 0, _, _, _, _, _, _, _, _, _, _, _, _, _, _, _ => none
  | k + 1, x1, x2, x8, x114, x177000, x177001, x177002, x177003, x177004, x177005, x177006, x177007, x177008, x177009, x177010 => if x114 = true then (none) else (if x1 > 1 then ((ware_Stands.f x177000 x177001 x177002 x177003 x177004 x177005 x177006 x177007 x177008 x177009 x177010 (wrap64 (x1 - 1))).bind fun bt190 => (if bt190.2 = 0 then (if x8 = true then (if bt190.1 = true then (potbanklaw01_WareStands.j3 k x2 x177000 x177001 x177002 x177003 x177004 x177005 x177006 x177007 x177008 x177009 x177010) else (none)) else (potbanklaw01_WareStands.j3 k x2 x177000 x177001 x177002 x177003 x177004 x177005 x177006 x177007 x177008 x177009 x177010)) else (none))) else (potbanklaw01_WareStands.j3 k x2 x177000 x177001 x177002 x177003 x177004 x177005 x177006 x177007 x177008 x177009 x177010))
def potbanklaw01_WareStands.j3 : Nat → List Int → Int → Int → Int → Int → Int → Int → Int → Int → Int → Int → Int → Option (Bool)
  | 0, _, _, _, _, _, _, _, _, _, _, _, _ => none
  | k + 1, x2, x177000, x177001, x177002, x177003, x177004, x177005, x177006, x177007, x177008, x177009, x177010 => (potbankref01_At.f x2 0).bind fun t192 => ((potbankref01_Mod.f t192 4000).bind fun t193 => ((ware_Most.f x177000 x177001 x177002 x177003 x177004 x177005 x177006 x177007 x177008 x177009 x177010 t193).bind fun bt194 => (if bt194.2 = 3 then (if x177006 > t193 then ((potbanklaw01_sane.f).bind fun t196 => (some t196)) else (none)) else ((ware_Height.f x177000 x177001 x177002 x177003 x177004 x177005 x177006 x177007 x177008 x177009 x177010 bt194.1).bind fun bt197 => ((ware_Stands.f x177000 x177001 x177002 x177003 x177004 x177005 x177006 x177007 x177008 x177009 x177010 bt194.1).bind fun bt201 => (if bt194.2 = 0 then (if bt197.2.2 = 0 then (if bt201.2 = 0 then (if bt201.1 = true then (potbanklaw01_WareStands.j4 k t193 bt194.1 (decide (bt197.2.1 > t193)) x177000 x177001 x177002 x177003 x177004 x177005 x177006 x177007 x177008 x177009 x177010) else (potbanklaw01_WareStands.j4 k t193 bt194.1 true x177000 x177001 x177002 x177003 x177004 x177005 x177006 x177007 x177008 x177009 x177010)) else (potbanklaw01_WareStands.j4 k t193 bt194.1 true x177000 x177001 x177002 x177003 x177004 x177005 x177006 x177007 x177008 x177009 x177010)) else (potbanklaw01_WareStands.j4 k t193 bt194.1 true x177000 x177001 x177002 x177003 x177004 x177005 x177006 x177007 x177008 x177009 x177010)) else (potbanklaw01_WareStands.j4 k t193 bt194.1 true x177000 x177001 x177002 x177003 x177004 x177005 x177006 x177007 x177008 x177009 x177010)))))))
def potbanklaw01_WareStands.j4 : Nat → Int → Int → Bool → Int → Int → Int → Int → Int → Int → Int → Int → Int → Int → Int → Option (Bool)
  | 0, _, _, _, _, _, _, _, _, _, _, _, _, _, _ => none
  | k + 1, x18, x19, x183, x177000, x177001, x177002, x177003, x177004, x177005, x177006, x177007, x177008, x177009, x177010 => if x183 = true then (none) else (if x19 = 40 then ((potbanklaw01_sane.f).bind fun t203 => (some t203)) else ((ware_Height.f x177000 x177001 x177002 x177003 x177004 x177005 x177006 x177007 x177008 x177009 x177010 (wrap64 (x19 + 1))).bind fun bt204 => ((ware_Stands.f x177000 x177001 x177002 x177003 x177004 x177005 x177006 x177007 x177008 x177009 x177010 (wrap64 (x19 + 1))).bind fun bt208 => (if bt204.2.2 = 0 then (if bt208.2 = 0 then (if bt208.1 = true then (if bt204.2.1 > x18 then ((potbanklaw01_sane.f).bind fun t210 => (some t210)) else (none)) else ((potbanklaw01_sane.f).bind fun t211 => (some t211))) else (none)) else (none)))))
end
def potbanklaw01_WareStands.f (k : Nat) (l0 : List Int) (a1 : Int) (l2 : List Int) : Option (Bool) := (potbankref01_MadeShape.f 1 l0).bind fun bt165 => ((potbankref01_Mod.f a1 40).bind fun t177 => ((ware_Stands.f bt165.1 bt165.2.1 bt165.2.2.1 bt165.2.2.2.1 bt165.2.2.2.2.1 bt165.2.2.2.2.2.1 bt165.2.2.2.2.2.2.1 bt165.2.2.2.2.2.2.2.1 bt165.2.2.2.2.2.2.2.2.1 bt165.2.2.2.2.2.2.2.2.2.1 bt165.2.2.2.2.2.2.2.2.2.2 (wrap64 (1 + t177))).bind fun bt178 => (if bt178.2 = 0 then (potbanklaw01_WareStands.l0 k (wrap64 (1 + t177)) l2 bt178.1 0 (wrap64 ((wrap64 (1 + t177)) - 1)) bt165.1 bt165.2.1 bt165.2.2.1 bt165.2.2.2.1 bt165.2.2.2.2.1 bt165.2.2.2.2.2.1 bt165.2.2.2.2.2.2.1 bt165.2.2.2.2.2.2.2.1 bt165.2.2.2.2.2.2.2.2.1 bt165.2.2.2.2.2.2.2.2.2.1 bt165.2.2.2.2.2.2.2.2.2.2) else (none))))
theorem potbanklaw01_WareStands.mono_l : ∀ k, (∀ y0 y1 y2 y3 y4 y5 y6 y7 y8 y9 y10 y11 y12 y13 y14 y15, LeO (potbanklaw01_WareStands.l0 k y0 y1 y2 y3 y4 y5 y6 y7 y8 y9 y10 y11 y12 y13 y14 y15) (potbanklaw01_WareStands.l0 (k + 1) y0 y1 y2 y3 y4 y5 y6 y7 y8 y9 y10 y11 y12 y13 y14 y15)) ∧ (∀ y0 y1 y2 y3 y4 y5 y6 y7 y8 y9 y10 y11 y12 y13 y14 y15 y16, LeO (potbanklaw01_WareStands.j1 k y0 y1 y2 y3 y4 y5 y6 y7 y8 y9 y10 y11 y12 y13 y14 y15 y16) (potbanklaw01_WareStands.j1 (k + 1) y0 y1 y2 y3 y4 y5 y6 y7 y8 y9 y10 y11 y12 y13 y14 y15 y16)) ∧ (∀ y0 y1 y2 y3 y4 y5 y6 y7 y8 y9 y10 y11 y12 y13 y14, LeO (potbanklaw01_WareStands.j2 k y0 y1 y2 y3 y4 y5 y6 y7 y8 y9 y10 y11 y12 y13 y14) (potbanklaw01_WareStands.j2 (k + 1) y0 y1 y2 y3 y4 y5 y6 y7 y8 y9 y10 y11 y12 y13 y14)) ∧ (∀ y0 y1 y2 y3 y4 y5 y6 y7 y8 y9 y10 y11, LeO (potbanklaw01_WareStands.j3 k y0 y1 y2 y3 y4 y5 y6 y7 y8 y9 y10 y11) (potbanklaw01_WareStands.j3 (k + 1) y0 y1 y2 y3 y4 y5 y6 y7 y8 y9 y10 y11)) ∧ (∀ y0 y1 y2 y3 y4 y5 y6 y7 y8 y9 y10 y11 y12 y13, LeO (potbanklaw01_WareStands.j4 k y0 y1 y2 y3 y4 y5 y6 y7 y8 y9 y10 y11 y12 y13) (potbanklaw01_WareStands.j4 (k + 1) y0 y1 y2 y3 y4 y5 y6 y7 y8 y9 y10 y11 y12 y13))
  | 0 => ⟨fun _ _ _ _ _ _ _ _ _ _ _ _ _ _ _ _ r h => by simp [potbanklaw01_WareStands.l0] at h, fun _ _ _ _ _ _ _ _ _ _ _ _ _ _ _ _ _ r h => by simp [potbanklaw01_WareStands.j1] at h, fun _ _ _ _ _ _ _ _ _ _ _ _ _ _ _ r h => by simp [potbanklaw01_WareStands.j2] at h, fun _ _ _ _ _ _ _ _ _ _ _ _ r h => by simp [potbanklaw01_WareStands.j3] at h, fun _ _ _ _ _ _ _ _ _ _ _ _ _ _ r h => by simp [potbanklaw01_WareStands.j4] at h⟩
  | k + 1 => by
    obtain ⟨ih0, ih1, ih2, ih3, ih4⟩ := potbanklaw01_WareStands.mono_l k
    refine ⟨?_, ?_, ?_, ?_, ?_⟩
    · intro y0 y1 y2 y3 y4 y5 y6 y7 y8 y9 y10 y11 y12 y13 y14 y15
      unfold potbanklaw01_WareStands.l0
      repeat' first
      | (with_reducible exact ih0 _ _ _ _ _ _ _ _ _ _ _ _ _ _ _ _)
      | (with_reducible exact ih1 _ _ _ _ _ _ _ _ _ _ _ _ _ _ _ _ _)
      | (with_reducible exact ih2 _ _ _ _ _ _ _ _ _ _ _ _ _ _ _)
      | (with_reducible exact ih3 _ _ _ _ _ _ _ _ _ _ _ _)
      | (with_reducible exact ih4 _ _ _ _ _ _ _ _ _ _ _ _ _ _)
      | (with_reducible exact LeO.refl _)
      | (with_reducible exact LeO.none _)
      | (with_reducible refine LeO.ite ?_ ?_)
      | (with_reducible refine LeO.bind ?_ (fun _ => ?_))
      | exact ih0 _ _ _ _ _ _ _ _ _ _ _ _ _ _ _ _
      | exact ih1 _ _ _ _ _ _ _ _ _ _ _ _ _ _ _ _ _
      | exact ih2 _ _ _ _ _ _ _ _ _ _ _ _ _ _ _
      | exact ih3 _ _ _ _ _ _ _ _ _ _ _ _
      | exact ih4 _ _ _ _ _ _ _ _ _ _ _ _ _ _
      | exact LeO.none _
      | refine LeO.ite ?_ ?_
      | refine LeO.bind ?_ (fun _ => ?_)
    · intro y0 y1 y2 y3 y4 y5 y6 y7 y8 y9 y10 y11 y12 y13 y14 y15 y16
      unfold potbanklaw01_WareStands.j1
      repeat' first
      | (with_reducible exact ih0 _ _ _ _ _ _ _ _ _ _ _ _ _ _ _ _)
      | (with_reducible exact ih1 _ _ _ _ _ _ _ _ _ _ _ _ _ _ _ _ _)
      | (with_reducible exact ih2 _ _ _ _ _ _ _ _ _ _ _ _ _ _ _)
      | (with_reducible exact ih3 _ _ _ _ _ _ _ _ _ _ _ _)
      | (with_reducible exact ih4 _ _ _ _ _ _ _ _ _ _ _ _ _ _)
      | (with_reducible exact LeO.refl _)
      | (with_reducible exact LeO.none _)
      | (with_reducible refine LeO.ite ?_ ?_)
      | (with_reducible refine LeO.bind ?_ (fun _ => ?_))
      | exact ih0 _ _ _ _ _ _ _ _ _ _ _ _ _ _ _ _
      | exact ih1 _ _ _ _ _ _ _ _ _ _ _ _ _ _ _ _ _
      | exact ih2 _ _ _ _ _ _ _ _ _ _ _ _ _ _ _
      | exact ih3 _ _ _ _ _ _ _ _ _ _ _ _
      | exact ih4 _ _ _ _ _ _ _ _ _ _ _ _ _ _
      | exact LeO.none _
      | refine LeO.ite ?_ ?_
      | refine LeO.bind ?_ (fun _ => ?_)
    · intro y0 y1 y2 y3 y4 y5 y6 y7 y8 y9 y10 y11 y12 y13 y14
      unfold potbanklaw01_WareStands.j2
      repeat' first
      | (with_reducible exact ih0 _ _ _ _ _ _ _ _ _ _ _ _ _ _ _ _)
      | (with_reducible exact ih1 _ _ _ _ _ _ _ _ _ _ _ _ _ _ _ _ _)
      | (with_reducible exact ih2 _ _ _ _ _ _ _ _ _ _ _ _ _ _ _)
      | (with_reducible exact ih3 _ _ _ _ _ _ _ _ _ _ _ _)
      | (with_reducible exact ih4 _ _ _ _ _ _ _ _ _ _ _ _ _ _)
      | (with_reducible exact LeO.refl _)
      | (with_reducible exact LeO.none _)
      | (with_reducible refine LeO.ite ?_ ?_)
      | (with_reducible refine LeO.bind ?_ (fun _ => ?_))
      | exact ih0 _ _ _ _ _ _ _ _ _ _ _ _ _ _ _ _
      | exact ih1 _ _ _ _ _ _ _ _ _ _ _ _ _ _ _ _ _
      | exact ih2 _ _ _ _ _ _ _ _ _ _ _ _ _ _ _
      | exact ih3 _ _ _ _ _ _ _ _ _ _ _ _
      | exact ih4 _ _ _ _ _ _ _ _ _ _ _ _ _ _
      | exact LeO.none _
      | refine LeO.ite ?_ ?_
      | refine LeO.bind ?_ (fun _ => ?_)
    · intro y0 y1 y2 y3 y4 y5 y6 y7 y8 y9 y10 y11
      unfold potbanklaw01_WareStands.j3
      repeat' first
      | (with_reducible exact ih0 _ _ _ _ _ _ _ _ _ _ _ _ _ _ _ _)
      | (with_reducible exact ih1 _ _ _ _ _ _ _ _ _ _ _ _ _ _ _ _ _)
      | (with_reducible exact ih2 _ _ _ _ _ _ _ _ _ _ _ _ _ _ _)
      | (with_reducible exact ih3 _ _ _ _ _ _ _ _ _ _ _ _)
      | (with_reducible exact ih4 _ _ _ _ _ _ _ _ _ _ _ _ _ _)
      | (with_reducible exact LeO.refl _)
      | (with_reducible exact LeO.none _)
      | (with_reducible refine LeO.ite ?_ ?_)
      | (with_reducible refine LeO.bind ?_ (fun _ => ?_))
      | exact ih0 _ _ _ _ _ _ _ _ _ _ _ _ _ _ _ _
      | exact ih1 _ _ _ _ _ _ _ _ _ _ _ _ _ _ _ _ _
      | exact ih2 _ _ _ _ _ _ _ _ _ _ _ _ _ _ _
      | exact ih3 _ _ _ _ _ _ _ _ _ _ _ _
      | exact ih4 _ _ _ _ _ _ _ _ _ _ _ _ _ _
      | exact LeO.none _
      | refine LeO.ite ?_ ?_
      | refine LeO.bind ?_ (fun _ => ?_)
    · intro y0 y1 y2 y3 y4 y5 y6 y7 y8 y9 y10 y11 y12 y13
      unfold potbanklaw01_WareStands.j4
      repeat' first
      | (with_reducible exact ih0 _ _ _ _ _ _ _ _ _ _ _ _ _ _ _ _)
      | (with_reducible exact ih1 _ _ _ _ _ _ _ _ _ _ _ _ _ _ _ _ _)
      | (with_reducible exact ih2 _ _ _ _ _ _ _ _ _ _ _ _ _ _ _)
      | (with_reducible exact ih3 _ _ _ _ _ _ _ _ _ _ _ _)
      | (with_reducible exact ih4 _ _ _ _ _ _ _ _ _ _ _ _ _ _)
      | (with_reducible exact LeO.refl _)
      | (with_reducible exact LeO.none _)
      | (with_reducible refine LeO.ite ?_ ?_)
      | (with_reducible refine LeO.bind ?_ (fun _ => ?_))
      | exact ih0 _ _ _ _ _ _ _ _ _ _ _ _ _ _ _ _
      | exact ih1 _ _ _ _ _ _ _ _ _ _ _ _ _ _ _ _ _
      | exact ih2 _ _ _ _ _ _ _ _ _ _ _ _ _ _ _
      | exact ih3 _ _ _ _ _ _ _ _ _ _ _ _
      | exact ih4 _ _ _ _ _ _ _ _ _ _ _ _ _ _
      | exact LeO.none _
      | refine LeO.ite ?_ ?_
      | refine LeO.bind ?_ (fun _ => ?_)
theorem potbanklaw01_WareStands.mono : ∀ a0 a1 a2 k, LeO (potbanklaw01_WareStands.f k a0 a1 a2) (potbanklaw01_WareStands.f (k + 1) a0 a1 a2) := by
  intro a0 a1 a2 k
  obtain ⟨ih0, ih1, ih2, ih3, ih4⟩ := potbanklaw01_WareStands.mono_l k
  unfold potbanklaw01_WareStands.f
  repeat' first
      | (with_reducible exact ih0 _ _ _ _ _ _ _ _ _ _ _ _ _ _ _ _)
      | (with_reducible exact ih1 _ _ _ _ _ _ _ _ _ _ _ _ _ _ _ _ _)
      | (with_reducible exact ih2 _ _ _ _ _ _ _ _ _ _ _ _ _ _ _)
      | (with_reducible exact ih3 _ _ _ _ _ _ _ _ _ _ _ _)
      | (with_reducible exact ih4 _ _ _ _ _ _ _ _ _ _ _ _ _ _)
      | (with_reducible exact LeO.refl _)
      | (with_reducible exact LeO.none _)
      | (with_reducible refine LeO.ite ?_ ?_)
      | (with_reducible refine LeO.bind ?_ (fun _ => ?_))
      | exact ih0 _ _ _ _ _ _ _ _ _ _ _ _ _ _ _ _
      | exact ih1 _ _ _ _ _ _ _ _ _ _ _ _ _ _ _ _ _
      | exact ih2 _ _ _ _ _ _ _ _ _ _ _ _ _ _ _
      | exact ih3 _ _ _ _ _ _ _ _ _ _ _ _
      | exact ih4 _ _ _ _ _ _ _ _ _ _ _ _ _ _
      | exact LeO.none _
      | refine LeO.ite ?_ ?_
      | refine LeO.bind ?_ (fun _ => ?_)
set_option maxHeartbeats 8000000 in
set_option maxRecDepth 100000 in
theorem potbanklaw01_WareStands.calls (k : Nat) (A0 : Option Addr) (c0 : Nat) (l0 : List Int) (a1 : Int) (A2 : Option Addr) (c2 : Nat) (l2 : List Int) (r : Bool) (w : World) (hr0 : Kd.C (Kd.int .i64) w A0 l0.length l0) (hc0 : l0.length ≤ c0) (hr2 : Kd.C (Kd.int .i64) w A2 l2.length l2) (hc2 : l2.length ≤ c2) (h : potbanklaw01_WareStands.f k l0 a1 l2 = some r) :
    Calls Try.prog 4 #[.slice A0 l0.length c0, .int .i64 a1, .slice A2 l2.length c2] w fun e w' => e = .returned (.bool r) ∧ Below w.heap.size w w' := by
  have hu25 := Try.underlying25
  have hu23 := Try.underlying23
  have HR0 := Aside0.mk hr0
  have HC0 := Aside0.mk hc0
  clear hr0 hc0
  have HR2 := Aside0.mk hr2
  have HC2 := Aside0.mk hc2
  clear hr2 hc2
  have HB := Aside0.mk (Below.refl w.heap.size w)
  have H : ((potbankref01_MadeShape.f 1 l0).bind fun bt165 => ((potbankref01_Mod.f a1 40).bind fun t177 => ((ware_Stands.f bt165.1 bt165.2.1 bt165.2.2.1 bt165.2.2.2.1 bt165.2.2.2.2.1 bt165.2.2.2.2.2.1 bt165.2.2.2.2.2.2.1 bt165.2.2.2.2.2.2.2.1 bt165.2.2.2.2.2.2.2.2.1 bt165.2.2.2.2.2.2.2.2.2.1 bt165.2.2.2.2.2.2.2.2.2.2 (wrap64 (1 + t177))).bind fun bt178 => (if bt178.2 = 0 then (potbanklaw01_WareStands.l0 k (wrap64 (1 + t177)) l2 bt178.1 0 (wrap64 ((wrap64 (1 + t177)) - 1)) bt165.1 bt165.2.1 bt165.2.2.1 bt165.2.2.2.1 bt165.2.2.2.2.1 bt165.2.2.2.2.2.1 bt165.2.2.2.2.2.2.1 bt165.2.2.2.2.2.2.2.1 bt165.2.2.2.2.2.2.2.2.1 bt165.2.2.2.2.2.2.2.2.2.1 bt165.2.2.2.2.2.2.2.2.2.2) else (none))))) = some r := h
  clear h
  replace H := Option.bind_eq_some_iff.mp H
  obtain ⟨⟨t165, t166, t167, t168, t169, t170, t171, t172, t173, t174, t175⟩, A40, H⟩ := H
  replace H : ((potbankref01_Mod.f a1 40).bind fun t177 => ((ware_Stands.f t165 t166 t167 t168 t169 t170 t171 t172 t173 t174 t175 (wrap64 (1 + t177))).bind fun bt178 => (if bt178.2 = 0 then (potbanklaw01_WareStands.l0 k (wrap64 (1 + t177)) l2 bt178.1 0 (wrap64 ((wrap64 (1 + t177)) - 1)) t165 t166 t167 t168 t169 t170 t171 t172 t173 t174 t175) else (none)))) = some r := H
  have A4 := Aside0.mk A40
  clear A40
  replace H := Option.bind_eq_some_iff.mp H
  obtain ⟨t177, A50, H⟩ := H
  replace H : ((ware_Stands.f t165 t166 t167 t168 t169 t170 t171 t172 t173 t174 t175 (wrap64 (1 + t177))).bind fun bt178 => (if bt178.2 = 0 then (potbanklaw01_WareStands.l0 k (wrap64 (1 + t177)) l2 bt178.1 0 (wrap64 ((wrap64 (1 + t177)) - 1)) t165 t166 t167 t168 t169 t170 t171 t172 t173 t174 t175) else (none))) = some r := H
  have A5 := Aside0.mk A50
  clear A50
  replace H := Option.bind_eq_some_iff.mp H
  obtain ⟨⟨t178, t179⟩, A60, H⟩ := H
  replace H : (if t179 = 0 then (potbanklaw01_WareStands.l0 k (wrap64 (1 + t177)) l2 t178 0 (wrap64 ((wrap64 (1 + t177)) - 1)) t165 t166 t167 t168 t169 t170 t171 t172 t173 t174 t175) else (none)) = some r := H
  have A6 := Aside0.mk A60
  clear A60
  by_cases c7 : t179 = 0
  · rw [if_pos c7] at H
    have c7b0 : (t179 == 0) = true := beq_iff_eq.mpr c7
    have c7b1 : (t179 != 0) = false := bne_eq_false_iff_eq.mpr c7
    clear c7
    have H' := Aside0.mk H
    clear H
    go_enter Try.func4, Try.ntmps4
    go_wp2_with (first | (go_at_call 20; (with_reducible refine (potbankref01_MadeShape.calls 1 _ _ l0 t165 t166 t167 t168 t169 t170 t171 t172 t173 t174 t175 _ ?side1 ?side2 A4.out).mono ?_); (case side1 => repeat (first | exact HR0.out | (with_reducible refine Kd.C_alloc ?_ _) | (with_reducible refine Kd.C_drewN ?_ _) | (with_reducible refine Kd.C_drew ?_))); (case side2 => exact HC0.out); rintro e w8 ⟨rfl, hb⟩; replace HB := Aside0.mk (below_step (by repeat (first | (with_reducible first | exact HB.out | apply below_alloc | apply pw_below_drewN | apply below_drew1) | exact HB.out)) hb); (try clear hb); (try clear hb2); (try clear hk); (try clear hi)) | ((with_reducible refine gate_dst (N := 7) rfl ?_); refine box_event ?hg (N := 7) ?hd (cs := #[.int .i64 0, .int .i64 0, .int .i64 0, .int .i64 0, .int .i64 0, .int .i64 0, .int .i64 0, .int .i64 0, .int .i64 0, .int .i64 0, .int .i64 0]) (t := 25) ?hr ?_; (case hd => rfl); (case hg => rfl); (case hr => first | (go_simp; done) | (go_simp; rfl)); intro gb176 hg w9 hbox hb; have BK176 := Aside0.mk (hbox); have GW176 := Aside0.mk ((by rw [hg]; exact (below_size (by repeat (first | (with_reducible first | exact HB.out | apply below_alloc | apply pw_below_drewN | apply below_drew1) | exact HB.out))) : w.heap.size ≤ gb176)); have GE176 := Aside0.mk ((by rw [hg]; exact (below_size (by repeat (first | (with_reducible first | exact HB.out | apply below_alloc | apply pw_below_drewN | apply below_drew1) | exact HB.out))) : w.heap.size ≤ gb176)); replace HB := Aside0.mk (below_step (by repeat (first | (with_reducible first | exact HB.out | apply below_alloc | apply pw_below_drewN | apply below_drew1) | exact HB.out)) hb); clear hb hbox hg; obtain ⟨hcz10_0, hcz10_1, hcz10_2, hcz10_3, hcz10_4, hcz10_5, hcz10_6, hcz10_7, hcz10_8, hcz10_9, hcz10_10⟩ := cells11 BK176.out; obtain ⟨hfz10_0, hfz10_1, hfz10_2, hfz10_3, hfz10_4, hfz10_5, hfz10_6, hfz10_7, hfz10_8, hfz10_9, hfz10_10⟩ := froz11 BK176.out) | (go_at_call 21; (with_reducible refine (potbankref01_Mod.calls a1 40 t177 _ A5.out).mono ?_); rintro e w' ⟨rfl, ⟨nd, rfl⟩⟩; (try first | exact ⟨rfl, _, World.drewN_drewN _ _ _⟩ | exact ⟨rfl, _, Eq.trans (World.drewN_drewN _ _ _) (congrArg (World.drewN _) (Nat.add_assoc _ _ _))⟩)) | (go_at_call 15; (with_reducible refine (ware_Stands.calls t165 t166 t167 t168 t169 t170 t171 t172 t173 t174 t175 (wrap64 (1 + t177)) t178 t179 _ A6.out).mono ?_); rintro e w11 ⟨rfl, hb⟩; replace BK176 := Aside0.mk (blk_below (g := gb176) (o := .cells #[.int .i64 t165, .int .i64 t166, .int .i64 t167, .int .i64 t168, .int .i64 t169, .int .i64 t170, .int .i64 t171, .int .i64 t172, .int .i64 t173, .int .i64 t174, .int .i64 t175] 25 (0, 0)) (by (with_reducible repeat first | apply blk_drewN | apply blk_drew | apply blk_alloc); refine blk_put (cs := #[.int .i64 t165, .int .i64 t166, .int .i64 t167, .int .i64 t168, .int .i64 t169, .int .i64 t170, .int .i64 t171, .int .i64 t172, .int .i64 t173, .int .i64 t174, .int .i64 0]) ?_ 10 _ rfl; (with_reducible repeat first | apply blk_drewN | apply blk_drew | apply blk_alloc); refine blk_put (cs := #[.int .i64 t165, .int .i64 t166, .int .i64 t167, .int .i64 t168, .int .i64 t169, .int .i64 t170, .int .i64 t171, .int .i64 t172, .int .i64 t173, .int .i64 0, .int .i64 0]) ?_ 9 _ rfl; (with_reducible repeat first | apply blk_drewN | apply blk_drew | apply blk_alloc); refine blk_put (cs := #[.int .i64 t165, .int .i64 t166, .int .i64 t167, .int .i64 t168, .int .i64 t169, .int .i64 t170, .int .i64 t171, .int .i64 t172, .int .i64 0, .int .i64 0, .int .i64 0]) ?_ 8 _ rfl; (with_reducible repeat first | apply blk_drewN | apply blk_drew | apply blk_alloc); refine blk_put (cs := #[.int .i64 t165, .int .i64 t166, .int .i64 t167, .int .i64 t168, .int .i64 t169, .int .i64 t170, .int .i64 t171, .int .i64 0, .int .i64 0, .int .i64 0, .int .i64 0]) ?_ 7 _ rfl; (with_reducible repeat first | apply blk_drewN | apply blk_drew | apply blk_alloc); refine blk_put (cs := #[.int .i64 t165, .int .i64 t166, .int .i64 t167, .int .i64 t168, .int .i64 t169, .int .i64 t170, .int .i64 0, .int .i64 0, .int .i64 0, .int .i64 0, .int .i64 0]) ?_ 6 _ rfl; (with_reducible repeat first | apply blk_drewN | apply blk_drew | apply blk_alloc); refine blk_put (cs := #[.int .i64 t165, .int .i64 t166, .int .i64 t167, .int .i64 t168, .int .i64 t169, .int .i64 0, .int .i64 0, .int .i64 0, .int .i64 0, .int .i64 0, .int .i64 0]) ?_ 5 _ rfl; (with_reducible repeat first | apply blk_drewN | apply blk_drew | apply blk_alloc); refine blk_put (cs := #[.int .i64 t165, .int .i64 t166, .int .i64 t167, .int .i64 t168, .int .i64 0, .int .i64 0, .int .i64 0, .int .i64 0, .int .i64 0, .int .i64 0, .int .i64 0]) ?_ 4 _ rfl; (with_reducible repeat first | apply blk_drewN | apply blk_drew | apply blk_alloc); refine blk_put (cs := #[.int .i64 t165, .int .i64 t166, .int .i64 t167, .int .i64 0, .int .i64 0, .int .i64 0, .int .i64 0, .int .i64 0, .int .i64 0, .int .i64 0, .int .i64 0]) ?_ 3 _ rfl; (with_reducible repeat first | apply blk_drewN | apply blk_drew | apply blk_alloc); refine blk_put (cs := #[.int .i64 t165, .int .i64 t166, .int .i64 0, .int .i64 0, .int .i64 0, .int .i64 0, .int .i64 0, .int .i64 0, .int .i64 0, .int .i64 0, .int .i64 0]) ?_ 2 _ rfl; (with_reducible repeat first | apply blk_drewN | apply blk_drew | apply blk_alloc); refine blk_put (cs := #[.int .i64 t165, .int .i64 0, .int .i64 0, .int .i64 0, .int .i64 0, .int .i64 0, .int .i64 0, .int .i64 0, .int .i64 0, .int .i64 0, .int .i64 0]) ?_ 1 _ rfl; (with_reducible repeat first | apply blk_drewN | apply blk_drew | apply blk_alloc); refine blk_put (cs := #[.int .i64 0, .int .i64 0, .int .i64 0, .int .i64 0, .int .i64 0, .int .i64 0, .int .i64 0, .int .i64 0, .int .i64 0, .int .i64 0, .int .i64 0]) ?_ 0 _ rfl; (with_reducible repeat first | apply blk_drewN | apply blk_drew | apply blk_alloc); exact BK176.out) hb); replace HB := Aside0.mk (below_step (by repeat (first | (with_reducible first | exact HB.out | apply below_alloc | apply pw_below_drewN | apply below_drew1 | refine below_set ?_ GE176.out) | exact HB.out)) hb); (try clear hb); (try clear hb2); (try clear hk); (try clear hi)))
    repeat (go_quiet (first | (go_at_call 20; (with_reducible refine (potbankref01_MadeShape.calls 1 _ _ l0 t165 t166 t167 t168 t169 t170 t171 t172 t173 t174 t175 _ ?side1 ?side2 A4.out).mono ?_); (case side1 => repeat (first | exact HR0.out | (with_reducible refine Kd.C_alloc ?_ _) | (with_reducible refine Kd.C_drewN ?_ _) | (with_reducible refine Kd.C_drew ?_))); (case side2 => exact HC0.out); rintro e w8 ⟨rfl, hb⟩; replace HB := Aside0.mk (below_step (by repeat (first | (with_reducible first | exact HB.out | apply below_alloc | apply pw_below_drewN | apply below_drew1) | exact HB.out)) hb); (try clear hb); (try clear hb2); (try clear hk); (try clear hi)) | ((with_reducible refine gate_dst (N := 7) rfl ?_); refine box_event ?hg (N := 7) ?hd (cs := #[.int .i64 0, .int .i64 0, .int .i64 0, .int .i64 0, .int .i64 0, .int .i64 0, .int .i64 0, .int .i64 0, .int .i64 0, .int .i64 0, .int .i64 0]) (t := 25) ?hr ?_; (case hd => rfl); (case hg => rfl); (case hr => first | (go_simp; done) | (go_simp; rfl)); intro gb176 hg w9 hbox hb; have BK176 := Aside0.mk (hbox); have GW176 := Aside0.mk ((by rw [hg]; exact (below_size (by repeat (first | (with_reducible first | exact HB.out | apply below_alloc | apply pw_below_drewN | apply below_drew1) | exact HB.out))) : w.heap.size ≤ gb176)); have GE176 := Aside0.mk ((by rw [hg]; exact (below_size (by repeat (first | (with_reducible first | exact HB.out | apply below_alloc | apply pw_below_drewN | apply below_drew1) | exact HB.out))) : w.heap.size ≤ gb176)); replace HB := Aside0.mk (below_step (by repeat (first | (with_reducible first | exact HB.out | apply below_alloc | apply pw_below_drewN | apply below_drew1) | exact HB.out)) hb); clear hb hbox hg; obtain ⟨hcz10_0, hcz10_1, hcz10_2, hcz10_3, hcz10_4, hcz10_5, hcz10_6, hcz10_7, hcz10_8, hcz10_9, hcz10_10⟩ := cells11 BK176.out; obtain ⟨hfz10_0, hfz10_1, hfz10_2, hfz10_3, hfz10_4, hfz10_5, hfz10_6, hfz10_7, hfz10_8, hfz10_9, hfz10_10⟩ := froz11 BK176.out) | (go_at_call 21; (with_reducible refine (potbankref01_Mod.calls a1 40 t177 _ A5.out).mono ?_); rintro e w' ⟨rfl, ⟨nd, rfl⟩⟩; (try first | exact ⟨rfl, _, World.drewN_drewN _ _ _⟩ | exact ⟨rfl, _, Eq.trans (World.drewN_drewN _ _ _) (congrArg (World.drewN _) (Nat.add_assoc _ _ _))⟩)) | (go_at_call 15; (with_reducible refine (ware_Stands.calls t165 t166 t167 t168 t169 t170 t171 t172 t173 t174 t175 (wrap64 (1 + t177)) t178 t179 _ A6.out).mono ?_); rintro e w11 ⟨rfl, hb⟩; replace BK176 := Aside0.mk (blk_below (g := gb176) (o := .cells #[.int .i64 t165, .int .i64 t166, .int .i64 t167, .int .i64 t168, .int .i64 t169, .int .i64 t170, .int .i64 t171, .int .i64 t172, .int .i64 t173, .int .i64 t174, .int .i64 t175] 25 (0, 0)) (by (with_reducible repeat first | apply blk_drewN | apply blk_drew | apply blk_alloc); refine blk_put (cs := #[.int .i64 t165, .int .i64 t166, .int .i64 t167, .int .i64 t168, .int .i64 t169, .int .i64 t170, .int .i64 t171, .int .i64 t172, .int .i64 t173, .int .i64 t174, .int .i64 0]) ?_ 10 _ rfl; (with_reducible repeat first | apply blk_drewN | apply blk_drew | apply blk_alloc); refine blk_put (cs := #[.int .i64 t165, .int .i64 t166, .int .i64 t167, .int .i64 t168, .int .i64 t169, .int .i64 t170, .int .i64 t171, .int .i64 t172, .int .i64 t173, .int .i64 0, .int .i64 0]) ?_ 9 _ rfl; (with_reducible repeat first | apply blk_drewN | apply blk_drew | apply blk_alloc); refine blk_put (cs := #[.int .i64 t165, .int .i64 t166, .int .i64 t167, .int .i64 t168, .int .i64 t169, .int .i64 t170, .int .i64 t171, .int .i64 t172, .int .i64 0, .int .i64 0, .int .i64 0]) ?_ 8 _ rfl; (with_reducible repeat first | apply blk_drewN | apply blk_drew | apply blk_alloc); refine blk_put (cs := #[.int .i64 t165, .int .i64 t166, .int .i64 t167, .int .i64 t168, .int .i64 t169, .int .i64 t170, .int .i64 t171, .int .i64 0, .int .i64 0, .int .i64 0, .int .i64 0]) ?_ 7 _ rfl; (with_reducible repeat first | apply blk_drewN | apply blk_drew | apply blk_alloc); refine blk_put (cs := #[.int .i64 t165, .int .i64 t166, .int .i64 t167, .int .i64 t168, .int .i64 t169, .int .i64 t170, .int .i64 0, .int .i64 0, .int .i64 0, .int .i64 0, .int .i64 0]) ?_ 6 _ rfl; (with_reducible repeat first | apply blk_drewN | apply blk_drew | apply blk_alloc); refine blk_put (cs := #[.int .i64 t165, .int .i64 t166, .int .i64 t167, .int .i64 t168, .int .i64 t169, .int .i64 0, .int .i64 0, .int .i64 0, .int .i64 0, .int .i64 0, .int .i64 0]) ?_ 5 _ rfl; (with_reducible repeat first | apply blk_drewN | apply blk_drew | apply blk_alloc); refine blk_put (cs := #[.int .i64 t165, .int .i64 t166, .int .i64 t167, .int .i64 t168, .int .i64 0, .int .i64 0, .int .i64 0, .int .i64 0, .int .i64 0, .int .i64 0, .int .i64 0]) ?_ 4 _ rfl; (with_reducible repeat first | apply blk_drewN | apply blk_drew | apply blk_alloc); refine blk_put (cs := #[.int .i64 t165, .int .i64 t166, .int .i64 t167, .int .i64 0, .int .i64 0, .int .i64 0, .int .i64 0, .int .i64 0, .int .i64 0, .int .i64 0, .int .i64 0]) ?_ 3 _ rfl; (with_reducible repeat first | apply blk_drewN | apply blk_drew | apply blk_alloc); refine blk_put (cs := #[.int .i64 t165, .int .i64 t166, .int .i64 0, .int .i64 0, .int .i64 0, .int .i64 0, .int .i64 0, .int .i64 0, .int .i64 0, .int .i64 0, .int .i64 0]) ?_ 2 _ rfl; (with_reducible repeat first | apply blk_drewN | apply blk_drew | apply blk_alloc); refine blk_put (cs := #[.int .i64 t165, .int .i64 0, .int .i64 0, .int .i64 0, .int .i64 0, .int .i64 0, .int .i64 0, .int .i64 0, .int .i64 0, .int .i64 0, .int .i64 0]) ?_ 1 _ rfl; (with_reducible repeat first | apply blk_drewN | apply blk_drew | apply blk_alloc); refine blk_put (cs := #[.int .i64 0, .int .i64 0, .int .i64 0, .int .i64 0, .int .i64 0, .int .i64 0, .int .i64 0, .int .i64 0, .int .i64 0, .int .i64 0, .int .i64 0]) ?_ 0 _ rfl; (with_reducible repeat first | apply blk_drewN | apply blk_drew | apply blk_alloc); exact BK176.out) hb); replace HB := Aside0.mk (below_step (by repeat (first | (with_reducible first | exact HB.out | apply below_alloc | apply pw_below_drewN | apply below_drew1 | refine below_set ?_ GE176.out) | exact HB.out)) hb); (try clear hb); (try clear hb2); (try clear hk); (try clear hi))); try go_wp2_with (first | (go_at_call 20; (with_reducible refine (potbankref01_MadeShape.calls 1 _ _ l0 t165 t166 t167 t168 t169 t170 t171 t172 t173 t174 t175 _ ?side1 ?side2 A4.out).mono ?_); (case side1 => repeat (first | exact HR0.out | (with_reducible refine Kd.C_alloc ?_ _) | (with_reducible refine Kd.C_drewN ?_ _) | (with_reducible refine Kd.C_drew ?_))); (case side2 => exact HC0.out); rintro e w8 ⟨rfl, hb⟩; replace HB := Aside0.mk (below_step (by repeat (first | (with_reducible first | exact HB.out | apply below_alloc | apply pw_below_drewN | apply below_drew1) | exact HB.out)) hb); (try clear hb); (try clear hb2); (try clear hk); (try clear hi)) | ((with_reducible refine gate_dst (N := 7) rfl ?_); refine box_event ?hg (N := 7) ?hd (cs := #[.int .i64 0, .int .i64 0, .int .i64 0, .int .i64 0, .int .i64 0, .int .i64 0, .int .i64 0, .int .i64 0, .int .i64 0, .int .i64 0, .int .i64 0]) (t := 25) ?hr ?_; (case hd => rfl); (case hg => rfl); (case hr => first | (go_simp; done) | (go_simp; rfl)); intro gb176 hg w9 hbox hb; have BK176 := Aside0.mk (hbox); have GW176 := Aside0.mk ((by rw [hg]; exact (below_size (by repeat (first | (with_reducible first | exact HB.out | apply below_alloc | apply pw_below_drewN | apply below_drew1) | exact HB.out))) : w.heap.size ≤ gb176)); have GE176 := Aside0.mk ((by rw [hg]; exact (below_size (by repeat (first | (with_reducible first | exact HB.out | apply below_alloc | apply pw_below_drewN | apply below_drew1) | exact HB.out))) : w.heap.size ≤ gb176)); replace HB := Aside0.mk (below_step (by repeat (first | (with_reducible first | exact HB.out | apply below_alloc | apply pw_below_drewN | apply below_drew1) | exact HB.out)) hb); clear hb hbox hg; obtain ⟨hcz10_0, hcz10_1, hcz10_2, hcz10_3, hcz10_4, hcz10_5, hcz10_6, hcz10_7, hcz10_8, hcz10_9, hcz10_10⟩ := cells11 BK176.out; obtain ⟨hfz10_0, hfz10_1, hfz10_2, hfz10_3, hfz10_4, hfz10_5, hfz10_6, hfz10_7, hfz10_8, hfz10_9, hfz10_10⟩ := froz11 BK176.out) | (go_at_call 21; (with_reducible refine (potbankref01_Mod.calls a1 40 t177 _ A5.out).mono ?_); rintro e w' ⟨rfl, ⟨nd, rfl⟩⟩; (try first | exact ⟨rfl, _, World.drewN_drewN _ _ _⟩ | exact ⟨rfl, _, Eq.trans (World.drewN_drewN _ _ _) (congrArg (World.drewN _) (Nat.add_assoc _ _ _))⟩)) | (go_at_call 15; (with_reducible refine (ware_Stands.calls t165 t166 t167 t168 t169 t170 t171 t172 t173 t174 t175 (wrap64 (1 + t177)) t178 t179 _ A6.out).mono ?_); rintro e w11 ⟨rfl, hb⟩; replace BK176 := Aside0.mk (blk_below (g := gb176) (o := .cells #[.int .i64 t165, .int .i64 t166, .int .i64 t167, .int .i64 t168, .int .i64 t169, .int .i64 t170, .int .i64 t171, .int .i64 t172, .int .i64 t173, .int .i64 t174, .int .i64 t175] 25 (0, 0)) (by (with_reducible repeat first | apply blk_drewN | apply blk_drew | apply blk_alloc); refine blk_put (cs := #[.int .i64 t165, .int .i64 t166, .int .i64 t167, .int .i64 t168, .int .i64 t169, .int .i64 t170, .int .i64 t171, .int .i64 t172, .int .i64 t173, .int .i64 t174, .int .i64 0]) ?_ 10 _ rfl; (with_reducible repeat first | apply blk_drewN | apply blk_drew | apply blk_alloc); refine blk_put (cs := #[.int .i64 t165, .int .i64 t166, .int .i64 t167, .int .i64 t168, .int .i64 t169, .int .i64 t170, .int .i64 t171, .int .i64 t172, .int .i64 t173, .int .i64 0, .int .i64 0]) ?_ 9 _ rfl; (with_reducible repeat first | apply blk_drewN | apply blk_drew | apply blk_alloc); refine blk_put (cs := #[.int .i64 t165, .int .i64 t166, .int .i64 t167, .int .i64 t168, .int .i64 t169, .int .i64 t170, .int .i64 t171, .int .i64 t172, .int .i64 0, .int .i64 0, .int .i64 0]) ?_ 8 _ rfl; (with_reducible repeat first | apply blk_drewN | apply blk_drew | apply blk_alloc); refine blk_put (cs := #[.int .i64 t165, .int .i64 t166, .int .i64 t167, .int .i64 t168, .int .i64 t169, .int .i64 t170, .int .i64 t171, .int .i64 0, .int .i64 0, .int .i64 0, .int .i64 0]) ?_ 7 _ rfl; (with_reducible repeat first | apply blk_drewN | apply blk_drew | apply blk_alloc); refine blk_put (cs := #[.int .i64 t165, .int .i64 t166, .int .i64 t167, .int .i64 t168, .int .i64 t169, .int .i64 t170, .int .i64 0, .int .i64 0, .int .i64 0, .int .i64 0, .int .i64 0]) ?_ 6 _ rfl; (with_reducible repeat first | apply blk_drewN | apply blk_drew | apply blk_alloc); refine blk_put (cs := #[.int .i64 t165, .int .i64 t166, .int .i64 t167, .int .i64 t168, .int .i64 t169, .int .i64 0, .int .i64 0, .int .i64 0, .int .i64 0, .int .i64 0, .int .i64 0]) ?_ 5 _ rfl; (with_reducible repeat first | apply blk_drewN | apply blk_drew | apply blk_alloc); refine blk_put (cs := #[.int .i64 t165, .int .i64 t166, .int .i64 t167, .int .i64 t168, .int .i64 0, .int .i64 0, .int .i64 0, .int .i64 0, .int .i64 0, .int .i64 0, .int .i64 0]) ?_ 4 _ rfl; (with_reducible repeat first | apply blk_drewN | apply blk_drew | apply blk_alloc); refine blk_put (cs := #[.int .i64 t165, .int .i64 t166, .int .i64 t167, .int .i64 0, .int .i64 0, .int .i64 0, .int .i64 0, .int .i64 0, .int .i64 0, .int .i64 0, .int .i64 0]) ?_ 3 _ rfl; (with_reducible repeat first | apply blk_drewN | apply blk_drew | apply blk_alloc); refine blk_put (cs := #[.int .i64 t165, .int .i64 t166, .int .i64 0, .int .i64 0, .int .i64 0, .int .i64 0, .int .i64 0, .int .i64 0, .int .i64 0, .int .i64 0, .int .i64 0]) ?_ 2 _ rfl; (with_reducible repeat first | apply blk_drewN | apply blk_drew | apply blk_alloc); refine blk_put (cs := #[.int .i64 t165, .int .i64 0, .int .i64 0, .int .i64 0, .int .i64 0, .int .i64 0, .int .i64 0, .int .i64 0, .int .i64 0, .int .i64 0, .int .i64 0]) ?_ 1 _ rfl; (with_reducible repeat first | apply blk_drewN | apply blk_drew | apply blk_alloc); refine blk_put (cs := #[.int .i64 0, .int .i64 0, .int .i64 0, .int .i64 0, .int .i64 0, .int .i64 0, .int .i64 0, .int .i64 0, .int .i64 0, .int .i64 0, .int .i64 0]) ?_ 0 _ rfl; (with_reducible repeat first | apply blk_drewN | apply blk_drew | apply blk_alloc); exact BK176.out) hb); replace HB := Aside0.mk (below_step (by repeat (first | (with_reducible first | exact HB.out | apply below_alloc | apply pw_below_drewN | apply below_drew1 | refine below_set ?_ GE176.out) | exact HB.out)) hb); (try clear hb); (try clear hb2); (try clear hk); (try clear hi))))
    go_loopg [10, 11] k (fun kq v10 v11 w' => ∃ (x10_1 : Int) (x11_1 : Int), v10 = .int .i64 x10_1 ∧ v11 = .int .i64 x11_1 ∧ Aside0 (potbanklaw01_WareStands.l0 kq (wrap64 (1 + t177)) l2 t178 x10_1 x11_1 t165 t166 t167 t168 t169 t170 t171 t172 t173 t174 t175 = some r) ∧ Aside0 (kq ≤ k) ∧ Aside0 (w'.heap[gb176]? = some (.cells #[.int .i64 t165, .int .i64 t166, .int .i64 t167, .int .i64 t168, .int .i64 t169, .int .i64 t170, .int .i64 t171, .int .i64 t172, .int .i64 t173, .int .i64 t174, .int .i64 t175] 25 (0, 0))) ∧ Aside0 (Below w.heap.size w w'))
    case atStart => exact ⟨(0), (wrap64 ((wrap64 (1 + t177)) - 1)), (by first | rfl | (simp; done) | (simp [*]; done)), (by first | rfl | (simp; done) | (simp [*]; done)), H', ⟨Nat.le_refl _⟩, ⟨by (with_reducible repeat first | apply blk_drewN | apply blk_drew | apply blk_alloc); exact BK176.out⟩, ⟨by repeat (first | (with_reducible first | exact HB.out | apply below_alloc | apply pw_below_drewN | apply below_drew1 | refine below_set ?_ GE176.out) | exact HB.out)⟩⟩
    case round =>
      clear H'
      try clear c2
      try clear p2
      try clear c4
      try clear p6
      try clear c7
      try clear c7b0
      try clear c7b1
      try clear hcz10_0
      try clear hcz10_1
      try clear hcz10_10
      try clear hcz10_2
      try clear hcz10_3
      try clear hcz10_4
      try clear hcz10_5
      try clear hcz10_6
      try clear hcz10_7
      try clear hcz10_8
      try clear hcz10_9
      try clear hfz10_0
      try clear hfz10_1
      try clear hfz10_10
      try clear hfz10_2
      try clear hfz10_3
      try clear hfz10_4
      try clear hfz10_5
      try clear hfz10_6
      try clear hfz10_7
      try clear hfz10_8
      try clear hfz10_9
      obtain ⟨x10_1, x11_1, rfl, rfl, HA, HK1, BK176, HB⟩ := hrel
      cases gk with
      | zero => exact absurd HA.out (by simp [potbanklaw01_WareStands.l0])
      | succ k1 =>
        have H := HA.out
        clear HA
        simp only [potbanklaw01_WareStands.l0] at H
        by_cases c12 : x11_1 ≥ 0
        · rw [if_pos c12] at H
          have c12b0 : decide (0 ≤ x11_1) = true := decide_eq_true c12
          clear c12
          replace H := Option.bind_eq_some_iff.mp H
          obtain ⟨⟨t180, t181, t182⟩, A130, H⟩ := H
          replace H : (if t182 = 0 then (if x10_1 < t180 then (potbanklaw01_WareStands.j1 k1 (wrap64 (1 + t177)) l2 t178 x10_1 x11_1 true t165 t166 t167 t168 t169 t170 t171 t172 t173 t174 t175) else (if x10_1 > t181 then (potbanklaw01_WareStands.j1 k1 (wrap64 (1 + t177)) l2 t178 x10_1 x11_1 true t165 t166 t167 t168 t169 t170 t171 t172 t173 t174 t175) else (if t178 = true then (potbanklaw01_WareStands.j1 k1 (wrap64 (1 + t177)) l2 t178 x10_1 x11_1 (decide (x10_1 > t175)) t165 t166 t167 t168 t169 t170 t171 t172 t173 t174 t175) else (potbanklaw01_WareStands.j1 k1 (wrap64 (1 + t177)) l2 t178 x10_1 x11_1 false t165 t166 t167 t168 t169 t170 t171 t172 t173 t174 t175)))) else (potbanklaw01_WareStands.j1 k1 (wrap64 (1 + t177)) l2 t178 x10_1 x11_1 true t165 t166 t167 t168 t169 t170 t171 t172 t173 t174 t175)) = some r := H
          have A13 := Aside0.mk A130
          clear A130
          have HC14 := Aside0.mk H
          clear H
          have hcz15_0 : wr.cell? ⟨gb176, 0, none⟩ = some (.int .i64 t165) := (blk_cell BK176.out 0).trans rfl
          have hcz15_1 : wr.cell? ⟨gb176, 1, none⟩ = some (.int .i64 t166) := (blk_cell BK176.out 1).trans rfl
          have hcz15_2 : wr.cell? ⟨gb176, 2, none⟩ = some (.int .i64 t167) := (blk_cell BK176.out 2).trans rfl
          have hcz15_3 : wr.cell? ⟨gb176, 3, none⟩ = some (.int .i64 t168) := (blk_cell BK176.out 3).trans rfl
          have hcz15_4 : wr.cell? ⟨gb176, 4, none⟩ = some (.int .i64 t169) := (blk_cell BK176.out 4).trans rfl
          have hcz15_5 : wr.cell? ⟨gb176, 5, none⟩ = some (.int .i64 t170) := (blk_cell BK176.out 5).trans rfl
          have hcz15_6 : wr.cell? ⟨gb176, 6, none⟩ = some (.int .i64 t171) := (blk_cell BK176.out 6).trans rfl
          have hcz15_7 : wr.cell? ⟨gb176, 7, none⟩ = some (.int .i64 t172) := (blk_cell BK176.out 7).trans rfl
          have hcz15_8 : wr.cell? ⟨gb176, 8, none⟩ = some (.int .i64 t173) := (blk_cell BK176.out 8).trans rfl
          have hcz15_9 : wr.cell? ⟨gb176, 9, none⟩ = some (.int .i64 t174) := (blk_cell BK176.out 9).trans rfl
          have hcz15_10 : wr.cell? ⟨gb176, 10, none⟩ = some (.int .i64 t175) := (blk_cell BK176.out 10).trans rfl
          have hfz15_0 := blk_frozen BK176.out 0
          have hfz15_1 := blk_frozen BK176.out 1
          have hfz15_2 := blk_frozen BK176.out 2
          have hfz15_3 := blk_frozen BK176.out 3
          have hfz15_4 := blk_frozen BK176.out 4
          have hfz15_5 := blk_frozen BK176.out 5
          have hfz15_6 := blk_frozen BK176.out 6
          have hfz15_7 := blk_frozen BK176.out 7
          have hfz15_8 := blk_frozen BK176.out 8
          have hfz15_9 := blk_frozen BK176.out 9
          have hfz15_10 := blk_frozen BK176.out 10
          go_upto_region 11 with (first | (go_at_call 13; (with_reducible refine (ware_Load.calls t165 t166 t167 t168 t169 t170 t171 t172 t173 t174 t175 (wrap64 (1 + t177)) x11_1 t180 t181 t182 _ A13.out).mono ?_); rintro e w16 ⟨rfl, hb⟩; replace BK176 := blkE BK176 hb; replace HB := Aside0.mk (below_step (by repeat (first | (with_reducible first | exact HB.out | apply below_alloc | apply pw_below_drewN | apply below_drew1 | refine below_set ?_ GE176.out) | exact HB.out)) hb); (try clear hb); (try clear hb2); (try clear hk); (try clear hi)) | ((with_reducible refine gate_dst (N := 12) rfl ?_); refine box_event ?hg (N := 12) ?hd (cs := #[.int .i64 0, .int .i64 0]) (t := 23) ?hr ?_; (case hd => rfl); (case hg => rfl); (case hr => first | (go_simp; done) | (go_simp; rfl)); intro gb183 hg w17 hbox hb; have BK183 := Aside0.mk (hbox); have GW183 := Aside0.mk ((by rw [hg]; exact (below_size (by repeat (first | (with_reducible first | exact HB.out | apply below_alloc | apply pw_below_drewN | apply below_drew1 | refine below_set ?_ GE176.out) | exact HB.out))) : w.heap.size ≤ gb183)); have GE183 := Aside0.mk ((by rw [hg]; exact (below_size (by repeat (first | (with_reducible first | exact HB.out | apply below_alloc | apply pw_below_drewN | apply below_drew1 | refine below_set ?_ GE176.out) | exact HB.out))) : w.heap.size ≤ gb183)); replace HB := Aside0.mk (below_step (by repeat (first | (with_reducible first | exact HB.out | apply below_alloc | apply pw_below_drewN | apply below_drew1 | refine below_set ?_ GE176.out) | exact HB.out)) hb); have NB176_183 := Aside0.mk ((by rw [hg]; exact Nat.ne_of_lt (blk_lt (g := gb176) (o := .cells #[.int .i64 t165, .int .i64 t166, .int .i64 t167, .int .i64 t168, .int .i64 t169, .int .i64 t170, .int .i64 t171, .int .i64 t172, .int .i64 t173, .int .i64 t174, .int .i64 t175] 25 (0, 0)) (by (with_reducible repeat first | apply blk_drewN | apply blk_drew | apply blk_alloc); exact BK176.out)) : gb176 ≠ gb183)); have NB183_176 := Aside0.mk ((by rw [hg]; exact Nat.ne_of_gt (blk_lt (g := gb176) (o := .cells #[.int .i64 t165, .int .i64 t166, .int .i64 t167, .int .i64 t168, .int .i64 t169, .int .i64 t170, .int .i64 t171, .int .i64 t172, .int .i64 t173, .int .i64 t174, .int .i64 t175] 25 (0, 0)) (by (with_reducible repeat first | apply blk_drewN | apply blk_drew | apply blk_alloc); exact BK176.out)) : gb183 ≠ gb176)); replace BK176 := blkE BK176 hb; clear hb hbox hg; have hnb18 := NB183_176.out; have hnc18 := NB176_183.out; obtain ⟨hcz19_0, hcz19_1⟩ := cells2 BK183.out; obtain ⟨hfz19_0, hfz19_1⟩ := froz2 BK183.out))
          repeat (go_quiet (first | (go_at_call 13; (with_reducible refine (ware_Load.calls t165 t166 t167 t168 t169 t170 t171 t172 t173 t174 t175 (wrap64 (1 + t177)) x11_1 t180 t181 t182 _ A13.out).mono ?_); rintro e w16 ⟨rfl, hb⟩; replace BK176 := blkE BK176 hb; replace HB := Aside0.mk (below_step (by repeat (first | (with_reducible first | exact HB.out | apply below_alloc | apply pw_below_drewN | apply below_drew1 | refine below_set ?_ GE176.out) | exact HB.out)) hb); (try clear hb); (try clear hb2); (try clear hk); (try clear hi)) | ((with_reducible refine gate_dst (N := 12) rfl ?_); refine box_event ?hg (N := 12) ?hd (cs := #[.int .i64 0, .int .i64 0]) (t := 23) ?hr ?_; (case hd => rfl); (case hg => rfl); (case hr => first | (go_simp; done) | (go_simp; rfl)); intro gb183 hg w17 hbox hb; have BK183 := Aside0.mk (hbox); have GW183 := Aside0.mk ((by rw [hg]; exact (below_size (by repeat (first | (with_reducible first | exact HB.out | apply below_alloc | apply pw_below_drewN | apply below_drew1 | refine below_set ?_ GE176.out) | exact HB.out))) : w.heap.size ≤ gb183)); have GE183 := Aside0.mk ((by rw [hg]; exact (below_size (by repeat (first | (with_reducible first | exact HB.out | apply below_alloc | apply pw_below_drewN | apply below_drew1 | refine below_set ?_ GE176.out) | exact HB.out))) : w.heap.size ≤ gb183)); replace HB := Aside0.mk (below_step (by repeat (first | (with_reducible first | exact HB.out | apply below_alloc | apply pw_below_drewN | apply below_drew1 | refine below_set ?_ GE176.out) | exact HB.out)) hb); have NB176_183 := Aside0.mk ((by rw [hg]; exact Nat.ne_of_lt (blk_lt (g := gb176) (o := .cells #[.int .i64 t165, .int .i64 t166, .int .i64 t167, .int .i64 t168, .int .i64 t169, .int .i64 t170, .int .i64 t171, .int .i64 t172, .int .i64 t173, .int .i64 t174, .int .i64 t175] 25 (0, 0)) (by (with_reducible repeat first | apply blk_drewN | apply blk_drew | apply blk_alloc); exact BK176.out)) : gb176 ≠ gb183)); have NB183_176 := Aside0.mk ((by rw [hg]; exact Nat.ne_of_gt (blk_lt (g := gb176) (o := .cells #[.int .i64 t165, .int .i64 t166, .int .i64 t167, .int .i64 t168, .int .i64 t169, .int .i64 t170, .int .i64 t171, .int .i64 t172, .int .i64 t173, .int .i64 t174, .int .i64 t175] 25 (0, 0)) (by (with_reducible repeat first | apply blk_drewN | apply blk_drew | apply blk_alloc); exact BK176.out)) : gb183 ≠ gb176)); replace BK176 := blkE BK176 hb; clear hb hbox hg; have hnb18 := NB183_176.out; have hnc18 := NB176_183.out; obtain ⟨hcz19_0, hcz19_1⟩ := cells2 BK183.out; obtain ⟨hfz19_0, hfz19_1⟩ := froz2 BK183.out)); go_upto_region 11 with (first | (go_at_call 13; (with_reducible refine (ware_Load.calls t165 t166 t167 t168 t169 t170 t171 t172 t173 t174 t175 (wrap64 (1 + t177)) x11_1 t180 t181 t182 _ A13.out).mono ?_); rintro e w16 ⟨rfl, hb⟩; replace BK176 := blkE BK176 hb; replace HB := Aside0.mk (below_step (by repeat (first | (with_reducible first | exact HB.out | apply below_alloc | apply pw_below_drewN | apply below_drew1 | refine below_set ?_ GE176.out) | exact HB.out)) hb); (try clear hb); (try clear hb2); (try clear hk); (try clear hi)) | ((with_reducible refine gate_dst (N := 12) rfl ?_); refine box_event ?hg (N := 12) ?hd (cs := #[.int .i64 0, .int .i64 0]) (t := 23) ?hr ?_; (case hd => rfl); (case hg => rfl); (case hr => first | (go_simp; done) | (go_simp; rfl)); intro gb183 hg w17 hbox hb; have BK183 := Aside0.mk (hbox); have GW183 := Aside0.mk ((by rw [hg]; exact (below_size (by repeat (first | (with_reducible first | exact HB.out | apply below_alloc | apply pw_below_drewN | apply below_drew1 | refine below_set ?_ GE176.out) | exact HB.out))) : w.heap.size ≤ gb183)); have GE183 := Aside0.mk ((by rw [hg]; exact (below_size (by repeat (first | (with_reducible first | exact HB.out | apply below_alloc | apply pw_below_drewN | apply below_drew1 | refine below_set ?_ GE176.out) | exact HB.out))) : w.heap.size ≤ gb183)); replace HB := Aside0.mk (below_step (by repeat (first | (with_reducible first | exact HB.out | apply below_alloc | apply pw_below_drewN | apply below_drew1 | refine below_set ?_ GE176.out) | exact HB.out)) hb); have NB176_183 := Aside0.mk ((by rw [hg]; exact Nat.ne_of_lt (blk_lt (g := gb176) (o := .cells #[.int .i64 t165, .int .i64 t166, .int .i64 t167, .int .i64 t168, .int .i64 t169, .int .i64 t170, .int .i64 t171, .int .i64 t172, .int .i64 t173, .int .i64 t174, .int .i64 t175] 25 (0, 0)) (by (with_reducible repeat first | apply blk_drewN | apply blk_drew | apply blk_alloc); exact BK176.out)) : gb176 ≠ gb183)); have NB183_176 := Aside0.mk ((by rw [hg]; exact Nat.ne_of_gt (blk_lt (g := gb176) (o := .cells #[.int .i64 t165, .int .i64 t166, .int .i64 t167, .int .i64 t168, .int .i64 t169, .int .i64 t170, .int .i64 t171, .int .i64 t172, .int .i64 t173, .int .i64 t174, .int .i64 t175] 25 (0, 0)) (by (with_reducible repeat first | apply blk_drewN | apply blk_drew | apply blk_alloc); exact BK176.out)) : gb183 ≠ gb176)); replace BK176 := blkE BK176 hb; clear hb hbox hg; have hnb18 := NB183_176.out; have hnc18 := NB176_183.out; obtain ⟨hcz19_0, hcz19_1⟩ := cells2 BK183.out; obtain ⟨hfz19_0, hfz19_1⟩ := froz2 BK183.out)))
          (try simp only [Act.put, List.setIfInBounds_toArray, List.set_cons_zero, List.set_cons_succ])
          go_cut [77] (fun v77 wc => ∃ (kq : Nat) (x77_13 : Bool), v77 = .bool x77_13 ∧ Aside0 (potbanklaw01_WareStands.j1 kq (wrap64 (1 + t177)) l2 t178 x10_1 x11_1 x77_13 t165 t166 t167 t168 t169 t170 t171 t172 t173 t174 t175 = some r) ∧ Aside0 (kq ≤ k1) ∧ Aside0 (wc.heap[gb176]? = some (.cells #[.int .i64 t165, .int .i64 t166, .int .i64 t167, .int .i64 t168, .int .i64 t169, .int .i64 t170, .int .i64 t171, .int .i64 t172, .int .i64 t173, .int .i64 t174, .int .i64 t175] 25 (0, 0))) ∧ Aside0 (wc.heap[gb183]? = some (.cells #[.int .i64 t180, .int .i64 t181] 23 (0, 0))) ∧ Aside0 (Below w.heap.size w wc))
          case first =>
            have H := HC14.out
            clear HC14
            by_cases c20 : t182 = 0
            · rw [if_pos c20] at H
              have c20b0 : (t182 == 0) = true := beq_iff_eq.mpr c20
              have c20b1 : (t182 != 0) = false := bne_eq_false_iff_eq.mpr c20
              clear c20
              (first | rw [c20b0] | (simp only [i64_w, i32_w]; rw [c20b0]) | skip)
              by_cases c21 : x10_1 < t180
              · rw [if_pos c21] at H
                have c21b0 : decide (x10_1 < t180) = true := decide_eq_true c21
                clear c21
                as_aux_lemma =>
                  have H' := Aside0.mk H
                  clear H
                  have hnb22 := NB183_176.out
                  have hnc22 := NB176_183.out
                  have hcz23_0 : w17.cell? ⟨gb183, 0, none⟩ = some (.int .i64 0) := (blk_cell BK183.out 0).trans rfl
                  have hcz23_1 : w17.cell? ⟨gb183, 1, none⟩ = some (.int .i64 0) := (blk_cell BK183.out 1).trans rfl
                  have hfz23_0 := blk_frozen BK183.out 0
                  have hfz23_1 := blk_frozen BK183.out 1
                  go_wp2
                  repeat (go_quiet (fail); try go_wp2)
                  go_meet
                  case rel => exact ⟨_, (true), (by first | rfl | (simp; done) | (simp [*]; done)), H', ⟨by have := HK1.out; first | omega | exact Nat.le_refl _⟩, ⟨by (with_reducible repeat first | apply blk_drewN | apply blk_drew | apply blk_alloc); refine blk_far ?_ NB176_183.out _; (with_reducible repeat first | apply blk_drewN | apply blk_drew | apply blk_alloc); refine blk_far ?_ NB176_183.out _; (with_reducible repeat first | apply blk_drewN | apply blk_drew | apply blk_alloc); exact BK176.out⟩, ⟨by (with_reducible repeat first | apply blk_drewN | apply blk_drew | apply blk_alloc); refine blk_put (cs := #[.int .i64 t180, .int .i64 0]) ?_ 1 _ rfl; (with_reducible repeat first | apply blk_drewN | apply blk_drew | apply blk_alloc); refine blk_put (cs := #[.int .i64 0, .int .i64 0]) ?_ 0 _ rfl; (with_reducible repeat first | apply blk_drewN | apply blk_drew | apply blk_alloc); exact BK183.out⟩, ⟨by repeat (first | (with_reducible first | exact HB.out | apply below_alloc | apply pw_below_drewN | apply below_drew1 | refine below_set ?_ GE176.out | refine below_set ?_ GE183.out) | exact HB.out)⟩⟩
              · rw [if_neg c21] at H
                have c21b0 : decide (x10_1 < t180) = false := decide_eq_false c21
                clear c21
                by_cases c24 : x10_1 > t181
                · rw [if_pos c24] at H
                  have c24b0 : decide (t181 < x10_1) = true := decide_eq_true c24
                  clear c24
                  as_aux_lemma =>
                    have H' := Aside0.mk H
                    clear H
                    have hnb25 := NB183_176.out
                    have hnc25 := NB176_183.out
                    have hcz26_0 : w17.cell? ⟨gb183, 0, none⟩ = some (.int .i64 0) := (blk_cell BK183.out 0).trans rfl
                    have hcz26_1 : w17.cell? ⟨gb183, 1, none⟩ = some (.int .i64 0) := (blk_cell BK183.out 1).trans rfl
                    have hfz26_0 := blk_frozen BK183.out 0
                    have hfz26_1 := blk_frozen BK183.out 1
                    go_wp2
                    repeat (go_quiet (fail); try go_wp2)
                    go_meet
                    case rel => exact ⟨_, (true), (by first | rfl | (simp; done) | (simp [*]; done)), H', ⟨by have := HK1.out; first | omega | exact Nat.le_refl _⟩, ⟨by (with_reducible repeat first | apply blk_drewN | apply blk_drew | apply blk_alloc); refine blk_far ?_ NB176_183.out _; (with_reducible repeat first | apply blk_drewN | apply blk_drew | apply blk_alloc); refine blk_far ?_ NB176_183.out _; (with_reducible repeat first | apply blk_drewN | apply blk_drew | apply blk_alloc); exact BK176.out⟩, ⟨by (with_reducible repeat first | apply blk_drewN | apply blk_drew | apply blk_alloc); refine blk_put (cs := #[.int .i64 t180, .int .i64 0]) ?_ 1 _ rfl; (with_reducible repeat first | apply blk_drewN | apply blk_drew | apply blk_alloc); refine blk_put (cs := #[.int .i64 0, .int .i64 0]) ?_ 0 _ rfl; (with_reducible repeat first | apply blk_drewN | apply blk_drew | apply blk_alloc); exact BK183.out⟩, ⟨by repeat (first | (with_reducible first | exact HB.out | apply below_alloc | apply pw_below_drewN | apply below_drew1 | refine below_set ?_ GE176.out | refine below_set ?_ GE183.out) | exact HB.out)⟩⟩
                · rw [if_neg c24] at H
                  have c24b0 : decide (t181 < x10_1) = false := decide_eq_false c24
                  clear c24
                  by_cases c27 : t178 = true
                  · subst c27
                    have H1 : (potbanklaw01_WareStands.j1 k1 (wrap64 (1 + t177)) l2 true x10_1 x11_1 (decide (x10_1 > t175)) t165 t166 t167 t168 t169 t170 t171 t172 t173 t174 t175) = some r := by rw [if_pos rfl] at H; exact H
                    clear H
                    have H := H1
                    clear H1
                    as_aux_lemma =>
                      have H' := Aside0.mk H
                      clear H
                      have hnb28 := NB183_176.out
                      have hnc28 := NB176_183.out
                      have hcz29_0 : w17.cell? ⟨gb183, 0, none⟩ = some (.int .i64 0) := (blk_cell BK183.out 0).trans rfl
                      have hcz29_1 : w17.cell? ⟨gb183, 1, none⟩ = some (.int .i64 0) := (blk_cell BK183.out 1).trans rfl
                      have hfz29_0 := blk_frozen BK183.out 0
                      have hfz29_1 := blk_frozen BK183.out 1
                      have hcz30_0 : w17.cell? ⟨gb176, 0, none⟩ = some (.int .i64 t165) := (blk_cell BK176.out 0).trans rfl
                      have hcz30_1 : w17.cell? ⟨gb176, 1, none⟩ = some (.int .i64 t166) := (blk_cell BK176.out 1).trans rfl
                      have hcz30_2 : w17.cell? ⟨gb176, 2, none⟩ = some (.int .i64 t167) := (blk_cell BK176.out 2).trans rfl
                      have hcz30_3 : w17.cell? ⟨gb176, 3, none⟩ = some (.int .i64 t168) := (blk_cell BK176.out 3).trans rfl
                      have hcz30_4 : w17.cell? ⟨gb176, 4, none⟩ = some (.int .i64 t169) := (blk_cell BK176.out 4).trans rfl
                      have hcz30_5 : w17.cell? ⟨gb176, 5, none⟩ = some (.int .i64 t170) := (blk_cell BK176.out 5).trans rfl
                      have hcz30_6 : w17.cell? ⟨gb176, 6, none⟩ = some (.int .i64 t171) := (blk_cell BK176.out 6).trans rfl
                      have hcz30_7 : w17.cell? ⟨gb176, 7, none⟩ = some (.int .i64 t172) := (blk_cell BK176.out 7).trans rfl
                      have hcz30_8 : w17.cell? ⟨gb176, 8, none⟩ = some (.int .i64 t173) := (blk_cell BK176.out 8).trans rfl
                      have hcz30_9 : w17.cell? ⟨gb176, 9, none⟩ = some (.int .i64 t174) := (blk_cell BK176.out 9).trans rfl
                      have hcz30_10 : w17.cell? ⟨gb176, 10, none⟩ = some (.int .i64 t175) := (blk_cell BK176.out 10).trans rfl
                      have hfz30_0 := blk_frozen BK176.out 0
                      have hfz30_1 := blk_frozen BK176.out 1
                      have hfz30_2 := blk_frozen BK176.out 2
                      have hfz30_3 := blk_frozen BK176.out 3
                      have hfz30_4 := blk_frozen BK176.out 4
                      have hfz30_5 := blk_frozen BK176.out 5
                      have hfz30_6 := blk_frozen BK176.out 6
                      have hfz30_7 := blk_frozen BK176.out 7
                      have hfz30_8 := blk_frozen BK176.out 8
                      have hfz30_9 := blk_frozen BK176.out 9
                      have hfz30_10 := blk_frozen BK176.out 10
                      go_wp2
                      repeat (go_quiet (fail); try go_wp2)
                      go_meet
                      case rel => exact ⟨_, (decide (x10_1 > t175)), (by first | rfl | (simp; done) | (simp [*]; done)), H', ⟨by have := HK1.out; first | omega | exact Nat.le_refl _⟩, ⟨by (with_reducible repeat first | apply blk_drewN | apply blk_drew | apply blk_alloc); refine blk_far ?_ NB176_183.out _; (with_reducible repeat first | apply blk_drewN | apply blk_drew | apply blk_alloc); refine blk_far ?_ NB176_183.out _; (with_reducible repeat first | apply blk_drewN | apply blk_drew | apply blk_alloc); exact BK176.out⟩, ⟨by (with_reducible repeat first | apply blk_drewN | apply blk_drew | apply blk_alloc); refine blk_put (cs := #[.int .i64 t180, .int .i64 0]) ?_ 1 _ rfl; (with_reducible repeat first | apply blk_drewN | apply blk_drew | apply blk_alloc); refine blk_put (cs := #[.int .i64 0, .int .i64 0]) ?_ 0 _ rfl; (with_reducible repeat first | apply blk_drewN | apply blk_drew | apply blk_alloc); exact BK183.out⟩, ⟨by repeat (first | (with_reducible first | exact HB.out | apply below_alloc | apply pw_below_drewN | apply below_drew1 | refine below_set ?_ GE176.out | refine below_set ?_ GE183.out) | exact HB.out)⟩⟩
                  · replace c27 := Bool.eq_false_iff.mpr c27
                    subst c27
                    have H1 : (potbanklaw01_WareStands.j1 k1 (wrap64 (1 + t177)) l2 false x10_1 x11_1 false t165 t166 t167 t168 t169 t170 t171 t172 t173 t174 t175) = some r := by rw [if_neg (show ¬ (false = true) by decide)] at H; exact H
                    clear H
                    have H := H1
                    clear H1
                    as_aux_lemma =>
                      have H' := Aside0.mk H
                      clear H
                      have hnb31 := NB183_176.out
                      have hnc31 := NB176_183.out
                      have hcz32_0 : w17.cell? ⟨gb183, 0, none⟩ = some (.int .i64 0) := (blk_cell BK183.out 0).trans rfl
                      have hcz32_1 : w17.cell? ⟨gb183, 1, none⟩ = some (.int .i64 0) := (blk_cell BK183.out 1).trans rfl
                      have hfz32_0 := blk_frozen BK183.out 0
                      have hfz32_1 := blk_frozen BK183.out 1
                      go_wp2
                      repeat (go_quiet (fail); try go_wp2)
                      go_meet
                      case rel => exact ⟨_, (false), (by first | rfl | (simp; done) | (simp [*]; done)), H', ⟨by have := HK1.out; first | omega | exact Nat.le_refl _⟩, ⟨by (with_reducible repeat first | apply blk_drewN | apply blk_drew | apply blk_alloc); refine blk_far ?_ NB176_183.out _; (with_reducible repeat first | apply blk_drewN | apply blk_drew | apply blk_alloc); refine blk_far ?_ NB176_183.out _; (with_reducible repeat first | apply blk_drewN | apply blk_drew | apply blk_alloc); exact BK176.out⟩, ⟨by (with_reducible repeat first | apply blk_drewN | apply blk_drew | apply blk_alloc); refine blk_put (cs := #[.int .i64 t180, .int .i64 0]) ?_ 1 _ rfl; (with_reducible repeat first | apply blk_drewN | apply blk_drew | apply blk_alloc); refine blk_put (cs := #[.int .i64 0, .int .i64 0]) ?_ 0 _ rfl; (with_reducible repeat first | apply blk_drewN | apply blk_drew | apply blk_alloc); exact BK183.out⟩, ⟨by repeat (first | (with_reducible first | exact HB.out | apply below_alloc | apply pw_below_drewN | apply below_drew1 | refine below_set ?_ GE176.out | refine below_set ?_ GE183.out) | exact HB.out)⟩⟩
            · rw [if_neg c20] at H
              have c20b0 : (t182 == 0) = false := beq_eq_false_iff_ne.mpr c20
              have c20b1 : (t182 != 0) = true := bne_iff_ne.mpr c20
              (first | rw [c20b0] | (simp only [i64_w, i32_w]; rw [c20b0]) | skip)
              as_aux_lemma =>
                have H' := Aside0.mk H
                clear H
                go_wp2
                repeat (go_quiet (fail); try go_wp2)
                go_meet
                case rel => exact ⟨_, (true), (by first | rfl | (simp; done) | (simp [*]; done)), H', ⟨by have := HK1.out; first | omega | exact Nat.le_refl _⟩, ⟨by (with_reducible repeat first | apply blk_drewN | apply blk_drew | apply blk_alloc); refine blk_far ?_ NB176_183.out _; (with_reducible repeat first | apply blk_drewN | apply blk_drew | apply blk_alloc); refine blk_far ?_ NB176_183.out _; (with_reducible repeat first | apply blk_drewN | apply blk_drew | apply blk_alloc); exact BK176.out⟩, ⟨by (with_reducible repeat first | apply blk_drewN | apply blk_drew | apply blk_alloc); refine blk_put (cs := #[.int .i64 t180, .int .i64 0]) ?_ 1 _ rfl; (with_reducible repeat first | apply blk_drewN | apply blk_drew | apply blk_alloc); refine blk_put (cs := #[.int .i64 0, .int .i64 0]) ?_ 0 _ rfl; (with_reducible repeat first | apply blk_drewN | apply blk_drew | apply blk_alloc); exact BK183.out⟩, ⟨by repeat (first | (with_reducible first | exact HB.out | apply below_alloc | apply pw_below_drewN | apply below_drew1 | refine below_set ?_ GE176.out | refine below_set ?_ GE183.out) | exact HB.out)⟩⟩
          case rest =>
            clear HC14
            try clear c1
            try clear c2
            try clear p2
            try clear c3
            try clear c4
            try clear p6
            try clear c7
            try clear c7b0
            try clear c7b1
            try clear c12
            try clear c12b0
            try clear c18
            try clear c20
            try clear c20b0
            try clear c20b1
            try clear c21
            try clear c21b0
            try clear c22
            try clear c24
            try clear c24b0
            try clear c25
            try clear c27
            try clear c28
            try clear c31
            try clear hcz10_0
            try clear hcz10_1
            try clear hcz10_10
            try clear hcz10_2
            try clear hcz10_3
            try clear hcz10_4
            try clear hcz10_5
            try clear hcz10_6
            try clear hcz10_7
            try clear hcz10_8
            try clear hcz10_9
            try clear hcz15_0
            try clear hcz15_1
            try clear hcz15_10
            try clear hcz15_2
            try clear hcz15_3
            try clear hcz15_4
            try clear hcz15_5
            try clear hcz15_6
            try clear hcz15_7
            try clear hcz15_8
            try clear hcz15_9
            try clear hcz19_0
            try clear hcz19_1
            try clear hcz23_0
            try clear hcz23_1
            try clear hcz26_0
            try clear hcz26_1
            try clear hcz29_0
            try clear hcz29_1
            try clear hcz30_0
            try clear hcz30_1
            try clear hcz30_10
            try clear hcz30_2
            try clear hcz30_3
            try clear hcz30_4
            try clear hcz30_5
            try clear hcz30_6
            try clear hcz30_7
            try clear hcz30_8
            try clear hcz30_9
            try clear hcz32_0
            try clear hcz32_1
            try clear hfz10_0
            try clear hfz10_1
            try clear hfz10_10
            try clear hfz10_2
            try clear hfz10_3
            try clear hfz10_4
            try clear hfz10_5
            try clear hfz10_6
            try clear hfz10_7
            try clear hfz10_8
            try clear hfz10_9
            try clear hfz15_0
            try clear hfz15_1
            try clear hfz15_10
            try clear hfz15_2
            try clear hfz15_3
            try clear hfz15_4
            try clear hfz15_5
            try clear hfz15_6
            try clear hfz15_7
            try clear hfz15_8
            try clear hfz15_9
            try clear hfz19_0
            try clear hfz19_1
            try clear hfz23_0
            try clear hfz23_1
            try clear hfz26_0
            try clear hfz26_1
            try clear hfz29_0
            try clear hfz29_1
            try clear hfz30_0
            try clear hfz30_1
            try clear hfz30_10
            try clear hfz30_2
            try clear hfz30_3
            try clear hfz30_4
            try clear hfz30_5
            try clear hfz30_6
            try clear hfz30_7
            try clear hfz30_8
            try clear hfz30_9
            try clear hfz32_0
            try clear hfz32_1
            try clear p2
            try clear p6
            obtain ⟨kq, x77_13, rfl, HA, HJ13, BK176, BK183, HB⟩ := hcut
            cases kq with
            | zero => exact absurd HA.out (by simp [potbanklaw01_WareStands.j1])
            | succ kj13 =>
              have H := HA.out
              clear HA
              simp only [potbanklaw01_WareStands.j1] at H
              by_cases c33 : x77_13 = true
              · subst c33
                have H1 : (none) = some r := by rw [if_pos rfl] at H; exact H
                clear H
                have H := H1
                clear H1
                exact absurd H (by simp)
              · replace c33 := Bool.eq_false_iff.mpr c33
                subst c33
                have H1 : ((potbankref01_At.f l2 x11_1).bind fun t184 => ((potbankref01_Mod.f t184 (wrap64 ((wrap64 (t174 - t173)) + 1))).bind fun t185 => (potbanklaw01_WareStands.l0 kj13 (wrap64 (1 + t177)) l2 t178 (wrap64 (x10_1 + (wrap64 (t173 + t185)))) (wrap64 (x11_1 - 1)) t165 t166 t167 t168 t169 t170 t171 t172 t173 t174 t175))) = some r := by rw [if_neg (show ¬ (false = true) by decide)] at H; exact H
                clear H
                have H := H1
                clear H1
                replace H := Option.bind_eq_some_iff.mp H
                obtain ⟨t184, A340, H⟩ := H
                replace H : ((potbankref01_Mod.f t184 (wrap64 ((wrap64 (t174 - t173)) + 1))).bind fun t185 => (potbanklaw01_WareStands.l0 kj13 (wrap64 (1 + t177)) l2 t178 (wrap64 (x10_1 + (wrap64 (t173 + t185)))) (wrap64 (x11_1 - 1)) t165 t166 t167 t168 t169 t170 t171 t172 t173 t174 t175)) = some r := H
                have A34 := Aside0.mk A340
                clear A340
                replace H := Option.bind_eq_some_iff.mp H
                obtain ⟨t185, A350, H⟩ := H
                replace H : (potbanklaw01_WareStands.l0 kj13 (wrap64 (1 + t177)) l2 t178 (wrap64 (x10_1 + (wrap64 (t173 + t185)))) (wrap64 (x11_1 - 1)) t165 t166 t167 t168 t169 t170 t171 t172 t173 t174 t175) = some r := H
                have A35 := Aside0.mk A350
                clear A350
                as_aux_lemma =>
                  have H' := Aside0.mk H
                  clear H
                  have hnb36 := NB176_183.out
                  have hnc36 := NB183_176.out
                  have hcz37_0 : wc.cell? ⟨gb176, 0, none⟩ = some (.int .i64 t165) := (blk_cell BK176.out 0).trans rfl
                  have hcz37_1 : wc.cell? ⟨gb176, 1, none⟩ = some (.int .i64 t166) := (blk_cell BK176.out 1).trans rfl
                  have hcz37_2 : wc.cell? ⟨gb176, 2, none⟩ = some (.int .i64 t167) := (blk_cell BK176.out 2).trans rfl
                  have hcz37_3 : wc.cell? ⟨gb176, 3, none⟩ = some (.int .i64 t168) := (blk_cell BK176.out 3).trans rfl
                  have hcz37_4 : wc.cell? ⟨gb176, 4, none⟩ = some (.int .i64 t169) := (blk_cell BK176.out 4).trans rfl
                  have hcz37_5 : wc.cell? ⟨gb176, 5, none⟩ = some (.int .i64 t170) := (blk_cell BK176.out 5).trans rfl
                  have hcz37_6 : wc.cell? ⟨gb176, 6, none⟩ = some (.int .i64 t171) := (blk_cell BK176.out 6).trans rfl
                  have hcz37_7 : wc.cell? ⟨gb176, 7, none⟩ = some (.int .i64 t172) := (blk_cell BK176.out 7).trans rfl
                  have hcz37_8 : wc.cell? ⟨gb176, 8, none⟩ = some (.int .i64 t173) := (blk_cell BK176.out 8).trans rfl
                  have hcz37_9 : wc.cell? ⟨gb176, 9, none⟩ = some (.int .i64 t174) := (blk_cell BK176.out 9).trans rfl
                  have hcz37_10 : wc.cell? ⟨gb176, 10, none⟩ = some (.int .i64 t175) := (blk_cell BK176.out 10).trans rfl
                  have hfz37_0 := blk_frozen BK176.out 0
                  have hfz37_1 := blk_frozen BK176.out 1
                  have hfz37_2 := blk_frozen BK176.out 2
                  have hfz37_3 := blk_frozen BK176.out 3
                  have hfz37_4 := blk_frozen BK176.out 4
                  have hfz37_5 := blk_frozen BK176.out 5
                  have hfz37_6 := blk_frozen BK176.out 6
                  have hfz37_7 := blk_frozen BK176.out 7
                  have hfz37_8 := blk_frozen BK176.out 8
                  have hfz37_9 := blk_frozen BK176.out 9
                  have hfz37_10 := blk_frozen BK176.out 10
                  go_wp2_with (first | (go_at_call 22; (with_reducible refine (potbankref01_At.calls _ _ l2 x11_1 t184 _ ?side1 ?side2 A34.out).mono ?_); (case side1 => repeat (first | exact (Kd.C_below HR2.out HB.out) | (with_reducible refine Kd.C_alloc ?_ _) | (with_reducible refine Kd.C_drewN ?_ _) | (with_reducible refine Kd.C_drew ?_))); (case side2 => exact HC2.out); rintro e w' ⟨rfl, ⟨nd, rfl⟩⟩; (try first | exact ⟨rfl, _, World.drewN_drewN _ _ _⟩ | exact ⟨rfl, _, Eq.trans (World.drewN_drewN _ _ _) (congrArg (World.drewN _) (Nat.add_assoc _ _ _))⟩)) | (go_at_call 21; (with_reducible refine (potbankref01_Mod.calls t184 (wrap64 ((wrap64 (t174 - t173)) + 1)) t185 _ A35.out).mono ?_); rintro e w' ⟨rfl, ⟨nd, rfl⟩⟩; (try first | exact ⟨rfl, _, World.drewN_drewN _ _ _⟩ | exact ⟨rfl, _, Eq.trans (World.drewN_drewN _ _ _) (congrArg (World.drewN _) (Nat.add_assoc _ _ _))⟩)))
                  repeat (go_quiet (first | (go_at_call 22; (with_reducible refine (potbankref01_At.calls _ _ l2 x11_1 t184 _ ?side1 ?side2 A34.out).mono ?_); (case side1 => repeat (first | exact (Kd.C_below HR2.out HB.out) | (with_reducible refine Kd.C_alloc ?_ _) | (with_reducible refine Kd.C_drewN ?_ _) | (with_reducible refine Kd.C_drew ?_))); (case side2 => exact HC2.out); rintro e w' ⟨rfl, ⟨nd, rfl⟩⟩; (try first | exact ⟨rfl, _, World.drewN_drewN _ _ _⟩ | exact ⟨rfl, _, Eq.trans (World.drewN_drewN _ _ _) (congrArg (World.drewN _) (Nat.add_assoc _ _ _))⟩)) | (go_at_call 21; (with_reducible refine (potbankref01_Mod.calls t184 (wrap64 ((wrap64 (t174 - t173)) + 1)) t185 _ A35.out).mono ?_); rintro e w' ⟨rfl, ⟨nd, rfl⟩⟩; (try first | exact ⟨rfl, _, World.drewN_drewN _ _ _⟩ | exact ⟨rfl, _, Eq.trans (World.drewN_drewN _ _ _) (congrArg (World.drewN _) (Nat.add_assoc _ _ _))⟩))); try go_wp2_with (first | (go_at_call 22; (with_reducible refine (potbankref01_At.calls _ _ l2 x11_1 t184 _ ?side1 ?side2 A34.out).mono ?_); (case side1 => repeat (first | exact (Kd.C_below HR2.out HB.out) | (with_reducible refine Kd.C_alloc ?_ _) | (with_reducible refine Kd.C_drewN ?_ _) | (with_reducible refine Kd.C_drew ?_))); (case side2 => exact HC2.out); rintro e w' ⟨rfl, ⟨nd, rfl⟩⟩; (try first | exact ⟨rfl, _, World.drewN_drewN _ _ _⟩ | exact ⟨rfl, _, Eq.trans (World.drewN_drewN _ _ _) (congrArg (World.drewN _) (Nat.add_assoc _ _ _))⟩)) | (go_at_call 21; (with_reducible refine (potbankref01_Mod.calls t184 (wrap64 ((wrap64 (t174 - t173)) + 1)) t185 _ A35.out).mono ?_); rintro e w' ⟨rfl, ⟨nd, rfl⟩⟩; (try first | exact ⟨rfl, _, World.drewN_drewN _ _ _⟩ | exact ⟨rfl, _, Eq.trans (World.drewN_drewN _ _ _) (congrArg (World.drewN _) (Nat.add_assoc _ _ _))⟩))))
                  go_roundg kj13
                  case measure => have := HK1.out; have := HJ13.out; omega
                  case rel => exact ⟨(wrap64 (x10_1 + (wrap64 (t173 + t185)))), (wrap64 (x11_1 - 1)), (by first | rfl | (simp; done) | (simp [*]; done)), (by first | rfl | (simp; done) | (simp [*]; done)), H', ⟨by have := HK1.out; have := HJ13.out; omega⟩, ⟨by (with_reducible repeat first | apply blk_drewN | apply blk_drew | apply blk_alloc); exact BK176.out⟩, ⟨by repeat (first | (with_reducible first | exact HB.out | apply below_alloc | apply pw_below_drewN | apply below_drew1 | refine below_set ?_ GE176.out | refine below_set ?_ GE183.out) | exact HB.out)⟩⟩
        · rw [if_neg c12] at H
          have c12b0 : decide (0 ≤ x11_1) = false := decide_eq_false c12
          clear c12
          replace H := Option.bind_eq_some_iff.mp H
          obtain ⟨⟨t186, t187, t188⟩, A380, H⟩ := H
          replace H : (if t188 = 0 then (if t178 = true then (potbanklaw01_WareStands.j2 k1 (wrap64 (1 + t177)) l2 t178 false t165 t166 t167 t168 t169 t170 t171 t172 t173 t174 t175) else (potbanklaw01_WareStands.j2 k1 (wrap64 (1 + t177)) l2 t178 (decide (t187 ≤ t175)) t165 t166 t167 t168 t169 t170 t171 t172 t173 t174 t175)) else (potbanklaw01_WareStands.j2 k1 (wrap64 (1 + t177)) l2 t178 true t165 t166 t167 t168 t169 t170 t171 t172 t173 t174 t175)) = some r := H
          have A38 := Aside0.mk A380
          clear A380
          have HC39 := Aside0.mk H
          clear H
          have hcz40_0 : wr.cell? ⟨gb176, 0, none⟩ = some (.int .i64 t165) := (blk_cell BK176.out 0).trans rfl
          have hcz40_1 : wr.cell? ⟨gb176, 1, none⟩ = some (.int .i64 t166) := (blk_cell BK176.out 1).trans rfl
          have hcz40_2 : wr.cell? ⟨gb176, 2, none⟩ = some (.int .i64 t167) := (blk_cell BK176.out 2).trans rfl
          have hcz40_3 : wr.cell? ⟨gb176, 3, none⟩ = some (.int .i64 t168) := (blk_cell BK176.out 3).trans rfl
          have hcz40_4 : wr.cell? ⟨gb176, 4, none⟩ = some (.int .i64 t169) := (blk_cell BK176.out 4).trans rfl
          have hcz40_5 : wr.cell? ⟨gb176, 5, none⟩ = some (.int .i64 t170) := (blk_cell BK176.out 5).trans rfl
          have hcz40_6 : wr.cell? ⟨gb176, 6, none⟩ = some (.int .i64 t171) := (blk_cell BK176.out 6).trans rfl
          have hcz40_7 : wr.cell? ⟨gb176, 7, none⟩ = some (.int .i64 t172) := (blk_cell BK176.out 7).trans rfl
          have hcz40_8 : wr.cell? ⟨gb176, 8, none⟩ = some (.int .i64 t173) := (blk_cell BK176.out 8).trans rfl
          have hcz40_9 : wr.cell? ⟨gb176, 9, none⟩ = some (.int .i64 t174) := (blk_cell BK176.out 9).trans rfl
          have hcz40_10 : wr.cell? ⟨gb176, 10, none⟩ = some (.int .i64 t175) := (blk_cell BK176.out 10).trans rfl
          have hfz40_0 := blk_frozen BK176.out 0
          have hfz40_1 := blk_frozen BK176.out 1
          have hfz40_2 := blk_frozen BK176.out 2
          have hfz40_3 := blk_frozen BK176.out 3
          have hfz40_4 := blk_frozen BK176.out 4
          have hfz40_5 := blk_frozen BK176.out 5
          have hfz40_6 := blk_frozen BK176.out 6
          have hfz40_7 := blk_frozen BK176.out 7
          have hfz40_8 := blk_frozen BK176.out 8
          have hfz40_9 := blk_frozen BK176.out 9
          have hfz40_10 := blk_frozen BK176.out 10
          go_upto_region 15 with (first | (go_at_call 13; (with_reducible refine (ware_Load.calls t165 t166 t167 t168 t169 t170 t171 t172 t173 t174 t175 (wrap64 (1 + t177)) 0 t186 t187 t188 _ A38.out).mono ?_); rintro e w41 ⟨rfl, hb⟩; replace BK176 := blkE BK176 hb; replace HB := Aside0.mk (below_step (by repeat (first | (with_reducible first | exact HB.out | apply below_alloc | apply pw_below_drewN | apply below_drew1 | refine below_set ?_ GE176.out) | exact HB.out)) hb); (try clear hb); (try clear hb2); (try clear hk); (try clear hi)) | ((with_reducible refine gate_dst (N := 14) rfl ?_); refine box_event ?hg (N := 14) ?hd (cs := #[.int .i64 0, .int .i64 0]) (t := 23) ?hr ?_; (case hd => rfl); (case hg => rfl); (case hr => first | (go_simp; done) | (go_simp; rfl)); intro gb189 hg w42 hbox hb; have BK189 := Aside0.mk (hbox); have GW189 := Aside0.mk ((by rw [hg]; exact (below_size (by repeat (first | (with_reducible first | exact HB.out | apply below_alloc | apply pw_below_drewN | apply below_drew1 | refine below_set ?_ GE176.out) | exact HB.out))) : w.heap.size ≤ gb189)); have GE189 := Aside0.mk ((by rw [hg]; exact (below_size (by repeat (first | (with_reducible first | exact HB.out | apply below_alloc | apply pw_below_drewN | apply below_drew1 | refine below_set ?_ GE176.out) | exact HB.out))) : w.heap.size ≤ gb189)); replace HB := Aside0.mk (below_step (by repeat (first | (with_reducible first | exact HB.out | apply below_alloc | apply pw_below_drewN | apply below_drew1 | refine below_set ?_ GE176.out) | exact HB.out)) hb); have NB176_189 := Aside0.mk ((by rw [hg]; exact Nat.ne_of_lt (blk_lt (g := gb176) (o := .cells #[.int .i64 t165, .int .i64 t166, .int .i64 t167, .int .i64 t168, .int .i64 t169, .int .i64 t170, .int .i64 t171, .int .i64 t172, .int .i64 t173, .int .i64 t174, .int .i64 t175] 25 (0, 0)) (by (with_reducible repeat first | apply blk_drewN | apply blk_drew | apply blk_alloc); exact BK176.out)) : gb176 ≠ gb189)); have NB189_176 := Aside0.mk ((by rw [hg]; exact Nat.ne_of_gt (blk_lt (g := gb176) (o := .cells #[.int .i64 t165, .int .i64 t166, .int .i64 t167, .int .i64 t168, .int .i64 t169, .int .i64 t170, .int .i64 t171, .int .i64 t172, .int .i64 t173, .int .i64 t174, .int .i64 t175] 25 (0, 0)) (by (with_reducible repeat first | apply blk_drewN | apply blk_drew | apply blk_alloc); exact BK176.out)) : gb189 ≠ gb176)); replace BK176 := blkE BK176 hb; clear hb hbox hg; have hnb43 := NB189_176.out; have hnc43 := NB176_189.out; obtain ⟨hcz44_0, hcz44_1⟩ := cells2 BK189.out; obtain ⟨hfz44_0, hfz44_1⟩ := froz2 BK189.out))
          repeat (go_quiet (first | (go_at_call 13; (with_reducible refine (ware_Load.calls t165 t166 t167 t168 t169 t170 t171 t172 t173 t174 t175 (wrap64 (1 + t177)) 0 t186 t187 t188 _ A38.out).mono ?_); rintro e w41 ⟨rfl, hb⟩; replace BK176 := blkE BK176 hb; replace HB := Aside0.mk (below_step (by repeat (first | (with_reducible first | exact HB.out | apply below_alloc | apply pw_below_drewN | apply below_drew1 | refine below_set ?_ GE176.out) | exact HB.out)) hb); (try clear hb); (try clear hb2); (try clear hk); (try clear hi)) | ((with_reducible refine gate_dst (N := 14) rfl ?_); refine box_event ?hg (N := 14) ?hd (cs := #[.int .i64 0, .int .i64 0]) (t := 23) ?hr ?_; (case hd => rfl); (case hg => rfl); (case hr => first | (go_simp; done) | (go_simp; rfl)); intro gb189 hg w42 hbox hb; have BK189 := Aside0.mk (hbox); have GW189 := Aside0.mk ((by rw [hg]; exact (below_size (by repeat (first | (with_reducible first | exact HB.out | apply below_alloc | apply pw_below_drewN | apply below_drew1 | refine below_set ?_ GE176.out) | exact HB.out))) : w.heap.size ≤ gb189)); have GE189 := Aside0.mk ((by rw [hg]; exact (below_size (by repeat (first | (with_reducible first | exact HB.out | apply below_alloc | apply pw_below_drewN | apply below_drew1 | refine below_set ?_ GE176.out) | exact HB.out))) : w.heap.size ≤ gb189)); replace HB := Aside0.mk (below_step (by repeat (first | (with_reducible first | exact HB.out | apply below_alloc | apply pw_below_drewN | apply below_drew1 | refine below_set ?_ GE176.out) | exact HB.out)) hb); have NB176_189 := Aside0.mk ((by rw [hg]; exact Nat.ne_of_lt (blk_lt (g := gb176) (o := .cells #[.int .i64 t165, .int .i64 t166, .int .i64 t167, .int .i64 t168, .int .i64 t169, .int .i64 t170, .int .i64 t171, .int .i64 t172, .int .i64 t173, .int .i64 t174, .int .i64 t175] 25 (0, 0)) (by (with_reducible repeat first | apply blk_drewN | apply blk_drew | apply blk_alloc); exact BK176.out)) : gb176 ≠ gb189)); have NB189_176 := Aside0.mk ((by rw [hg]; exact Nat.ne_of_gt (blk_lt (g := gb176) (o := .cells #[.int .i64 t165, .int .i64 t166, .int .i64 t167, .int .i64 t168, .int .i64 t169, .int .i64 t170, .int .i64 t171, .int .i64 t172, .int .i64 t173, .int .i64 t174, .int .i64 t175] 25 (0, 0)) (by (with_reducible repeat first | apply blk_drewN | apply blk_drew | apply blk_alloc); exact BK176.out)) : gb189 ≠ gb176)); replace BK176 := blkE BK176 hb; clear hb hbox hg; have hnb43 := NB189_176.out; have hnc43 := NB176_189.out; obtain ⟨hcz44_0, hcz44_1⟩ := cells2 BK189.out; obtain ⟨hfz44_0, hfz44_1⟩ := froz2 BK189.out)); go_upto_region 15 with (first | (go_at_call 13; (with_reducible refine (ware_Load.calls t165 t166 t167 t168 t169 t170 t171 t172 t173 t174 t175 (wrap64 (1 + t177)) 0 t186 t187 t188 _ A38.out).mono ?_); rintro e w41 ⟨rfl, hb⟩; replace BK176 := blkE BK176 hb; replace HB := Aside0.mk (below_step (by repeat (first | (with_reducible first | exact HB.out | apply below_alloc | apply pw_below_drewN | apply below_drew1 | refine below_set ?_ GE176.out) | exact HB.out)) hb); (try clear hb); (try clear hb2); (try clear hk); (try clear hi)) | ((with_reducible refine gate_dst (N := 14) rfl ?_); refine box_event ?hg (N := 14) ?hd (cs := #[.int .i64 0, .int .i64 0]) (t := 23) ?hr ?_; (case hd => rfl); (case hg => rfl); (case hr => first | (go_simp; done) | (go_simp; rfl)); intro gb189 hg w42 hbox hb; have BK189 := Aside0.mk (hbox); have GW189 := Aside0.mk ((by rw [hg]; exact (below_size (by repeat (first | (with_reducible first | exact HB.out | apply below_alloc | apply pw_below_drewN | apply below_drew1 | refine below_set ?_ GE176.out) | exact HB.out))) : w.heap.size ≤ gb189)); have GE189 := Aside0.mk ((by rw [hg]; exact (below_size (by repeat (first | (with_reducible first | exact HB.out | apply below_alloc | apply pw_below_drewN | apply below_drew1 | refine below_set ?_ GE176.out) | exact HB.out))) : w.heap.size ≤ gb189)); replace HB := Aside0.mk (below_step (by repeat (first | (with_reducible first | exact HB.out | apply below_alloc | apply pw_below_drewN | apply below_drew1 | refine below_set ?_ GE176.out) | exact HB.out)) hb); have NB176_189 := Aside0.mk ((by rw [hg]; exact Nat.ne_of_lt (blk_lt (g := gb176) (o := .cells #[.int .i64 t165, .int .i64 t166, .int .i64 t167, .int .i64 t168, .int .i64 t169, .int .i64 t170, .int .i64 t171, .int .i64 t172, .int .i64 t173, .int .i64 t174, .int .i64 t175] 25 (0, 0)) (by (with_reducible repeat first | apply blk_drewN | apply blk_drew | apply blk_alloc); exact BK176.out)) : gb176 ≠ gb189)); have NB189_176 := Aside0.mk ((by rw [hg]; exact Nat.ne_of_gt (blk_lt (g := gb176) (o := .cells #[.int .i64 t165, .int .i64 t166, .int .i64 t167, .int .i64 t168, .int .i64 t169, .int .i64 t170, .int .i64 t171, .int .i64 t172, .int .i64 t173, .int .i64 t174, .int .i64 t175] 25 (0, 0)) (by (with_reducible repeat first | apply blk_drewN | apply blk_drew | apply blk_alloc); exact BK176.out)) : gb189 ≠ gb176)); replace BK176 := blkE BK176 hb; clear hb hbox hg; have hnb43 := NB189_176.out; have hnc43 := NB176_189.out; obtain ⟨hcz44_0, hcz44_1⟩ := cells2 BK189.out; obtain ⟨hfz44_0, hfz44_1⟩ := froz2 BK189.out)))
          (try simp only [Act.put, List.setIfInBounds_toArray, List.set_cons_zero, List.set_cons_succ])
          go_cut [114] (fun v114 wc => ∃ (kq : Nat) (x114_38 : Bool), v114 = .bool x114_38 ∧ Aside0 (potbanklaw01_WareStands.j2 kq (wrap64 (1 + t177)) l2 t178 x114_38 t165 t166 t167 t168 t169 t170 t171 t172 t173 t174 t175 = some r) ∧ Aside0 (kq ≤ k1) ∧ Aside0 (wc.heap[gb176]? = some (.cells #[.int .i64 t165, .int .i64 t166, .int .i64 t167, .int .i64 t168, .int .i64 t169, .int .i64 t170, .int .i64 t171, .int .i64 t172, .int .i64 t173, .int .i64 t174, .int .i64 t175] 25 (0, 0))) ∧ Aside0 (wc.heap[gb189]? = some (.cells #[.int .i64 t186, .int .i64 t187] 23 (0, 0))) ∧ Aside0 (Below w.heap.size w wc))
          case first =>
            have H := HC39.out
            clear HC39
            by_cases c45 : t188 = 0
            · rw [if_pos c45] at H
              have c45b0 : (t188 == 0) = true := beq_iff_eq.mpr c45
              have c45b1 : (t188 != 0) = false := bne_eq_false_iff_eq.mpr c45
              clear c45
              (first | rw [c45b0] | (simp only [i64_w, i32_w]; rw [c45b0]) | skip)
              by_cases c46 : t178 = true
              · subst c46
                have H1 : (potbanklaw01_WareStands.j2 k1 (wrap64 (1 + t177)) l2 true false t165 t166 t167 t168 t169 t170 t171 t172 t173 t174 t175) = some r := by rw [if_pos rfl] at H; exact H
                clear H
                have H := H1
                clear H1
                as_aux_lemma =>
                  have H' := Aside0.mk H
                  clear H
                  go_wp2
                  repeat (go_quiet (fail); try go_wp2)
                  go_meet
                  case rel => exact ⟨_, (false), (by first | rfl | (simp; done) | (simp [*]; done)), H', ⟨by have := HK1.out; first | omega | exact Nat.le_refl _⟩, ⟨by (with_reducible repeat first | apply blk_drewN | apply blk_drew | apply blk_alloc); refine blk_far ?_ NB176_189.out _; (with_reducible repeat first | apply blk_drewN | apply blk_drew | apply blk_alloc); refine blk_far ?_ NB176_189.out _; (with_reducible repeat first | apply blk_drewN | apply blk_drew | apply blk_alloc); exact BK176.out⟩, ⟨by (with_reducible repeat first | apply blk_drewN | apply blk_drew | apply blk_alloc); refine blk_put (cs := #[.int .i64 t186, .int .i64 0]) ?_ 1 _ rfl; (with_reducible repeat first | apply blk_drewN | apply blk_drew | apply blk_alloc); refine blk_put (cs := #[.int .i64 0, .int .i64 0]) ?_ 0 _ rfl; (with_reducible repeat first | apply blk_drewN | apply blk_drew | apply blk_alloc); exact BK189.out⟩, ⟨by repeat (first | (with_reducible first | exact HB.out | apply below_alloc | apply pw_below_drewN | apply below_drew1 | refine below_set ?_ GE176.out | refine below_set ?_ GE189.out) | exact HB.out)⟩⟩
              · replace c46 := Bool.eq_false_iff.mpr c46
                subst c46
                have H1 : (potbanklaw01_WareStands.j2 k1 (wrap64 (1 + t177)) l2 false (decide (t187 ≤ t175)) t165 t166 t167 t168 t169 t170 t171 t172 t173 t174 t175) = some r := by rw [if_neg (show ¬ (false = true) by decide)] at H; exact H
                clear H
                have H := H1
                clear H1
                as_aux_lemma =>
                  have H' := Aside0.mk H
                  clear H
                  have hnb47 := NB189_176.out
                  have hnc47 := NB176_189.out
                  have hcz48_0 : w42.cell? ⟨gb189, 0, none⟩ = some (.int .i64 0) := (blk_cell BK189.out 0).trans rfl
                  have hcz48_1 : w42.cell? ⟨gb189, 1, none⟩ = some (.int .i64 0) := (blk_cell BK189.out 1).trans rfl
                  have hfz48_0 := blk_frozen BK189.out 0
                  have hfz48_1 := blk_frozen BK189.out 1
                  have hcz49_0 : w42.cell? ⟨gb176, 0, none⟩ = some (.int .i64 t165) := (blk_cell BK176.out 0).trans rfl
                  have hcz49_1 : w42.cell? ⟨gb176, 1, none⟩ = some (.int .i64 t166) := (blk_cell BK176.out 1).trans rfl
                  have hcz49_2 : w42.cell? ⟨gb176, 2, none⟩ = some (.int .i64 t167) := (blk_cell BK176.out 2).trans rfl
                  have hcz49_3 : w42.cell? ⟨gb176, 3, none⟩ = some (.int .i64 t168) := (blk_cell BK176.out 3).trans rfl
                  have hcz49_4 : w42.cell? ⟨gb176, 4, none⟩ = some (.int .i64 t169) := (blk_cell BK176.out 4).trans rfl
                  have hcz49_5 : w42.cell? ⟨gb176, 5, none⟩ = some (.int .i64 t170) := (blk_cell BK176.out 5).trans rfl
                  have hcz49_6 : w42.cell? ⟨gb176, 6, none⟩ = some (.int .i64 t171) := (blk_cell BK176.out 6).trans rfl
                  have hcz49_7 : w42.cell? ⟨gb176, 7, none⟩ = some (.int .i64 t172) := (blk_cell BK176.out 7).trans rfl
                  have hcz49_8 : w42.cell? ⟨gb176, 8, none⟩ = some (.int .i64 t173) := (blk_cell BK176.out 8).trans rfl
                  have hcz49_9 : w42.cell? ⟨gb176, 9, none⟩ = some (.int .i64 t174) := (blk_cell BK176.out 9).trans rfl
                  have hcz49_10 : w42.cell? ⟨gb176, 10, none⟩ = some (.int .i64 t175) := (blk_cell BK176.out 10).trans rfl
                  have hfz49_0 := blk_frozen BK176.out 0
                  have hfz49_1 := blk_frozen BK176.out 1
                  have hfz49_2 := blk_frozen BK176.out 2
                  have hfz49_3 := blk_frozen BK176.out 3
                  have hfz49_4 := blk_frozen BK176.out 4
                  have hfz49_5 := blk_frozen BK176.out 5
                  have hfz49_6 := blk_frozen BK176.out 6
                  have hfz49_7 := blk_frozen BK176.out 7
                  have hfz49_8 := blk_frozen BK176.out 8
                  have hfz49_9 := blk_frozen BK176.out 9
                  have hfz49_10 := blk_frozen BK176.out 10
                  go_wp2
                  repeat (go_quiet (fail); try go_wp2)
                  go_meet
                  case rel => exact ⟨_, (decide (t187 ≤ t175)), (by first | rfl | (simp; done) | (simp [*]; done)), H', ⟨by have := HK1.out; first | omega | exact Nat.le_refl _⟩, ⟨by (with_reducible repeat first | apply blk_drewN | apply blk_drew | apply blk_alloc); refine blk_far ?_ NB176_189.out _; (with_reducible repeat first | apply blk_drewN | apply blk_drew | apply blk_alloc); refine blk_far ?_ NB176_189.out _; (with_reducible repeat first | apply blk_drewN | apply blk_drew | apply blk_alloc); exact BK176.out⟩, ⟨by (with_reducible repeat first | apply blk_drewN | apply blk_drew | apply blk_alloc); refine blk_put (cs := #[.int .i64 t186, .int .i64 0]) ?_ 1 _ rfl; (with_reducible repeat first | apply blk_drewN | apply blk_drew | apply blk_alloc); refine blk_put (cs := #[.int .i64 0, .int .i64 0]) ?_ 0 _ rfl; (with_reducible repeat first | apply blk_drewN | apply blk_drew | apply blk_alloc); exact BK189.out⟩, ⟨by repeat (first | (with_reducible first | exact HB.out | apply below_alloc | apply pw_below_drewN | apply below_drew1 | refine below_set ?_ GE176.out | refine below_set ?_ GE189.out) | exact HB.out)⟩⟩
            · rw [if_neg c45] at H
              have c45b0 : (t188 == 0) = false := beq_eq_false_iff_ne.mpr c45
              have c45b1 : (t188 != 0) = true := bne_iff_ne.mpr c45
              (first | rw [c45b0] | (simp only [i64_w, i32_w]; rw [c45b0]) | skip)
              as_aux_lemma =>
                have H' := Aside0.mk H
                clear H
                go_wp2
                repeat (go_quiet (fail); try go_wp2)
                go_meet
                case rel => exact ⟨_, (true), (by first | rfl | (simp; done) | (simp [*]; done)), H', ⟨by have := HK1.out; first | omega | exact Nat.le_refl _⟩, ⟨by (with_reducible repeat first | apply blk_drewN | apply blk_drew | apply blk_alloc); refine blk_far ?_ NB176_189.out _; (with_reducible repeat first | apply blk_drewN | apply blk_drew | apply blk_alloc); refine blk_far ?_ NB176_189.out _; (with_reducible repeat first | apply blk_drewN | apply blk_drew | apply blk_alloc); exact BK176.out⟩, ⟨by (with_reducible repeat first | apply blk_drewN | apply blk_drew | apply blk_alloc); refine blk_put (cs := #[.int .i64 t186, .int .i64 0]) ?_ 1 _ rfl; (with_reducible repeat first | apply blk_drewN | apply blk_drew | apply blk_alloc); refine blk_put (cs := #[.int .i64 0, .int .i64 0]) ?_ 0 _ rfl; (with_reducible repeat first | apply blk_drewN | apply blk_drew | apply blk_alloc); exact BK189.out⟩, ⟨by repeat (first | (with_reducible first | exact HB.out | apply below_alloc | apply pw_below_drewN | apply below_drew1 | refine below_set ?_ GE176.out | refine below_set ?_ GE189.out) | exact HB.out)⟩⟩
          case rest =>
            clear HC39
            try clear c1
            try clear c2
            try clear p2
            try clear c3
            try clear c4
            try clear p6
            try clear c7
            try clear c7b0
            try clear c7b1
            try clear c12
            try clear c12b0
            try clear c18
            try clear c20
            try clear c20b0
            try clear c20b1
            try clear c21
            try clear c21b0
            try clear c22
            try clear c24
            try clear c24b0
            try clear c25
            try clear c27
            try clear c28
            try clear c31
            try clear c33
            try clear c36
            try clear c43
            try clear c45
            try clear c45b0
            try clear c45b1
            try clear c46
            try clear c47
            try clear hcz10_0
            try clear hcz10_1
            try clear hcz10_10
            try clear hcz10_2
            try clear hcz10_3
            try clear hcz10_4
            try clear hcz10_5
            try clear hcz10_6
            try clear hcz10_7
            try clear hcz10_8
            try clear hcz10_9
            try clear hcz15_0
            try clear hcz15_1
            try clear hcz15_10
            try clear hcz15_2
            try clear hcz15_3
            try clear hcz15_4
            try clear hcz15_5
            try clear hcz15_6
            try clear hcz15_7
            try clear hcz15_8
            try clear hcz15_9
            try clear hcz19_0
            try clear hcz19_1
            try clear hcz23_0
            try clear hcz23_1
            try clear hcz26_0
            try clear hcz26_1
            try clear hcz29_0
            try clear hcz29_1
            try clear hcz30_0
            try clear hcz30_1
            try clear hcz30_10
            try clear hcz30_2
            try clear hcz30_3
            try clear hcz30_4
            try clear hcz30_5
            try clear hcz30_6
            try clear hcz30_7
            try clear hcz30_8
            try clear hcz30_9
            try clear hcz32_0
            try clear hcz32_1
            try clear hcz37_0
            try clear hcz37_1
            try clear hcz37_10
            try clear hcz37_2
            try clear hcz37_3
            try clear hcz37_4
            try clear hcz37_5
            try clear hcz37_6
            try clear hcz37_7
            try clear hcz37_8
            try clear hcz37_9
            try clear hcz40_0
            try clear hcz40_1
            try clear hcz40_10
            try clear hcz40_2
            try clear hcz40_3
            try clear hcz40_4
            try clear hcz40_5
            try clear hcz40_6
            try clear hcz40_7
            try clear hcz40_8
            try clear hcz40_9
            try clear hcz44_0
            try clear hcz44_1
            try clear hcz48_0
            try clear hcz48_1
            try clear hcz49_0
            try clear hcz49_1
            try clear hcz49_10
            try clear hcz49_2
            try clear hcz49_3
            try clear hcz49_4
            try clear hcz49_5
            try clear hcz49_6
            try clear hcz49_7
            try clear hcz49_8
            try clear hcz49_9
            try clear hfz10_0
            try clear hfz10_1
            try clear hfz10_10
            try clear hfz10_2
            try clear hfz10_3
            try clear hfz10_4
            try clear hfz10_5
            try clear hfz10_6
            try clear hfz10_7
            try clear hfz10_8
            try clear hfz10_9
            try clear hfz15_0
            try clear hfz15_1
            try clear hfz15_10
            try clear hfz15_2
            try clear hfz15_3
            try clear hfz15_4
            try clear hfz15_5
            try clear hfz15_6
            try clear hfz15_7
            try clear hfz15_8
            try clear hfz15_9
            try clear hfz19_0
            try clear hfz19_1
            try clear hfz23_0
            try clear hfz23_1
            try clear hfz26_0
            try clear hfz26_1
            try clear hfz29_0
            try clear hfz29_1
            try clear hfz30_0
            try clear hfz30_1
            try clear hfz30_10
            try clear hfz30_2
            try clear hfz30_3
            try clear hfz30_4
            try clear hfz30_5
            try clear hfz30_6
            try clear hfz30_7
            try clear hfz30_8
            try clear hfz30_9
            try clear hfz32_0
            try clear hfz32_1
            try clear hfz37_0
            try clear hfz37_1
            try clear hfz37_10
            try clear hfz37_2
            try clear hfz37_3
            try clear hfz37_4
            try clear hfz37_5
            try clear hfz37_6
            try clear hfz37_7
            try clear hfz37_8
            try clear hfz37_9
            try clear hfz40_0
            try clear hfz40_1
            try clear hfz40_10
            try clear hfz40_2
            try clear hfz40_3
            try clear hfz40_4
            try clear hfz40_5
            try clear hfz40_6
            try clear hfz40_7
            try clear hfz40_8
            try clear hfz40_9
            try clear hfz44_0
            try clear hfz44_1
            try clear hfz48_0
            try clear hfz48_1
            try clear hfz49_0
            try clear hfz49_1
            try clear hfz49_10
            try clear hfz49_2
            try clear hfz49_3
            try clear hfz49_4
            try clear hfz49_5
            try clear hfz49_6
            try clear hfz49_7
            try clear hfz49_8
            try clear hfz49_9
            try clear p2
            try clear p6
            obtain ⟨kq, x114_38, rfl, HA, HJ38, BK176, BK189, HB⟩ := hcut
            cases kq with
            | zero => exact absurd HA.out (by simp [potbanklaw01_WareStands.j2])
            | succ kj38 =>
              have H := HA.out
              clear HA
              simp only [potbanklaw01_WareStands.j2] at H
              by_cases c50 : x114_38 = true
              · subst c50
                have H1 : (none) = some r := by rw [if_pos rfl] at H; exact H
                clear H
                have H := H1
                clear H1
                exact absurd H (by simp)
              · replace c50 := Bool.eq_false_iff.mpr c50
                subst c50
                have H1 : (if (wrap64 (1 + t177)) > 1 then ((ware_Stands.f t165 t166 t167 t168 t169 t170 t171 t172 t173 t174 t175 (wrap64 ((wrap64 (1 + t177)) - 1))).bind fun bt190 => (if bt190.2 = 0 then (if t178 = true then (if bt190.1 = true then (potbanklaw01_WareStands.j3 kj38 l2 t165 t166 t167 t168 t169 t170 t171 t172 t173 t174 t175) else (none)) else (potbanklaw01_WareStands.j3 kj38 l2 t165 t166 t167 t168 t169 t170 t171 t172 t173 t174 t175)) else (none))) else (potbanklaw01_WareStands.j3 kj38 l2 t165 t166 t167 t168 t169 t170 t171 t172 t173 t174 t175)) = some r := by rw [if_neg (show ¬ (false = true) by decide)] at H; exact H
                clear H
                have H := H1
                clear H1
                have HC51 := Aside0.mk H
                clear H
                go_upto_if 116 with (fail)
                repeat (go_quiet (fail); go_upto_if 116 with (fail))
                go_cut [] (fun wc => ∃ (kq : Nat), Aside0 (potbanklaw01_WareStands.j3 kq l2 t165 t166 t167 t168 t169 t170 t171 t172 t173 t174 t175 = some r) ∧ Aside0 (kq ≤ kj38) ∧ Aside0 (wc.heap[gb176]? = some (.cells #[.int .i64 t165, .int .i64 t166, .int .i64 t167, .int .i64 t168, .int .i64 t169, .int .i64 t170, .int .i64 t171, .int .i64 t172, .int .i64 t173, .int .i64 t174, .int .i64 t175] 25 (0, 0))) ∧ Aside0 (wc.heap[gb189]? = some (.cells #[.int .i64 t186, .int .i64 t187] 23 (0, 0))) ∧ Aside0 (Below w.heap.size w wc))
                case first =>
                  have H := HC51.out
                  clear HC51
                  by_cases c52 : (wrap64 (1 + t177)) > 1
                  · rw [if_pos c52] at H
                    have c52b0 : decide (1 < (wrap64 (1 + t177))) = true := decide_eq_true c52
                    clear c52
                    (first | rw [c52b0] | (simp only [i64_w, i32_w]; rw [c52b0]) | skip)
                    replace H := Option.bind_eq_some_iff.mp H
                    obtain ⟨⟨t190, t191⟩, A530, H⟩ := H
                    replace H : (if t191 = 0 then (if t178 = true then (if t190 = true then (potbanklaw01_WareStands.j3 kj38 l2 t165 t166 t167 t168 t169 t170 t171 t172 t173 t174 t175) else (none)) else (potbanklaw01_WareStands.j3 kj38 l2 t165 t166 t167 t168 t169 t170 t171 t172 t173 t174 t175)) else (none)) = some r := H
                    have A53 := Aside0.mk A530
                    clear A530
                    by_cases c54 : t191 = 0
                    · rw [if_pos c54] at H
                      have c54b0 : (t191 == 0) = true := beq_iff_eq.mpr c54
                      have c54b1 : (t191 != 0) = false := bne_eq_false_iff_eq.mpr c54
                      clear c54
                      by_cases c55 : t178 = true
                      · subst c55
                        have H1 : (if t190 = true then (potbanklaw01_WareStands.j3 kj38 l2 t165 t166 t167 t168 t169 t170 t171 t172 t173 t174 t175) else (none)) = some r := by rw [if_pos rfl] at H; exact H
                        clear H
                        have H := H1
                        clear H1
                        by_cases c56 : t190 = true
                        · subst c56
                          have H1 : (potbanklaw01_WareStands.j3 kj38 l2 t165 t166 t167 t168 t169 t170 t171 t172 t173 t174 t175) = some r := by rw [if_pos rfl] at H; exact H
                          clear H
                          have H := H1
                          clear H1
                          as_aux_lemma =>
                            have H' := Aside0.mk H
                            clear H
                            have hnb57 := NB176_189.out
                            have hnc57 := NB189_176.out
                            have hcz58_0 : wc.cell? ⟨gb176, 0, none⟩ = some (.int .i64 t165) := (blk_cell BK176.out 0).trans rfl
                            have hcz58_1 : wc.cell? ⟨gb176, 1, none⟩ = some (.int .i64 t166) := (blk_cell BK176.out 1).trans rfl
                            have hcz58_2 : wc.cell? ⟨gb176, 2, none⟩ = some (.int .i64 t167) := (blk_cell BK176.out 2).trans rfl
                            have hcz58_3 : wc.cell? ⟨gb176, 3, none⟩ = some (.int .i64 t168) := (blk_cell BK176.out 3).trans rfl
                            have hcz58_4 : wc.cell? ⟨gb176, 4, none⟩ = some (.int .i64 t169) := (blk_cell BK176.out 4).trans rfl
                            have hcz58_5 : wc.cell? ⟨gb176, 5, none⟩ = some (.int .i64 t170) := (blk_cell BK176.out 5).trans rfl
                            have hcz58_6 : wc.cell? ⟨gb176, 6, none⟩ = some (.int .i64 t171) := (blk_cell BK176.out 6).trans rfl
                            have hcz58_7 : wc.cell? ⟨gb176, 7, none⟩ = some (.int .i64 t172) := (blk_cell BK176.out 7).trans rfl
                            have hcz58_8 : wc.cell? ⟨gb176, 8, none⟩ = some (.int .i64 t173) := (blk_cell BK176.out 8).trans rfl
                            have hcz58_9 : wc.cell? ⟨gb176, 9, none⟩ = some (.int .i64 t174) := (blk_cell BK176.out 9).trans rfl
                            have hcz58_10 : wc.cell? ⟨gb176, 10, none⟩ = some (.int .i64 t175) := (blk_cell BK176.out 10).trans rfl
                            have hfz58_0 := blk_frozen BK176.out 0
                            have hfz58_1 := blk_frozen BK176.out 1
                            have hfz58_2 := blk_frozen BK176.out 2
                            have hfz58_3 := blk_frozen BK176.out 3
                            have hfz58_4 := blk_frozen BK176.out 4
                            have hfz58_5 := blk_frozen BK176.out 5
                            have hfz58_6 := blk_frozen BK176.out 6
                            have hfz58_7 := blk_frozen BK176.out 7
                            have hfz58_8 := blk_frozen BK176.out 8
                            have hfz58_9 := blk_frozen BK176.out 9
                            have hfz58_10 := blk_frozen BK176.out 10
                            go_wp2_with (first | (go_at_call 15; (with_reducible refine (ware_Stands.calls t165 t166 t167 t168 t169 t170 t171 t172 t173 t174 t175 (wrap64 ((wrap64 (1 + t177)) - 1)) true t191 _ A53.out).mono ?_); rintro e w59 ⟨rfl, hb⟩; replace BK176 := blkE BK176 hb; replace BK189 := blkE BK189 hb; replace HB := Aside0.mk (below_step (by repeat (first | (with_reducible first | exact HB.out | apply below_alloc | apply pw_below_drewN | apply below_drew1 | refine below_set ?_ GE176.out | refine below_set ?_ GE189.out) | exact HB.out)) hb); (try clear hb); (try clear hb2); (try clear hk); (try clear hi)))
                            repeat (go_quiet (first | (go_at_call 15; (with_reducible refine (ware_Stands.calls t165 t166 t167 t168 t169 t170 t171 t172 t173 t174 t175 (wrap64 ((wrap64 (1 + t177)) - 1)) true t191 _ A53.out).mono ?_); rintro e w59 ⟨rfl, hb⟩; replace BK176 := blkE BK176 hb; replace BK189 := blkE BK189 hb; replace HB := Aside0.mk (below_step (by repeat (first | (with_reducible first | exact HB.out | apply below_alloc | apply pw_below_drewN | apply below_drew1 | refine below_set ?_ GE176.out | refine below_set ?_ GE189.out) | exact HB.out)) hb); (try clear hb); (try clear hb2); (try clear hk); (try clear hi))); try go_wp2_with (first | (go_at_call 15; (with_reducible refine (ware_Stands.calls t165 t166 t167 t168 t169 t170 t171 t172 t173 t174 t175 (wrap64 ((wrap64 (1 + t177)) - 1)) true t191 _ A53.out).mono ?_); rintro e w59 ⟨rfl, hb⟩; replace BK176 := blkE BK176 hb; replace BK189 := blkE BK189 hb; replace HB := Aside0.mk (below_step (by repeat (first | (with_reducible first | exact HB.out | apply below_alloc | apply pw_below_drewN | apply below_drew1 | refine below_set ?_ GE176.out | refine below_set ?_ GE189.out) | exact HB.out)) hb); (try clear hb); (try clear hb2); (try clear hk); (try clear hi))))
                            go_meet
                            case rel => exact ⟨_, H', ⟨by have := HK1.out; have := HJ38.out; first | omega | exact Nat.le_refl _⟩, ⟨by (with_reducible repeat first | apply blk_drewN | apply blk_drew | apply blk_alloc); exact BK176.out⟩, ⟨by (with_reducible repeat first | apply blk_drewN | apply blk_drew | apply blk_alloc); exact BK189.out⟩, ⟨by repeat (first | (with_reducible first | exact HB.out | apply below_alloc | apply pw_below_drewN | apply below_drew1 | refine below_set ?_ GE176.out | refine below_set ?_ GE189.out) | exact HB.out)⟩⟩
                        · replace c56 := Bool.eq_false_iff.mpr c56
                          subst c56
                          have H1 : (none) = some r := by rw [if_neg (show ¬ (false = true) by decide)] at H; exact H
                          clear H
                          have H := H1
                          clear H1
                          exact absurd H (by simp)
                      · replace c55 := Bool.eq_false_iff.mpr c55
                        subst c55
                        have H1 : (potbanklaw01_WareStands.j3 kj38 l2 t165 t166 t167 t168 t169 t170 t171 t172 t173 t174 t175) = some r := by rw [if_neg (show ¬ (false = true) by decide)] at H; exact H
                        clear H
                        have H := H1
                        clear H1
                        as_aux_lemma =>
                          have H' := Aside0.mk H
                          clear H
                          have hnb60 := NB176_189.out
                          have hnc60 := NB189_176.out
                          have hcz61_0 : wc.cell? ⟨gb176, 0, none⟩ = some (.int .i64 t165) := (blk_cell BK176.out 0).trans rfl
                          have hcz61_1 : wc.cell? ⟨gb176, 1, none⟩ = some (.int .i64 t166) := (blk_cell BK176.out 1).trans rfl
                          have hcz61_2 : wc.cell? ⟨gb176, 2, none⟩ = some (.int .i64 t167) := (blk_cell BK176.out 2).trans rfl
                          have hcz61_3 : wc.cell? ⟨gb176, 3, none⟩ = some (.int .i64 t168) := (blk_cell BK176.out 3).trans rfl
                          have hcz61_4 : wc.cell? ⟨gb176, 4, none⟩ = some (.int .i64 t169) := (blk_cell BK176.out 4).trans rfl
                          have hcz61_5 : wc.cell? ⟨gb176, 5, none⟩ = some (.int .i64 t170) := (blk_cell BK176.out 5).trans rfl
                          have hcz61_6 : wc.cell? ⟨gb176, 6, none⟩ = some (.int .i64 t171) := (blk_cell BK176.out 6).trans rfl
                          have hcz61_7 : wc.cell? ⟨gb176, 7, none⟩ = some (.int .i64 t172) := (blk_cell BK176.out 7).trans rfl
                          have hcz61_8 : wc.cell? ⟨gb176, 8, none⟩ = some (.int .i64 t173) := (blk_cell BK176.out 8).trans rfl
                          have hcz61_9 : wc.cell? ⟨gb176, 9, none⟩ = some (.int .i64 t174) := (blk_cell BK176.out 9).trans rfl
                          have hcz61_10 : wc.cell? ⟨gb176, 10, none⟩ = some (.int .i64 t175) := (blk_cell BK176.out 10).trans rfl
                          have hfz61_0 := blk_frozen BK176.out 0
                          have hfz61_1 := blk_frozen BK176.out 1
                          have hfz61_2 := blk_frozen BK176.out 2
                          have hfz61_3 := blk_frozen BK176.out 3
                          have hfz61_4 := blk_frozen BK176.out 4
                          have hfz61_5 := blk_frozen BK176.out 5
                          have hfz61_6 := blk_frozen BK176.out 6
                          have hfz61_7 := blk_frozen BK176.out 7
                          have hfz61_8 := blk_frozen BK176.out 8
                          have hfz61_9 := blk_frozen BK176.out 9
                          have hfz61_10 := blk_frozen BK176.out 10
                          go_wp2_with (first | (go_at_call 15; (with_reducible refine (ware_Stands.calls t165 t166 t167 t168 t169 t170 t171 t172 t173 t174 t175 (wrap64 ((wrap64 (1 + t177)) - 1)) t190 t191 _ A53.out).mono ?_); rintro e w62 ⟨rfl, hb⟩; replace BK176 := blkE BK176 hb; replace BK189 := blkE BK189 hb; replace HB := Aside0.mk (below_step (by repeat (first | (with_reducible first | exact HB.out | apply below_alloc | apply pw_below_drewN | apply below_drew1 | refine below_set ?_ GE176.out | refine below_set ?_ GE189.out) | exact HB.out)) hb); (try clear hb); (try clear hb2); (try clear hk); (try clear hi)))
                          repeat (go_quiet (first | (go_at_call 15; (with_reducible refine (ware_Stands.calls t165 t166 t167 t168 t169 t170 t171 t172 t173 t174 t175 (wrap64 ((wrap64 (1 + t177)) - 1)) t190 t191 _ A53.out).mono ?_); rintro e w62 ⟨rfl, hb⟩; replace BK176 := blkE BK176 hb; replace BK189 := blkE BK189 hb; replace HB := Aside0.mk (below_step (by repeat (first | (with_reducible first | exact HB.out | apply below_alloc | apply pw_below_drewN | apply below_drew1 | refine below_set ?_ GE176.out | refine below_set ?_ GE189.out) | exact HB.out)) hb); (try clear hb); (try clear hb2); (try clear hk); (try clear hi))); try go_wp2_with (first | (go_at_call 15; (with_reducible refine (ware_Stands.calls t165 t166 t167 t168 t169 t170 t171 t172 t173 t174 t175 (wrap64 ((wrap64 (1 + t177)) - 1)) t190 t191 _ A53.out).mono ?_); rintro e w62 ⟨rfl, hb⟩; replace BK176 := blkE BK176 hb; replace BK189 := blkE BK189 hb; replace HB := Aside0.mk (below_step (by repeat (first | (with_reducible first | exact HB.out | apply below_alloc | apply pw_below_drewN | apply below_drew1 | refine below_set ?_ GE176.out | refine below_set ?_ GE189.out) | exact HB.out)) hb); (try clear hb); (try clear hb2); (try clear hk); (try clear hi))))
                          go_meet
                          case rel => exact ⟨_, H', ⟨by have := HK1.out; have := HJ38.out; first | omega | exact Nat.le_refl _⟩, ⟨by (with_reducible repeat first | apply blk_drewN | apply blk_drew | apply blk_alloc); exact BK176.out⟩, ⟨by (with_reducible repeat first | apply blk_drewN | apply blk_drew | apply blk_alloc); exact BK189.out⟩, ⟨by repeat (first | (with_reducible first | exact HB.out | apply below_alloc | apply pw_below_drewN | apply below_drew1 | refine below_set ?_ GE176.out | refine below_set ?_ GE189.out) | exact HB.out)⟩⟩
                    · rw [if_neg c54] at H
                      exact absurd H (by simp)
                  · rw [if_neg c52] at H
                    have c52b0 : decide (1 < (wrap64 (1 + t177))) = false := decide_eq_false c52
                    clear c52
                    (first | rw [c52b0] | (simp only [i64_w, i32_w]; rw [c52b0]) | skip)
                    as_aux_lemma =>
                      have H' := Aside0.mk H
                      clear H
                      go_wp2
                      repeat (go_quiet (fail); try go_wp2)
                      go_meet
                      case rel => exact ⟨_, H', ⟨by have := HK1.out; have := HJ38.out; first | omega | exact Nat.le_refl _⟩, ⟨by (with_reducible repeat first | apply blk_drewN | apply blk_drew | apply blk_alloc); exact BK176.out⟩, ⟨by (with_reducible repeat first | apply blk_drewN | apply blk_drew | apply blk_alloc); exact BK189.out⟩, ⟨by repeat (first | (with_reducible first | exact HB.out | apply below_alloc | apply pw_below_drewN | apply below_drew1 | refine below_set ?_ GE176.out | refine below_set ?_ GE189.out) | exact HB.out)⟩⟩
                case rest =>
                  clear HC51
                  try clear c1
                  try clear c2
                  try clear p2
                  try clear c3
                  try clear c4
                  try clear c5
                  try clear c6
                  try clear p6
                  try clear c7
                  try clear c7b0
                  try clear c7b1
                  try clear c12
                  try clear c12b0
                  try clear c18
                  try clear c20
                  try clear c20b0
                  try clear c20b1
                  try clear c21
                  try clear c21b0
                  try clear c22
                  try clear c24
                  try clear c24b0
                  try clear c25
                  try clear c27
                  try clear c28
                  try clear c31
                  try clear c33
                  try clear c36
                  try clear c43
                  try clear c45
                  try clear c45b0
                  try clear c45b1
                  try clear c46
                  try clear c47
                  try clear c50
                  try clear c52
                  try clear c52b0
                  try clear c54
                  try clear c54b0
                  try clear c54b1
                  try clear c55
                  try clear c56
                  try clear c57
                  try clear c60
                  try clear hcz10_0
                  try clear hcz10_1
                  try clear hcz10_10
                  try clear hcz10_2
                  try clear hcz10_3
                  try clear hcz10_4
                  try clear hcz10_5
                  try clear hcz10_6
                  try clear hcz10_7
                  try clear hcz10_8
                  try clear hcz10_9
                  try clear hcz15_0
                  try clear hcz15_1
                  try clear hcz15_10
                  try clear hcz15_2
                  try clear hcz15_3
                  try clear hcz15_4
                  try clear hcz15_5
                  try clear hcz15_6
                  try clear hcz15_7
                  try clear hcz15_8
                  try clear hcz15_9
                  try clear hcz19_0
                  try clear hcz19_1
                  try clear hcz23_0
                  try clear hcz23_1
                  try clear hcz26_0
                  try clear hcz26_1
                  try clear hcz29_0
                  try clear hcz29_1
                  try clear hcz30_0
                  try clear hcz30_1
                  try clear hcz30_10
                  try clear hcz30_2
                  try clear hcz30_3
                  try clear hcz30_4
                  try clear hcz30_5
                  try clear hcz30_6
                  try clear hcz30_7
                  try clear hcz30_8
                  try clear hcz30_9
                  try clear hcz32_0
                  try clear hcz32_1
                  try clear hcz37_0
                  try clear hcz37_1
                  try clear hcz37_10
                  try clear hcz37_2
                  try clear hcz37_3
                  try clear hcz37_4
                  try clear hcz37_5
                  try clear hcz37_6
                  try clear hcz37_7
                  try clear hcz37_8
                  try clear hcz37_9
                  try clear hcz40_0
                  try clear hcz40_1
                  try clear hcz40_10
                  try clear hcz40_2
                  try clear hcz40_3
                  try clear hcz40_4
                  try clear hcz40_5
                  try clear hcz40_6
                  try clear hcz40_7
                  try clear hcz40_8
                  try clear hcz40_9
                  try clear hcz44_0
                  try clear hcz44_1
                  try clear hcz48_0
                  try clear hcz48_1
                  try clear hcz49_0
                  try clear hcz49_1
                  try clear hcz49_10
                  try clear hcz49_2
                  try clear hcz49_3
                  try clear hcz49_4
                  try clear hcz49_5
                  try clear hcz49_6
                  try clear hcz49_7
                  try clear hcz49_8
                  try clear hcz49_9
                  try clear hcz58_0
                  try clear hcz58_1
                  try clear hcz58_10
                  try clear hcz58_2
                  try clear hcz58_3
                  try clear hcz58_4
                  try clear hcz58_5
                  try clear hcz58_6
                  try clear hcz58_7
                  try clear hcz58_8
                  try clear hcz58_9
                  try clear hcz61_0
                  try clear hcz61_1
                  try clear hcz61_10
                  try clear hcz61_2
                  try clear hcz61_3
                  try clear hcz61_4
                  try clear hcz61_5
                  try clear hcz61_6
                  try clear hcz61_7
                  try clear hcz61_8
                  try clear hcz61_9
                  try clear hfz10_0
                  try clear hfz10_1
                  try clear hfz10_10
                  try clear hfz10_2
                  try clear hfz10_3
                  try clear hfz10_4
                  try clear hfz10_5
                  try clear hfz10_6
                  try clear hfz10_7
                  try clear hfz10_8
                  try clear hfz10_9
                  try clear hfz15_0
                  try clear hfz15_1
                  try clear hfz15_10
                  try clear hfz15_2
                  try clear hfz15_3
                  try clear hfz15_4
                  try clear hfz15_5
                  try clear hfz15_6
                  try clear hfz15_7
                  try clear hfz15_8
                  try clear hfz15_9
                  try clear hfz19_0
                  try clear hfz19_1
                  try clear hfz23_0
                  try clear hfz23_1
                  try clear hfz26_0
                  try clear hfz26_1
                  try clear hfz29_0
                  try clear hfz29_1
                  try clear hfz30_0
                  try clear hfz30_1
                  try clear hfz30_10
                  try clear hfz30_2
                  try clear hfz30_3
                  try clear hfz30_4
                  try clear hfz30_5
                  try clear hfz30_6
                  try clear hfz30_7
                  try clear hfz30_8
                  try clear hfz30_9
                  try clear hfz32_0
                  try clear hfz32_1
                  try clear hfz37_0
                  try clear hfz37_1
                  try clear hfz37_10
                  try clear hfz37_2
                  try clear hfz37_3
                  try clear hfz37_4
                  try clear hfz37_5
                  try clear hfz37_6
                  try clear hfz37_7
                  try clear hfz37_8
                  try clear hfz37_9
                  try clear hfz40_0
                  try clear hfz40_1
                  try clear hfz40_10
                  try clear hfz40_2
                  try clear hfz40_3
                  try clear hfz40_4
                  try clear hfz40_5
                  try clear hfz40_6
                  try clear hfz40_7
                  try clear hfz40_8
                  try clear hfz40_9
                  try clear hfz44_0
                  try clear hfz44_1
                  try clear hfz48_0
                  try clear hfz48_1
                  try clear hfz49_0
                  try clear hfz49_1
                  try clear hfz49_10
                  try clear hfz49_2
                  try clear hfz49_3
                  try clear hfz49_4
                  try clear hfz49_5
                  try clear hfz49_6
                  try clear hfz49_7
                  try clear hfz49_8
                  try clear hfz49_9
                  try clear hfz58_0
                  try clear hfz58_1
                  try clear hfz58_10
                  try clear hfz58_2
                  try clear hfz58_3
                  try clear hfz58_4
                  try clear hfz58_5
                  try clear hfz58_6
                  try clear hfz58_7
                  try clear hfz58_8
                  try clear hfz58_9
                  try clear hfz61_0
                  try clear hfz61_1
                  try clear hfz61_10
                  try clear hfz61_2
                  try clear hfz61_3
                  try clear hfz61_4
                  try clear hfz61_5
                  try clear hfz61_6
                  try clear hfz61_7
                  try clear hfz61_8
                  try clear hfz61_9
                  try clear p2
                  try clear p6
                  obtain ⟨kq, HA, HJ50, BK176, BK189, HB⟩ := hcut
                  cases kq with
                  | zero => exact absurd HA.out (by simp [potbanklaw01_WareStands.j3])
                  | succ kj50 =>
                    have H := HA.out
                    clear HA
                    simp only [potbanklaw01_WareStands.j3] at H
                    replace H := Option.bind_eq_some_iff.mp H
                    obtain ⟨t192, A630, H⟩ := H
                    replace H : ((potbankref01_Mod.f t192 4000).bind fun t193 => ((ware_Most.f t165 t166 t167 t168 t169 t170 t171 t172 t173 t174 t175 t193).bind fun bt194 => (if bt194.2 = 3 then (if t171 > t193 then ((potbanklaw01_sane.f).bind fun t196 => (some t196)) else (none)) else ((ware_Height.f t165 t166 t167 t168 t169 t170 t171 t172 t173 t174 t175 bt194.1).bind fun bt197 => ((ware_Stands.f t165 t166 t167 t168 t169 t170 t171 t172 t173 t174 t175 bt194.1).bind fun bt201 => (if bt194.2 = 0 then (if bt197.2.2 = 0 then (if bt201.2 = 0 then (if bt201.1 = true then (potbanklaw01_WareStands.j4 kj50 t193 bt194.1 (decide (bt197.2.1 > t193)) t165 t166 t167 t168 t169 t170 t171 t172 t173 t174 t175) else (potbanklaw01_WareStands.j4 kj50 t193 bt194.1 true t165 t166 t167 t168 t169 t170 t171 t172 t173 t174 t175)) else (potbanklaw01_WareStands.j4 kj50 t193 bt194.1 true t165 t166 t167 t168 t169 t170 t171 t172 t173 t174 t175)) else (potbanklaw01_WareStands.j4 kj50 t193 bt194.1 true t165 t166 t167 t168 t169 t170 t171 t172 t173 t174 t175)) else (potbanklaw01_WareStands.j4 kj50 t193 bt194.1 true t165 t166 t167 t168 t169 t170 t171 t172 t173 t174 t175))))))) = some r := H
                    have A63 := Aside0.mk A630
                    clear A630
                    replace H := Option.bind_eq_some_iff.mp H
                    obtain ⟨t193, A640, H⟩ := H
                    replace H : ((ware_Most.f t165 t166 t167 t168 t169 t170 t171 t172 t173 t174 t175 t193).bind fun bt194 => (if bt194.2 = 3 then (if t171 > t193 then ((potbanklaw01_sane.f).bind fun t196 => (some t196)) else (none)) else ((ware_Height.f t165 t166 t167 t168 t169 t170 t171 t172 t173 t174 t175 bt194.1).bind fun bt197 => ((ware_Stands.f t165 t166 t167 t168 t169 t170 t171 t172 t173 t174 t175 bt194.1).bind fun bt201 => (if bt194.2 = 0 then (if bt197.2.2 = 0 then (if bt201.2 = 0 then (if bt201.1 = true then (potbanklaw01_WareStands.j4 kj50 t193 bt194.1 (decide (bt197.2.1 > t193)) t165 t166 t167 t168 t169 t170 t171 t172 t173 t174 t175) else (potbanklaw01_WareStands.j4 kj50 t193 bt194.1 true t165 t166 t167 t168 t169 t170 t171 t172 t173 t174 t175)) else (potbanklaw01_WareStands.j4 kj50 t193 bt194.1 true t165 t166 t167 t168 t169 t170 t171 t172 t173 t174 t175)) else (potbanklaw01_WareStands.j4 kj50 t193 bt194.1 true t165 t166 t167 t168 t169 t170 t171 t172 t173 t174 t175)) else (potbanklaw01_WareStands.j4 kj50 t193 bt194.1 true t165 t166 t167 t168 t169 t170 t171 t172 t173 t174 t175)))))) = some r := H
                    have A64 := Aside0.mk A640
                    clear A640
                    replace H := Option.bind_eq_some_iff.mp H
                    obtain ⟨⟨t194, t195⟩, A650, H⟩ := H
                    replace H : (if t195 = 3 then (if t171 > t193 then ((potbanklaw01_sane.f).bind fun t196 => (some t196)) else (none)) else ((ware_Height.f t165 t166 t167 t168 t169 t170 t171 t172 t173 t174 t175 t194).bind fun bt197 => ((ware_Stands.f t165 t166 t167 t168 t169 t170 t171 t172 t173 t174 t175 t194).bind fun bt201 => (if t195 = 0 then (if bt197.2.2 = 0 then (if bt201.2 = 0 then (if bt201.1 = true then (potbanklaw01_WareStands.j4 kj50 t193 t194 (decide (bt197.2.1 > t193)) t165 t166 t167 t168 t169 t170 t171 t172 t173 t174 t175) else (potbanklaw01_WareStands.j4 kj50 t193 t194 true t165 t166 t167 t168 t169 t170 t171 t172 t173 t174 t175)) else (potbanklaw01_WareStands.j4 kj50 t193 t194 true t165 t166 t167 t168 t169 t170 t171 t172 t173 t174 t175)) else (potbanklaw01_WareStands.j4 kj50 t193 t194 true t165 t166 t167 t168 t169 t170 t171 t172 t173 t174 t175)) else (potbanklaw01_WareStands.j4 kj50 t193 t194 true t165 t166 t167 t168 t169 t170 t171 t172 t173 t174 t175))))) = some r := H
                    have A65 := Aside0.mk A650
                    clear A650
                    by_cases c66 : t195 = 3
                    · rw [if_pos c66] at H
                      have c66b0 : (t195 == 3) = true := beq_iff_eq.mpr c66
                      have c66b1 : (t195 != 3) = false := bne_eq_false_iff_eq.mpr c66
                      clear c66
                      by_cases c67 : t171 > t193
                      · rw [if_pos c67] at H
                        have c67b0 : decide (t193 < t171) = true := decide_eq_true c67
                        clear c67
                        replace H := Option.bind_eq_some_iff.mp H
                        obtain ⟨t196, A680, H⟩ := H
                        replace H : (some t196) = some r := H
                        have A68 := Aside0.mk A680
                        clear A680
                        as_aux_lemma =>
                          obtain rfl := Option.some.inj H
                          go_wp2_with (first | (go_at_call 22; (with_reducible refine (potbankref01_At.calls _ _ l2 0 t192 _ ?side1 ?side2 A63.out).mono ?_); (case side1 => repeat (first | exact (Kd.C_below HR2.out HB.out) | (with_reducible refine Kd.C_alloc ?_ _) | (with_reducible refine Kd.C_drewN ?_ _) | (with_reducible refine Kd.C_drew ?_))); (case side2 => exact HC2.out); rintro e w' ⟨rfl, ⟨nd, rfl⟩⟩; (try first | exact ⟨rfl, _, World.drewN_drewN _ _ _⟩ | exact ⟨rfl, _, Eq.trans (World.drewN_drewN _ _ _) (congrArg (World.drewN _) (Nat.add_assoc _ _ _))⟩)) | (go_at_call 21; (with_reducible refine (potbankref01_Mod.calls t192 4000 t193 _ A64.out).mono ?_); rintro e w' ⟨rfl, ⟨nd, rfl⟩⟩; (try first | exact ⟨rfl, _, World.drewN_drewN _ _ _⟩ | exact ⟨rfl, _, Eq.trans (World.drewN_drewN _ _ _) (congrArg (World.drewN _) (Nat.add_assoc _ _ _))⟩); have hnb69 := NB176_189.out; have hnc69 := NB189_176.out; obtain ⟨hcz70_0, hcz70_1, hcz70_2, hcz70_3, hcz70_4, hcz70_5, hcz70_6, hcz70_7, hcz70_8, hcz70_9, hcz70_10⟩ := cells11 BK176.out; obtain ⟨hfz70_0, hfz70_1, hfz70_2, hfz70_3, hfz70_4, hfz70_5, hfz70_6, hfz70_7, hfz70_8, hfz70_9, hfz70_10⟩ := froz11 BK176.out) | (go_at_call 17; (with_reducible refine (ware_Most.calls t165 t166 t167 t168 t169 t170 t171 t172 t173 t174 t175 t193 t194 t195 _ A65.out).mono ?_); rintro e w71 ⟨rfl, hb⟩; replace BK176 := blkE BK176 hb; replace BK189 := blkE BK189 hb; replace HB := Aside0.mk (below_step (by repeat (first | (with_reducible first | exact HB.out | apply below_alloc | apply pw_below_drewN | apply below_drew1 | refine below_set ?_ GE176.out | refine below_set ?_ GE189.out) | exact HB.out)) hb); (try clear hb); (try clear hb2); (try clear hk); (try clear hi); obtain ⟨hcz72_0, hcz72_1, hcz72_2, hcz72_3, hcz72_4, hcz72_5, hcz72_6, hcz72_7, hcz72_8, hcz72_9, hcz72_10⟩ := cells11 BK176.out; obtain ⟨hfz72_0, hfz72_1, hfz72_2, hfz72_3, hfz72_4, hfz72_5, hfz72_6, hfz72_7, hfz72_8, hfz72_9, hfz72_10⟩ := froz11 BK176.out) | (go_at_call 19; (with_reducible refine (potbanklaw01_sane.calls  t196 _ A68.out).mono ?_); rintro e w73 ⟨rfl, hb⟩; replace BK176 := blkE BK176 hb; replace BK189 := blkE BK189 hb; replace HB := Aside0.mk (below_step (by repeat (first | (with_reducible first | exact HB.out | apply below_alloc | apply pw_below_drewN | apply below_drew1 | refine below_set ?_ GE176.out | refine below_set ?_ GE189.out) | exact HB.out)) hb); (try clear hb); (try clear hb2); (try clear hk); (try clear hi)))
                          repeat (go_quiet (first | (go_at_call 22; (with_reducible refine (potbankref01_At.calls _ _ l2 0 t192 _ ?side1 ?side2 A63.out).mono ?_); (case side1 => repeat (first | exact (Kd.C_below HR2.out HB.out) | (with_reducible refine Kd.C_alloc ?_ _) | (with_reducible refine Kd.C_drewN ?_ _) | (with_reducible refine Kd.C_drew ?_))); (case side2 => exact HC2.out); rintro e w' ⟨rfl, ⟨nd, rfl⟩⟩; (try first | exact ⟨rfl, _, World.drewN_drewN _ _ _⟩ | exact ⟨rfl, _, Eq.trans (World.drewN_drewN _ _ _) (congrArg (World.drewN _) (Nat.add_assoc _ _ _))⟩)) | (go_at_call 21; (with_reducible refine (potbankref01_Mod.calls t192 4000 t193 _ A64.out).mono ?_); rintro e w' ⟨rfl, ⟨nd, rfl⟩⟩; (try first | exact ⟨rfl, _, World.drewN_drewN _ _ _⟩ | exact ⟨rfl, _, Eq.trans (World.drewN_drewN _ _ _) (congrArg (World.drewN _) (Nat.add_assoc _ _ _))⟩); have hnb69 := NB176_189.out; have hnc69 := NB189_176.out; obtain ⟨hcz70_0, hcz70_1, hcz70_2, hcz70_3, hcz70_4, hcz70_5, hcz70_6, hcz70_7, hcz70_8, hcz70_9, hcz70_10⟩ := cells11 BK176.out; obtain ⟨hfz70_0, hfz70_1, hfz70_2, hfz70_3, hfz70_4, hfz70_5, hfz70_6, hfz70_7, hfz70_8, hfz70_9, hfz70_10⟩ := froz11 BK176.out) | (go_at_call 17; (with_reducible refine (ware_Most.calls t165 t166 t167 t168 t169 t170 t171 t172 t173 t174 t175 t193 t194 t195 _ A65.out).mono ?_); rintro e w71 ⟨rfl, hb⟩; replace BK176 := blkE BK176 hb; replace BK189 := blkE BK189 hb; replace HB := Aside0.mk (below_step (by repeat (first | (with_reducible first | exact HB.out | apply below_alloc | apply pw_below_drewN | apply below_drew1 | refine below_set ?_ GE176.out | refine below_set ?_ GE189.out) | exact HB.out)) hb); (try clear hb); (try clear hb2); (try clear hk); (try clear hi); obtain ⟨hcz72_0, hcz72_1, hcz72_2, hcz72_3, hcz72_4, hcz72_5, hcz72_6, hcz72_7, hcz72_8, hcz72_9, hcz72_10⟩ := cells11 BK176.out; obtain ⟨hfz72_0, hfz72_1, hfz72_2, hfz72_3, hfz72_4, hfz72_5, hfz72_6, hfz72_7, hfz72_8, hfz72_9, hfz72_10⟩ := froz11 BK176.out) | (go_at_call 19; (with_reducible refine (potbanklaw01_sane.calls  t196 _ A68.out).mono ?_); rintro e w73 ⟨rfl, hb⟩; replace BK176 := blkE BK176 hb; replace BK189 := blkE BK189 hb; replace HB := Aside0.mk (below_step (by repeat (first | (with_reducible first | exact HB.out | apply below_alloc | apply pw_below_drewN | apply below_drew1 | refine below_set ?_ GE176.out | refine below_set ?_ GE189.out) | exact HB.out)) hb); (try clear hb); (try clear hb2); (try clear hk); (try clear hi))); try go_wp2_with (first | (go_at_call 22; (with_reducible refine (potbankref01_At.calls _ _ l2 0 t192 _ ?side1 ?side2 A63.out).mono ?_); (case side1 => repeat (first | exact (Kd.C_below HR2.out HB.out) | (with_reducible refine Kd.C_alloc ?_ _) | (with_reducible refine Kd.C_drewN ?_ _) | (with_reducible refine Kd.C_drew ?_))); (case side2 => exact HC2.out); rintro e w' ⟨rfl, ⟨nd, rfl⟩⟩; (try first | exact ⟨rfl, _, World.drewN_drewN _ _ _⟩ | exact ⟨rfl, _, Eq.trans (World.drewN_drewN _ _ _) (congrArg (World.drewN _) (Nat.add_assoc _ _ _))⟩)) | (go_at_call 21; (with_reducible refine (potbankref01_Mod.calls t192 4000 t193 _ A64.out).mono ?_); rintro e w' ⟨rfl, ⟨nd, rfl⟩⟩; (try first | exact ⟨rfl, _, World.drewN_drewN _ _ _⟩ | exact ⟨rfl, _, Eq.trans (World.drewN_drewN _ _ _) (congrArg (World.drewN _) (Nat.add_assoc _ _ _))⟩); have hnb69 := NB176_189.out; have hnc69 := NB189_176.out; obtain ⟨hcz70_0, hcz70_1, hcz70_2, hcz70_3, hcz70_4, hcz70_5, hcz70_6, hcz70_7, hcz70_8, hcz70_9, hcz70_10⟩ := cells11 BK176.out; obtain ⟨hfz70_0, hfz70_1, hfz70_2, hfz70_3, hfz70_4, hfz70_5, hfz70_6, hfz70_7, hfz70_8, hfz70_9, hfz70_10⟩ := froz11 BK176.out) | (go_at_call 17; (with_reducible refine (ware_Most.calls t165 t166 t167 t168 t169 t170 t171 t172 t173 t174 t175 t193 t194 t195 _ A65.out).mono ?_); rintro e w71 ⟨rfl, hb⟩; replace BK176 := blkE BK176 hb; replace BK189 := blkE BK189 hb; replace HB := Aside0.mk (below_step (by repeat (first | (with_reducible first | exact HB.out | apply below_alloc | apply pw_below_drewN | apply below_drew1 | refine below_set ?_ GE176.out | refine below_set ?_ GE189.out) | exact HB.out)) hb); (try clear hb); (try clear hb2); (try clear hk); (try clear hi); obtain ⟨hcz72_0, hcz72_1, hcz72_2, hcz72_3, hcz72_4, hcz72_5, hcz72_6, hcz72_7, hcz72_8, hcz72_9, hcz72_10⟩ := cells11 BK176.out; obtain ⟨hfz72_0, hfz72_1, hfz72_2, hfz72_3, hfz72_4, hfz72_5, hfz72_6, hfz72_7, hfz72_8, hfz72_9, hfz72_10⟩ := froz11 BK176.out) | (go_at_call 19; (with_reducible refine (potbanklaw01_sane.calls  t196 _ A68.out).mono ?_); rintro e w73 ⟨rfl, hb⟩; replace BK176 := blkE BK176 hb; replace BK189 := blkE BK189 hb; replace HB := Aside0.mk (below_step (by repeat (first | (with_reducible first | exact HB.out | apply below_alloc | apply pw_below_drewN | apply below_drew1 | refine below_set ?_ GE176.out | refine below_set ?_ GE189.out) | exact HB.out)) hb); (try clear hb); (try clear hb2); (try clear hk); (try clear hi))))
                          go_ret
                          exact ⟨by first | rfl | (simp [errW_none, errW_some] <;> rfl) | (simp [*, errW_none, errW_some] <;> rfl), by repeat (first | (with_reducible first | exact HB.out | apply below_alloc | apply pw_below_drewN | apply below_drew1 | refine below_set ?_ GE176.out | refine below_set ?_ GE189.out) | exact HB.out)⟩
                      · rw [if_neg c67] at H
                        exact absurd H (by simp)
                    · rw [if_neg c66] at H
                      have c66b0 : (t195 == 3) = false := beq_eq_false_iff_ne.mpr c66
                      have c66b1 : (t195 != 3) = true := bne_iff_ne.mpr c66
                      replace H := Option.bind_eq_some_iff.mp H
                      obtain ⟨⟨t197, t198, t199⟩, A740, H⟩ := H
                      replace H : ((ware_Stands.f t165 t166 t167 t168 t169 t170 t171 t172 t173 t174 t175 t194).bind fun bt201 => (if t195 = 0 then (if t199 = 0 then (if bt201.2 = 0 then (if bt201.1 = true then (potbanklaw01_WareStands.j4 kj50 t193 t194 (decide (t198 > t193)) t165 t166 t167 t168 t169 t170 t171 t172 t173 t174 t175) else (potbanklaw01_WareStands.j4 kj50 t193 t194 true t165 t166 t167 t168 t169 t170 t171 t172 t173 t174 t175)) else (potbanklaw01_WareStands.j4 kj50 t193 t194 true t165 t166 t167 t168 t169 t170 t171 t172 t173 t174 t175)) else (potbanklaw01_WareStands.j4 kj50 t193 t194 true t165 t166 t167 t168 t169 t170 t171 t172 t173 t174 t175)) else (potbanklaw01_WareStands.j4 kj50 t193 t194 true t165 t166 t167 t168 t169 t170 t171 t172 t173 t174 t175))) = some r := H
                      have A74 := Aside0.mk A740
                      clear A740
                      replace H := Option.bind_eq_some_iff.mp H
                      obtain ⟨⟨t201, t202⟩, A750, H⟩ := H
                      replace H : (if t195 = 0 then (if t199 = 0 then (if t202 = 0 then (if t201 = true then (potbanklaw01_WareStands.j4 kj50 t193 t194 (decide (t198 > t193)) t165 t166 t167 t168 t169 t170 t171 t172 t173 t174 t175) else (potbanklaw01_WareStands.j4 kj50 t193 t194 true t165 t166 t167 t168 t169 t170 t171 t172 t173 t174 t175)) else (potbanklaw01_WareStands.j4 kj50 t193 t194 true t165 t166 t167 t168 t169 t170 t171 t172 t173 t174 t175)) else (potbanklaw01_WareStands.j4 kj50 t193 t194 true t165 t166 t167 t168 t169 t170 t171 t172 t173 t174 t175)) else (potbanklaw01_WareStands.j4 kj50 t193 t194 true t165 t166 t167 t168 t169 t170 t171 t172 t173 t174 t175)) = some r := H
                      have A75 := Aside0.mk A750
                      clear A750
                      have HC76 := Aside0.mk H
                      clear H
                      go_upto_region 27 with (first | (go_at_call 22; (with_reducible refine (potbankref01_At.calls _ _ l2 0 t192 _ ?side1 ?side2 A63.out).mono ?_); (case side1 => repeat (first | exact (Kd.C_below HR2.out HB.out) | (with_reducible refine Kd.C_alloc ?_ _) | (with_reducible refine Kd.C_drewN ?_ _) | (with_reducible refine Kd.C_drew ?_))); (case side2 => exact HC2.out); rintro e w' ⟨rfl, ⟨nd, rfl⟩⟩; (try first | exact ⟨rfl, _, World.drewN_drewN _ _ _⟩ | exact ⟨rfl, _, Eq.trans (World.drewN_drewN _ _ _) (congrArg (World.drewN _) (Nat.add_assoc _ _ _))⟩)) | (go_at_call 21; (with_reducible refine (potbankref01_Mod.calls t192 4000 t193 _ A64.out).mono ?_); rintro e w' ⟨rfl, ⟨nd, rfl⟩⟩; (try first | exact ⟨rfl, _, World.drewN_drewN _ _ _⟩ | exact ⟨rfl, _, Eq.trans (World.drewN_drewN _ _ _) (congrArg (World.drewN _) (Nat.add_assoc _ _ _))⟩); have hnb77 := NB176_189.out; have hnc77 := NB189_176.out; obtain ⟨hcz78_0, hcz78_1, hcz78_2, hcz78_3, hcz78_4, hcz78_5, hcz78_6, hcz78_7, hcz78_8, hcz78_9, hcz78_10⟩ := cells11 BK176.out; obtain ⟨hfz78_0, hfz78_1, hfz78_2, hfz78_3, hfz78_4, hfz78_5, hfz78_6, hfz78_7, hfz78_8, hfz78_9, hfz78_10⟩ := froz11 BK176.out) | (go_at_call 17; (with_reducible refine (ware_Most.calls t165 t166 t167 t168 t169 t170 t171 t172 t173 t174 t175 t193 t194 t195 _ A65.out).mono ?_); rintro e w79 ⟨rfl, hb⟩; replace BK176 := blkE BK176 hb; replace BK189 := blkE BK189 hb; replace HB := Aside0.mk (below_step (by repeat (first | (with_reducible first | exact HB.out | apply below_alloc | apply pw_below_drewN | apply below_drew1 | refine below_set ?_ GE176.out | refine below_set ?_ GE189.out) | exact HB.out)) hb); (try clear hb); (try clear hb2); (try clear hk); (try clear hi); obtain ⟨hcz80_0, hcz80_1, hcz80_2, hcz80_3, hcz80_4, hcz80_5, hcz80_6, hcz80_7, hcz80_8, hcz80_9, hcz80_10⟩ := cells11 BK176.out; obtain ⟨hfz80_0, hfz80_1, hfz80_2, hfz80_3, hfz80_4, hfz80_5, hfz80_6, hfz80_7, hfz80_8, hfz80_9, hfz80_10⟩ := froz11 BK176.out) | (go_at_call 11; (with_reducible refine (ware_Height.calls t165 t166 t167 t168 t169 t170 t171 t172 t173 t174 t175 t194 t197 t198 t199 _ A74.out).mono ?_); rintro e w81 ⟨rfl, hb⟩; replace BK176 := blkE BK176 hb; replace BK189 := blkE BK189 hb; replace HB := Aside0.mk (below_step (by repeat (first | (with_reducible first | exact HB.out | apply below_alloc | apply pw_below_drewN | apply below_drew1 | refine below_set ?_ GE176.out | refine below_set ?_ GE189.out) | exact HB.out)) hb); (try clear hb); (try clear hb2); (try clear hk); (try clear hi)) | ((with_reducible refine gate_dst (N := 21) rfl ?_); refine box_event ?hg (N := 21) ?hd (cs := #[.int .i64 0, .int .i64 0]) (t := 23) ?hr ?_; (case hd => rfl); (case hg => rfl); (case hr => first | (go_simp; done) | (go_simp; rfl)); intro gb200 hg w82 hbox hb; have BK200 := Aside0.mk (hbox); have GW200 := Aside0.mk ((by rw [hg]; exact (below_size (by repeat (first | (with_reducible first | exact HB.out | apply below_alloc | apply pw_below_drewN | apply below_drew1 | refine below_set ?_ GE176.out | refine below_set ?_ GE189.out) | exact HB.out))) : w.heap.size ≤ gb200)); have GE200 := Aside0.mk ((by rw [hg]; exact (below_size (by repeat (first | (with_reducible first | exact HB.out | apply below_alloc | apply pw_below_drewN | apply below_drew1 | refine below_set ?_ GE176.out | refine below_set ?_ GE189.out) | exact HB.out))) : w.heap.size ≤ gb200)); replace HB := Aside0.mk (below_step (by repeat (first | (with_reducible first | exact HB.out | apply below_alloc | apply pw_below_drewN | apply below_drew1 | refine below_set ?_ GE176.out | refine below_set ?_ GE189.out) | exact HB.out)) hb); have NB176_200 := Aside0.mk ((by rw [hg]; exact Nat.ne_of_lt (blk_lt (g := gb176) (o := .cells #[.int .i64 t165, .int .i64 t166, .int .i64 t167, .int .i64 t168, .int .i64 t169, .int .i64 t170, .int .i64 t171, .int .i64 t172, .int .i64 t173, .int .i64 t174, .int .i64 t175] 25 (0, 0)) (by (with_reducible repeat first | apply blk_drewN | apply blk_drew | apply blk_alloc); exact BK176.out)) : gb176 ≠ gb200)); have NB200_176 := Aside0.mk ((by rw [hg]; exact Nat.ne_of_gt (blk_lt (g := gb176) (o := .cells #[.int .i64 t165, .int .i64 t166, .int .i64 t167, .int .i64 t168, .int .i64 t169, .int .i64 t170, .int .i64 t171, .int .i64 t172, .int .i64 t173, .int .i64 t174, .int .i64 t175] 25 (0, 0)) (by (with_reducible repeat first | apply blk_drewN | apply blk_drew | apply blk_alloc); exact BK176.out)) : gb200 ≠ gb176)); replace BK176 := blkE BK176 hb; have NB189_200 := Aside0.mk ((by rw [hg]; exact Nat.ne_of_lt (blk_lt (g := gb189) (o := .cells #[.int .i64 t186, .int .i64 t187] 23 (0, 0)) (by (with_reducible repeat first | apply blk_drewN | apply blk_drew | apply blk_alloc); exact BK189.out)) : gb189 ≠ gb200)); have NB200_189 := Aside0.mk ((by rw [hg]; exact Nat.ne_of_gt (blk_lt (g := gb189) (o := .cells #[.int .i64 t186, .int .i64 t187] 23 (0, 0)) (by (with_reducible repeat first | apply blk_drewN | apply blk_drew | apply blk_alloc); exact BK189.out)) : gb200 ≠ gb189)); replace BK189 := blkE BK189 hb; clear hb hbox hg; have hnb83 := NB200_176.out; have hnc83 := NB176_200.out; have hnb84 := NB200_189.out; have hnc84 := NB189_200.out; obtain ⟨hcz85_0, hcz85_1⟩ := cells2 BK200.out; obtain ⟨hfz85_0, hfz85_1⟩ := froz2 BK200.out; obtain ⟨hcz86_0, hcz86_1, hcz86_2, hcz86_3, hcz86_4, hcz86_5, hcz86_6, hcz86_7, hcz86_8, hcz86_9, hcz86_10⟩ := cells11 BK176.out; obtain ⟨hfz86_0, hfz86_1, hfz86_2, hfz86_3, hfz86_4, hfz86_5, hfz86_6, hfz86_7, hfz86_8, hfz86_9, hfz86_10⟩ := froz11 BK176.out) | (go_at_call 15; (with_reducible refine (ware_Stands.calls t165 t166 t167 t168 t169 t170 t171 t172 t173 t174 t175 t194 t201 t202 _ A75.out).mono ?_); rintro e w87 ⟨rfl, hb⟩; replace BK176 := Aside0.mk (blk_below (g := gb176) (o := .cells #[.int .i64 t165, .int .i64 t166, .int .i64 t167, .int .i64 t168, .int .i64 t169, .int .i64 t170, .int .i64 t171, .int .i64 t172, .int .i64 t173, .int .i64 t174, .int .i64 t175] 25 (0, 0)) (by (with_reducible repeat first | apply blk_drewN | apply blk_drew | apply blk_alloc); refine blk_far ?_ NB176_200.out _; (with_reducible repeat first | apply blk_drewN | apply blk_drew | apply blk_alloc); refine blk_far ?_ NB176_200.out _; (with_reducible repeat first | apply blk_drewN | apply blk_drew | apply blk_alloc); exact BK176.out) hb); replace BK189 := Aside0.mk (blk_below (g := gb189) (o := .cells #[.int .i64 t186, .int .i64 t187] 23 (0, 0)) (by (with_reducible repeat first | apply blk_drewN | apply blk_drew | apply blk_alloc); refine blk_far ?_ NB189_200.out _; (with_reducible repeat first | apply blk_drewN | apply blk_drew | apply blk_alloc); refine blk_far ?_ NB189_200.out _; (with_reducible repeat first | apply blk_drewN | apply blk_drew | apply blk_alloc); exact BK189.out) hb); replace BK200 := Aside0.mk (blk_below (g := gb200) (o := .cells #[.int .i64 t197, .int .i64 t198] 23 (0, 0)) (by (with_reducible repeat first | apply blk_drewN | apply blk_drew | apply blk_alloc); refine blk_put (cs := #[.int .i64 t197, .int .i64 0]) ?_ 1 _ rfl; (with_reducible repeat first | apply blk_drewN | apply blk_drew | apply blk_alloc); refine blk_put (cs := #[.int .i64 0, .int .i64 0]) ?_ 0 _ rfl; (with_reducible repeat first | apply blk_drewN | apply blk_drew | apply blk_alloc); exact BK200.out) hb); replace HB := Aside0.mk (below_step (by repeat (first | (with_reducible first | exact HB.out | apply below_alloc | apply pw_below_drewN | apply below_drew1 | refine below_set ?_ GE176.out | refine below_set ?_ GE189.out | refine below_set ?_ GE200.out) | exact HB.out)) hb); (try clear hb); (try clear hb2); (try clear hk); (try clear hi)))
                      repeat (go_quiet (first | (go_at_call 22; (with_reducible refine (potbankref01_At.calls _ _ l2 0 t192 _ ?side1 ?side2 A63.out).mono ?_); (case side1 => repeat (first | exact (Kd.C_below HR2.out HB.out) | (with_reducible refine Kd.C_alloc ?_ _) | (with_reducible refine Kd.C_drewN ?_ _) | (with_reducible refine Kd.C_drew ?_))); (case side2 => exact HC2.out); rintro e w' ⟨rfl, ⟨nd, rfl⟩⟩; (try first | exact ⟨rfl, _, World.drewN_drewN _ _ _⟩ | exact ⟨rfl, _, Eq.trans (World.drewN_drewN _ _ _) (congrArg (World.drewN _) (Nat.add_assoc _ _ _))⟩)) | (go_at_call 21; (with_reducible refine (potbankref01_Mod.calls t192 4000 t193 _ A64.out).mono ?_); rintro e w' ⟨rfl, ⟨nd, rfl⟩⟩; (try first | exact ⟨rfl, _, World.drewN_drewN _ _ _⟩ | exact ⟨rfl, _, Eq.trans (World.drewN_drewN _ _ _) (congrArg (World.drewN _) (Nat.add_assoc _ _ _))⟩); have hnb77 := NB176_189.out; have hnc77 := NB189_176.out; obtain ⟨hcz78_0, hcz78_1, hcz78_2, hcz78_3, hcz78_4, hcz78_5, hcz78_6, hcz78_7, hcz78_8, hcz78_9, hcz78_10⟩ := cells11 BK176.out; obtain ⟨hfz78_0, hfz78_1, hfz78_2, hfz78_3, hfz78_4, hfz78_5, hfz78_6, hfz78_7, hfz78_8, hfz78_9, hfz78_10⟩ := froz11 BK176.out) | (go_at_call 17; (with_reducible refine (ware_Most.calls t165 t166 t167 t168 t169 t170 t171 t172 t173 t174 t175 t193 t194 t195 _ A65.out).mono ?_); rintro e w79 ⟨rfl, hb⟩; replace BK176 := blkE BK176 hb; replace BK189 := blkE BK189 hb; replace HB := Aside0.mk (below_step (by repeat (first | (with_reducible first | exact HB.out | apply below_alloc | apply pw_below_drewN | apply below_drew1 | refine below_set ?_ GE176.out | refine below_set ?_ GE189.out) | exact HB.out)) hb); (try clear hb); (try clear hb2); (try clear hk); (try clear hi); obtain ⟨hcz80_0, hcz80_1, hcz80_2, hcz80_3, hcz80_4, hcz80_5, hcz80_6, hcz80_7, hcz80_8, hcz80_9, hcz80_10⟩ := cells11 BK176.out; obtain ⟨hfz80_0, hfz80_1, hfz80_2, hfz80_3, hfz80_4, hfz80_5, hfz80_6, hfz80_7, hfz80_8, hfz80_9, hfz80_10⟩ := froz11 BK176.out) | (go_at_call 11; (with_reducible refine (ware_Height.calls t165 t166 t167 t168 t169 t170 t171 t172 t173 t174 t175 t194 t197 t198 t199 _ A74.out).mono ?_); rintro e w81 ⟨rfl, hb⟩; replace BK176 := blkE BK176 hb; replace BK189 := blkE BK189 hb; replace HB := Aside0.mk (below_step (by repeat (first | (with_reducible first | exact HB.out | apply below_alloc | apply pw_below_drewN | apply below_drew1 | refine below_set ?_ GE176.out | refine below_set ?_ GE189.out) | exact HB.out)) hb); (try clear hb); (try clear hb2); (try clear hk); (try clear hi)) | ((with_reducible refine gate_dst (N := 21) rfl ?_); refine box_event ?hg (N := 21) ?hd (cs := #[.int .i64 0, .int .i64 0]) (t := 23) ?hr ?_; (case hd => rfl); (case hg => rfl); (case hr => first | (go_simp; done) | (go_simp; rfl)); intro gb200 hg w82 hbox hb; have BK200 := Aside0.mk (hbox); have GW200 := Aside0.mk ((by rw [hg]; exact (below_size (by repeat (first | (with_reducible first | exact HB.out | apply below_alloc | apply pw_below_drewN | apply below_drew1 | refine below_set ?_ GE176.out | refine below_set ?_ GE189.out) | exact HB.out))) : w.heap.size ≤ gb200)); have GE200 := Aside0.mk ((by rw [hg]; exact (below_size (by repeat (first | (with_reducible first | exact HB.out | apply below_alloc | apply pw_below_drewN | apply below_drew1 | refine below_set ?_ GE176.out | refine below_set ?_ GE189.out) | exact HB.out))) : w.heap.size ≤ gb200)); replace HB := Aside0.mk (below_step (by repeat (first | (with_reducible first | exact HB.out | apply below_alloc | apply pw_below_drewN | apply below_drew1 | refine below_set ?_ GE176.out | refine below_set ?_ GE189.out) | exact HB.out)) hb); have NB176_200 := Aside0.mk ((by rw [hg]; exact Nat.ne_of_lt (blk_lt (g := gb176) (o := .cells #[.int .i64 t165, .int .i64 t166, .int .i64 t167, .int .i64 t168, .int .i64 t169, .int .i64 t170, .int .i64 t171, .int .i64 t172, .int .i64 t173, .int .i64 t174, .int .i64 t175] 25 (0, 0)) (by (with_reducible repeat first | apply blk_drewN | apply blk_drew | apply blk_alloc); exact BK176.out)) : gb176 ≠ gb200)); have NB200_176 := Aside0.mk ((by rw [hg]; exact Nat.ne_of_gt (blk_lt (g := gb176) (o := .cells #[.int .i64 t165, .int .i64 t166, .int .i64 t167, .int .i64 t168, .int .i64 t169, .int .i64 t170, .int .i64 t171, .int .i64 t172, .int .i64 t173, .int .i64 t174, .int .i64 t175] 25 (0, 0)) (by (with_reducible repeat first | apply blk_drewN | apply blk_drew | apply blk_alloc); exact BK176.out)) : gb200 ≠ gb176)); replace BK176 := blkE BK176 hb; have NB189_200 := Aside0.mk ((by rw [hg]; exact Nat.ne_of_lt (blk_lt (g := gb189) (o := .cells #[.int .i64 t186, .int .i64 t187] 23 (0, 0)) (by (with_reducible repeat first | apply blk_drewN | apply blk_drew | apply blk_alloc); exact BK189.out)) : gb189 ≠ gb200)); have NB200_189 := Aside0.mk ((by rw [hg]; exact Nat.ne_of_gt (blk_lt (g := gb189) (o := .cells #[.int .i64 t186, .int .i64 t187] 23 (0, 0)) (by (with_reducible repeat first | apply blk_drewN | apply blk_drew | apply blk_alloc); exact BK189.out)) : gb200 ≠ gb189)); replace BK189 := blkE BK189 hb; clear hb hbox hg; have hnb83 := NB200_176.out; have hnc83 := NB176_200.out; have hnb84 := NB200_189.out; have hnc84 := NB189_200.out; obtain ⟨hcz85_0, hcz85_1⟩ := cells2 BK200.out; obtain ⟨hfz85_0, hfz85_1⟩ := froz2 BK200.out; obtain ⟨hcz86_0, hcz86_1, hcz86_2, hcz86_3, hcz86_4, hcz86_5, hcz86_6, hcz86_7, hcz86_8, hcz86_9, hcz86_10⟩ := cells11 BK176.out; obtain ⟨hfz86_0, hfz86_1, hfz86_2, hfz86_3, hfz86_4, hfz86_5, hfz86_6, hfz86_7, hfz86_8, hfz86_9, hfz86_10⟩ := froz11 BK176.out) | (go_at_call 15; (with_reducible refine (ware_Stands.calls t165 t166 t167 t168 t169 t170 t171 t172 t173 t174 t175 t194 t201 t202 _ A75.out).mono ?_); rintro e w87 ⟨rfl, hb⟩; replace BK176 := Aside0.mk (blk_below (g := gb176) (o := .cells #[.int .i64 t165, .int .i64 t166, .int .i64 t167, .int .i64 t168, .int .i64 t169, .int .i64 t170, .int .i64 t171, .int .i64 t172, .int .i64 t173, .int .i64 t174, .int .i64 t175] 25 (0, 0)) (by (with_reducible repeat first | apply blk_drewN | apply blk_drew | apply blk_alloc); refine blk_far ?_ NB176_200.out _; (with_reducible repeat first | apply blk_drewN | apply blk_drew | apply blk_alloc); refine blk_far ?_ NB176_200.out _; (with_reducible repeat first | apply blk_drewN | apply blk_drew | apply blk_alloc); exact BK176.out) hb); replace BK189 := Aside0.mk (blk_below (g := gb189) (o := .cells #[.int .i64 t186, .int .i64 t187] 23 (0, 0)) (by (with_reducible repeat first | apply blk_drewN | apply blk_drew | apply blk_alloc); refine blk_far ?_ NB189_200.out _; (with_reducible repeat first | apply blk_drewN | apply blk_drew | apply blk_alloc); refine blk_far ?_ NB189_200.out _; (with_reducible repeat first | apply blk_drewN | apply blk_drew | apply blk_alloc); exact BK189.out) hb); replace BK200 := Aside0.mk (blk_below (g := gb200) (o := .cells #[.int .i64 t197, .int .i64 t198] 23 (0, 0)) (by (with_reducible repeat first | apply blk_drewN | apply blk_drew | apply blk_alloc); refine blk_put (cs := #[.int .i64 t197, .int .i64 0]) ?_ 1 _ rfl; (with_reducible repeat first | apply blk_drewN | apply blk_drew | apply blk_alloc); refine blk_put (cs := #[.int .i64 0, .int .i64 0]) ?_ 0 _ rfl; (with_reducible repeat first | apply blk_drewN | apply blk_drew | apply blk_alloc); exact BK200.out) hb); replace HB := Aside0.mk (below_step (by repeat (first | (with_reducible first | exact HB.out | apply below_alloc | apply pw_below_drewN | apply below_drew1 | refine below_set ?_ GE176.out | refine below_set ?_ GE189.out | refine below_set ?_ GE200.out) | exact HB.out)) hb); (try clear hb); (try clear hb2); (try clear hk); (try clear hi))); go_upto_region 27 with (first | (go_at_call 22; (with_reducible refine (potbankref01_At.calls _ _ l2 0 t192 _ ?side1 ?side2 A63.out).mono ?_); (case side1 => repeat (first | exact (Kd.C_below HR2.out HB.out) | (with_reducible refine Kd.C_alloc ?_ _) | (with_reducible refine Kd.C_drewN ?_ _) | (with_reducible refine Kd.C_drew ?_))); (case side2 => exact HC2.out); rintro e w' ⟨rfl, ⟨nd, rfl⟩⟩; (try first | exact ⟨rfl, _, World.drewN_drewN _ _ _⟩ | exact ⟨rfl, _, Eq.trans (World.drewN_drewN _ _ _) (congrArg (World.drewN _) (Nat.add_assoc _ _ _))⟩)) | (go_at_call 21; (with_reducible refine (potbankref01_Mod.calls t192 4000 t193 _ A64.out).mono ?_); rintro e w' ⟨rfl, ⟨nd, rfl⟩⟩; (try first | exact ⟨rfl, _, World.drewN_drewN _ _ _⟩ | exact ⟨rfl, _, Eq.trans (World.drewN_drewN _ _ _) (congrArg (World.drewN _) (Nat.add_assoc _ _ _))⟩); have hnb77 := NB176_189.out; have hnc77 := NB189_176.out; obtain ⟨hcz78_0, hcz78_1, hcz78_2, hcz78_3, hcz78_4, hcz78_5, hcz78_6, hcz78_7, hcz78_8, hcz78_9, hcz78_10⟩ := cells11 BK176.out; obtain ⟨hfz78_0, hfz78_1, hfz78_2, hfz78_3, hfz78_4, hfz78_5, hfz78_6, hfz78_7, hfz78_8, hfz78_9, hfz78_10⟩ := froz11 BK176.out) | (go_at_call 17; (with_reducible refine (ware_Most.calls t165 t166 t167 t168 t169 t170 t171 t172 t173 t174 t175 t193 t194 t195 _ A65.out).mono ?_); rintro e w79 ⟨rfl, hb⟩; replace BK176 := blkE BK176 hb; replace BK189 := blkE BK189 hb; replace HB := Aside0.mk (below_step (by repeat (first | (with_reducible first | exact HB.out | apply below_alloc | apply pw_below_drewN | apply below_drew1 | refine below_set ?_ GE176.out | refine below_set ?_ GE189.out) | exact HB.out)) hb); (try clear hb); (try clear hb2); (try clear hk); (try clear hi); obtain ⟨hcz80_0, hcz80_1, hcz80_2, hcz80_3, hcz80_4, hcz80_5, hcz80_6, hcz80_7, hcz80_8, hcz80_9, hcz80_10⟩ := cells11 BK176.out; obtain ⟨hfz80_0, hfz80_1, hfz80_2, hfz80_3, hfz80_4, hfz80_5, hfz80_6, hfz80_7, hfz80_8, hfz80_9, hfz80_10⟩ := froz11 BK176.out) | (go_at_call 11; (with_reducible refine (ware_Height.calls t165 t166 t167 t168 t169 t170 t171 t172 t173 t174 t175 t194 t197 t198 t199 _ A74.out).mono ?_); rintro e w81 ⟨rfl, hb⟩; replace BK176 := blkE BK176 hb; replace BK189 := blkE BK189 hb; replace HB := Aside0.mk (below_step (by repeat (first | (with_reducible first | exact HB.out | apply below_alloc | apply pw_below_drewN | apply below_drew1 | refine below_set ?_ GE176.out | refine below_set ?_ GE189.out) | exact HB.out)) hb); (try clear hb); (try clear hb2); (try clear hk); (try clear hi)) | ((with_reducible refine gate_dst (N := 21) rfl ?_); refine box_event ?hg (N := 21) ?hd (cs := #[.int .i64 0, .int .i64 0]) (t := 23) ?hr ?_; (case hd => rfl); (case hg => rfl); (case hr => first | (go_simp; done) | (go_simp; rfl)); intro gb200 hg w82 hbox hb; have BK200 := Aside0.mk (hbox); have GW200 := Aside0.mk ((by rw [hg]; exact (below_size (by repeat (first | (with_reducible first | exact HB.out | apply below_alloc | apply pw_below_drewN | apply below_drew1 | refine below_set ?_ GE176.out | refine below_set ?_ GE189.out) | exact HB.out))) : w.heap.size ≤ gb200)); have GE200 := Aside0.mk ((by rw [hg]; exact (below_size (by repeat (first | (with_reducible first | exact HB.out | apply below_alloc | apply pw_below_drewN | apply below_drew1 | refine below_set ?_ GE176.out | refine below_set ?_ GE189.out) | exact HB.out))) : w.heap.size ≤ gb200)); replace HB := Aside0.mk (below_step (by repeat (first | (with_reducible first | exact HB.out | apply below_alloc | apply pw_below_drewN | apply below_drew1 | refine below_set ?_ GE176.out | refine below_set ?_ GE189.out) | exact HB.out)) hb); have NB176_200 := Aside0.mk ((by rw [hg]; exact Nat.ne_of_lt (blk_lt (g := gb176) (o := .cells #[.int .i64 t165, .int .i64 t166, .int .i64 t167, .int .i64 t168, .int .i64 t169, .int .i64 t170, .int .i64 t171, .int .i64 t172, .int .i64 t173, .int .i64 t174, .int .i64 t175] 25 (0, 0)) (by (with_reducible repeat first | apply blk_drewN | apply blk_drew | apply blk_alloc); exact BK176.out)) : gb176 ≠ gb200)); have NB200_176 := Aside0.mk ((by rw [hg]; exact Nat.ne_of_gt (blk_lt (g := gb176) (o := .cells #[.int .i64 t165, .int .i64 t166, .int .i64 t167, .int .i64 t168, .int .i64 t169, .int .i64 t170, .int .i64 t171, .int .i64 t172, .int .i64 t173, .int .i64 t174, .int .i64 t175] 25 (0, 0)) (by (with_reducible repeat first | apply blk_drewN | apply blk_drew | apply blk_alloc); exact BK176.out)) : gb200 ≠ gb176)); replace BK176 := blkE BK176 hb; have NB189_200 := Aside0.mk ((by rw [hg]; exact Nat.ne_of_lt (blk_lt (g := gb189) (o := .cells #[.int .i64 t186, .int .i64 t187] 23 (0, 0)) (by (with_reducible repeat first | apply blk_drewN | apply blk_drew | apply blk_alloc); exact BK189.out)) : gb189 ≠ gb200)); have NB200_189 := Aside0.mk ((by rw [hg]; exact Nat.ne_of_gt (blk_lt (g := gb189) (o := .cells #[.int .i64 t186, .int .i64 t187] 23 (0, 0)) (by (with_reducible repeat first | apply blk_drewN | apply blk_drew | apply blk_alloc); exact BK189.out)) : gb200 ≠ gb189)); replace BK189 := blkE BK189 hb; clear hb hbox hg; have hnb83 := NB200_176.out; have hnc83 := NB176_200.out; have hnb84 := NB200_189.out; have hnc84 := NB189_200.out; obtain ⟨hcz85_0, hcz85_1⟩ := cells2 BK200.out; obtain ⟨hfz85_0, hfz85_1⟩ := froz2 BK200.out; obtain ⟨hcz86_0, hcz86_1, hcz86_2, hcz86_3, hcz86_4, hcz86_5, hcz86_6, hcz86_7, hcz86_8, hcz86_9, hcz86_10⟩ := cells11 BK176.out; obtain ⟨hfz86_0, hfz86_1, hfz86_2, hfz86_3, hfz86_4, hfz86_5, hfz86_6, hfz86_7, hfz86_8, hfz86_9, hfz86_10⟩ := froz11 BK176.out) | (go_at_call 15; (with_reducible refine (ware_Stands.calls t165 t166 t167 t168 t169 t170 t171 t172 t173 t174 t175 t194 t201 t202 _ A75.out).mono ?_); rintro e w87 ⟨rfl, hb⟩; replace BK176 := Aside0.mk (blk_below (g := gb176) (o := .cells #[.int .i64 t165, .int .i64 t166, .int .i64 t167, .int .i64 t168, .int .i64 t169, .int .i64 t170, .int .i64 t171, .int .i64 t172, .int .i64 t173, .int .i64 t174, .int .i64 t175] 25 (0, 0)) (by (with_reducible repeat first | apply blk_drewN | apply blk_drew | apply blk_alloc); refine blk_far ?_ NB176_200.out _; (with_reducible repeat first | apply blk_drewN | apply blk_drew | apply blk_alloc); refine blk_far ?_ NB176_200.out _; (with_reducible repeat first | apply blk_drewN | apply blk_drew | apply blk_alloc); exact BK176.out) hb); replace BK189 := Aside0.mk (blk_below (g := gb189) (o := .cells #[.int .i64 t186, .int .i64 t187] 23 (0, 0)) (by (with_reducible repeat first | apply blk_drewN | apply blk_drew | apply blk_alloc); refine blk_far ?_ NB189_200.out _; (with_reducible repeat first | apply blk_drewN | apply blk_drew | apply blk_alloc); refine blk_far ?_ NB189_200.out _; (with_reducible repeat first | apply blk_drewN | apply blk_drew | apply blk_alloc); exact BK189.out) hb); replace BK200 := Aside0.mk (blk_below (g := gb200) (o := .cells #[.int .i64 t197, .int .i64 t198] 23 (0, 0)) (by (with_reducible repeat first | apply blk_drewN | apply blk_drew | apply blk_alloc); refine blk_put (cs := #[.int .i64 t197, .int .i64 0]) ?_ 1 _ rfl; (with_reducible repeat first | apply blk_drewN | apply blk_drew | apply blk_alloc); refine blk_put (cs := #[.int .i64 0, .int .i64 0]) ?_ 0 _ rfl; (with_reducible repeat first | apply blk_drewN | apply blk_drew | apply blk_alloc); exact BK200.out) hb); replace HB := Aside0.mk (below_step (by repeat (first | (with_reducible first | exact HB.out | apply below_alloc | apply pw_below_drewN | apply below_drew1 | refine below_set ?_ GE176.out | refine below_set ?_ GE189.out | refine below_set ?_ GE200.out) | exact HB.out)) hb); (try clear hb); (try clear hb2); (try clear hk); (try clear hi))))
                      (try simp only [Act.put, List.setIfInBounds_toArray, List.set_cons_zero, List.set_cons_succ])
                      go_cut [183] (fun v183 wc => ∃ (kq : Nat) (x183_75 : Bool), v183 = .bool x183_75 ∧ Aside0 (potbanklaw01_WareStands.j4 kq t193 t194 x183_75 t165 t166 t167 t168 t169 t170 t171 t172 t173 t174 t175 = some r) ∧ Aside0 (kq ≤ kj50) ∧ Aside0 (wc.heap[gb176]? = some (.cells #[.int .i64 t165, .int .i64 t166, .int .i64 t167, .int .i64 t168, .int .i64 t169, .int .i64 t170, .int .i64 t171, .int .i64 t172, .int .i64 t173, .int .i64 t174, .int .i64 t175] 25 (0, 0))) ∧ Aside0 (wc.heap[gb189]? = some (.cells #[.int .i64 t186, .int .i64 t187] 23 (0, 0))) ∧ Aside0 (wc.heap[gb200]? = some (.cells #[.int .i64 t197, .int .i64 t198] 23 (0, 0))) ∧ Aside0 (Below w.heap.size w wc))
                      case first =>
                        have H := HC76.out
                        clear HC76
                        by_cases c88 : t195 = 0
                        · rw [if_pos c88] at H
                          have c88b0 : (t195 == 0) = true := beq_iff_eq.mpr c88
                          have c88b1 : (t195 != 0) = false := bne_eq_false_iff_eq.mpr c88
                          clear c88
                          (first | rw [c88b0] | (simp only [i64_w, i32_w]; rw [c88b0]) | skip)
                          by_cases c89 : t199 = 0
                          · rw [if_pos c89] at H
                            have c89b0 : (t199 == 0) = true := beq_iff_eq.mpr c89
                            have c89b1 : (t199 != 0) = false := bne_eq_false_iff_eq.mpr c89
                            clear c89
                            by_cases c90 : t202 = 0
                            · rw [if_pos c90] at H
                              have c90b0 : (t202 == 0) = true := beq_iff_eq.mpr c90
                              have c90b1 : (t202 != 0) = false := bne_eq_false_iff_eq.mpr c90
                              clear c90
                              by_cases c91 : t201 = true
                              · subst c91
                                have H1 : (potbanklaw01_WareStands.j4 kj50 t193 t194 (decide (t198 > t193)) t165 t166 t167 t168 t169 t170 t171 t172 t173 t174 t175) = some r := by rw [if_pos rfl] at H; exact H
                                clear H
                                have H := H1
                                clear H1
                                as_aux_lemma =>
                                  have H' := Aside0.mk H
                                  clear H
                                  have hnb92 := NB200_176.out
                                  have hnc92 := NB176_200.out
                                  have hnb93 := NB200_189.out
                                  have hnc93 := NB189_200.out
                                  have hcz94_0 : w87.cell? ⟨gb200, 0, none⟩ = some (.int .i64 t197) := (blk_cell BK200.out 0).trans rfl
                                  have hcz94_1 : w87.cell? ⟨gb200, 1, none⟩ = some (.int .i64 t198) := (blk_cell BK200.out 1).trans rfl
                                  have hfz94_0 := blk_frozen BK200.out 0
                                  have hfz94_1 := blk_frozen BK200.out 1
                                  go_wp2
                                  repeat (go_quiet (fail); try go_wp2)
                                  go_meet
                                  case rel => exact ⟨_, (decide (t198 > t193)), (by first | rfl | (simp; done) | (simp [*]; done)), H', ⟨by have := HK1.out; have := HJ38.out; have := HJ50.out; first | omega | exact Nat.le_refl _⟩, ⟨by (with_reducible repeat first | apply blk_drewN | apply blk_drew | apply blk_alloc); exact BK176.out⟩, ⟨by (with_reducible repeat first | apply blk_drewN | apply blk_drew | apply blk_alloc); exact BK189.out⟩, ⟨by (with_reducible repeat first | apply blk_drewN | apply blk_drew | apply blk_alloc); exact BK200.out⟩, ⟨by repeat (first | (with_reducible first | exact HB.out | apply below_alloc | apply pw_below_drewN | apply below_drew1 | refine below_set ?_ GE176.out | refine below_set ?_ GE189.out | refine below_set ?_ GE200.out) | exact HB.out)⟩⟩
                              · replace c91 := Bool.eq_false_iff.mpr c91
                                subst c91
                                have H1 : (potbanklaw01_WareStands.j4 kj50 t193 t194 true t165 t166 t167 t168 t169 t170 t171 t172 t173 t174 t175) = some r := by rw [if_neg (show ¬ (false = true) by decide)] at H; exact H
                                clear H
                                have H := H1
                                clear H1
                                as_aux_lemma =>
                                  have H' := Aside0.mk H
                                  clear H
                                  go_wp2
                                  repeat (go_quiet (fail); try go_wp2)
                                  go_meet
                                  case rel => exact ⟨_, (true), (by first | rfl | (simp; done) | (simp [*]; done)), H', ⟨by have := HK1.out; have := HJ38.out; have := HJ50.out; first | omega | exact Nat.le_refl _⟩, ⟨by (with_reducible repeat first | apply blk_drewN | apply blk_drew | apply blk_alloc); exact BK176.out⟩, ⟨by (with_reducible repeat first | apply blk_drewN | apply blk_drew | apply blk_alloc); exact BK189.out⟩, ⟨by (with_reducible repeat first | apply blk_drewN | apply blk_drew | apply blk_alloc); exact BK200.out⟩, ⟨by repeat (first | (with_reducible first | exact HB.out | apply below_alloc | apply pw_below_drewN | apply below_drew1 | refine below_set ?_ GE176.out | refine below_set ?_ GE189.out | refine below_set ?_ GE200.out) | exact HB.out)⟩⟩
                            · rw [if_neg c90] at H
                              have c90b0 : (t202 == 0) = false := beq_eq_false_iff_ne.mpr c90
                              have c90b1 : (t202 != 0) = true := bne_iff_ne.mpr c90
                              as_aux_lemma =>
                                have H' := Aside0.mk H
                                clear H
                                go_wp2
                                repeat (go_quiet (fail); try go_wp2)
                                go_meet
                                case rel => exact ⟨_, (true), (by first | rfl | (simp; done) | (simp [*]; done)), H', ⟨by have := HK1.out; have := HJ38.out; have := HJ50.out; first | omega | exact Nat.le_refl _⟩, ⟨by (with_reducible repeat first | apply blk_drewN | apply blk_drew | apply blk_alloc); exact BK176.out⟩, ⟨by (with_reducible repeat first | apply blk_drewN | apply blk_drew | apply blk_alloc); exact BK189.out⟩, ⟨by (with_reducible repeat first | apply blk_drewN | apply blk_drew | apply blk_alloc); exact BK200.out⟩, ⟨by repeat (first | (with_reducible first | exact HB.out | apply below_alloc | apply pw_below_drewN | apply below_drew1 | refine below_set ?_ GE176.out | refine below_set ?_ GE189.out | refine below_set ?_ GE200.out) | exact HB.out)⟩⟩
                          · rw [if_neg c89] at H
                            have c89b0 : (t199 == 0) = false := beq_eq_false_iff_ne.mpr c89
                            have c89b1 : (t199 != 0) = true := bne_iff_ne.mpr c89
                            as_aux_lemma =>
                              have H' := Aside0.mk H
                              clear H
                              go_wp2
                              repeat (go_quiet (fail); try go_wp2)
                              go_meet
                              case rel => exact ⟨_, (true), (by first | rfl | (simp; done) | (simp [*]; done)), H', ⟨by have := HK1.out; have := HJ38.out; have := HJ50.out; first | omega | exact Nat.le_refl _⟩, ⟨by (with_reducible repeat first | apply blk_drewN | apply blk_drew | apply blk_alloc); exact BK176.out⟩, ⟨by (with_reducible repeat first | apply blk_drewN | apply blk_drew | apply blk_alloc); exact BK189.out⟩, ⟨by (with_reducible repeat first | apply blk_drewN | apply blk_drew | apply blk_alloc); exact BK200.out⟩, ⟨by repeat (first | (with_reducible first | exact HB.out | apply below_alloc | apply pw_below_drewN | apply below_drew1 | refine below_set ?_ GE176.out | refine below_set ?_ GE189.out | refine below_set ?_ GE200.out) | exact HB.out)⟩⟩
                        · rw [if_neg c88] at H
                          have c88b0 : (t195 == 0) = false := beq_eq_false_iff_ne.mpr c88
                          have c88b1 : (t195 != 0) = true := bne_iff_ne.mpr c88
                          (first | rw [c88b0] | (simp only [i64_w, i32_w]; rw [c88b0]) | skip)
                          as_aux_lemma =>
                            have H' := Aside0.mk H
                            clear H
                            go_wp2
                            repeat (go_quiet (fail); try go_wp2)
                            go_meet
                            case rel => exact ⟨_, (true), (by first | rfl | (simp; done) | (simp [*]; done)), H', ⟨by have := HK1.out; have := HJ38.out; have := HJ50.out; first | omega | exact Nat.le_refl _⟩, ⟨by (with_reducible repeat first | apply blk_drewN | apply blk_drew | apply blk_alloc); exact BK176.out⟩, ⟨by (with_reducible repeat first | apply blk_drewN | apply blk_drew | apply blk_alloc); exact BK189.out⟩, ⟨by (with_reducible repeat first | apply blk_drewN | apply blk_drew | apply blk_alloc); exact BK200.out⟩, ⟨by repeat (first | (with_reducible first | exact HB.out | apply below_alloc | apply pw_below_drewN | apply below_drew1 | refine below_set ?_ GE176.out | refine below_set ?_ GE189.out | refine below_set ?_ GE200.out) | exact HB.out)⟩⟩
                      case rest =>
                        clear HC76
                        try clear c1
                        try clear c2
                        try clear p2
                        try clear c3
                        try clear c4
                        try clear c5
                        try clear c6
                        try clear p6
                        try clear c7
                        try clear c7b0
                        try clear c7b1
                        try clear c8
                        try clear c9
                        try clear c12
                        try clear c12b0
                        try clear c18
                        try clear c20
                        try clear c20b0
                        try clear c20b1
                        try clear c21
                        try clear c21b0
                        try clear c22
                        try clear c24
                        try clear c24b0
                        try clear c25
                        try clear c27
                        try clear c28
                        try clear c31
                        try clear c33
                        try clear c36
                        try clear c43
                        try clear c45
                        try clear c45b0
                        try clear c45b1
                        try clear c46
                        try clear c47
                        try clear c50
                        try clear c52
                        try clear c52b0
                        try clear c54
                        try clear c54b0
                        try clear c54b1
                        try clear c55
                        try clear c56
                        try clear c57
                        try clear c60
                        try clear p64
                        try clear c66
                        try clear c66b0
                        try clear c66b1
                        try clear c67
                        try clear c67b0
                        try clear c69
                        try clear c77
                        try clear c83
                        try clear c84
                        try clear c88
                        try clear c88b0
                        try clear c88b1
                        try clear c89
                        try clear c89b0
                        try clear c89b1
                        try clear c90
                        try clear c90b0
                        try clear c90b1
                        try clear c91
                        try clear c92
                        try clear c93
                        try clear hcz10_0
                        try clear hcz10_1
                        try clear hcz10_10
                        try clear hcz10_2
                        try clear hcz10_3
                        try clear hcz10_4
                        try clear hcz10_5
                        try clear hcz10_6
                        try clear hcz10_7
                        try clear hcz10_8
                        try clear hcz10_9
                        try clear hcz15_0
                        try clear hcz15_1
                        try clear hcz15_10
                        try clear hcz15_2
                        try clear hcz15_3
                        try clear hcz15_4
                        try clear hcz15_5
                        try clear hcz15_6
                        try clear hcz15_7
                        try clear hcz15_8
                        try clear hcz15_9
                        try clear hcz19_0
                        try clear hcz19_1
                        try clear hcz23_0
                        try clear hcz23_1
                        try clear hcz26_0
                        try clear hcz26_1
                        try clear hcz29_0
                        try clear hcz29_1
                        try clear hcz30_0
                        try clear hcz30_1
                        try clear hcz30_10
                        try clear hcz30_2
                        try clear hcz30_3
                        try clear hcz30_4
                        try clear hcz30_5
                        try clear hcz30_6
                        try clear hcz30_7
                        try clear hcz30_8
                        try clear hcz30_9
                        try clear hcz32_0
                        try clear hcz32_1
                        try clear hcz37_0
                        try clear hcz37_1
                        try clear hcz37_10
                        try clear hcz37_2
                        try clear hcz37_3
                        try clear hcz37_4
                        try clear hcz37_5
                        try clear hcz37_6
                        try clear hcz37_7
                        try clear hcz37_8
                        try clear hcz37_9
                        try clear hcz40_0
                        try clear hcz40_1
                        try clear hcz40_10
                        try clear hcz40_2
                        try clear hcz40_3
                        try clear hcz40_4
                        try clear hcz40_5
                        try clear hcz40_6
                        try clear hcz40_7
                        try clear hcz40_8
                        try clear hcz40_9
                        try clear hcz44_0
                        try clear hcz44_1
                        try clear hcz48_0
                        try clear hcz48_1
                        try clear hcz49_0
                        try clear hcz49_1
                        try clear hcz49_10
                        try clear hcz49_2
                        try clear hcz49_3
                        try clear hcz49_4
                        try clear hcz49_5
                        try clear hcz49_6
                        try clear hcz49_7
                        try clear hcz49_8
                        try clear hcz49_9
                        try clear hcz58_0
                        try clear hcz58_1
                        try clear hcz58_10
                        try clear hcz58_2
                        try clear hcz58_3
                        try clear hcz58_4
                        try clear hcz58_5
                        try clear hcz58_6
                        try clear hcz58_7
                        try clear hcz58_8
                        try clear hcz58_9
                        try clear hcz61_0
                        try clear hcz61_1
                        try clear hcz61_10
                        try clear hcz61_2
                        try clear hcz61_3
                        try clear hcz61_4
                        try clear hcz61_5
                        try clear hcz61_6
                        try clear hcz61_7
                        try clear hcz61_8
                        try clear hcz61_9
                        try clear hcz70_0
                        try clear hcz70_1
                        try clear hcz70_10
                        try clear hcz70_2
                        try clear hcz70_3
                        try clear hcz70_4
                        try clear hcz70_5
                        try clear hcz70_6
                        try clear hcz70_7
                        try clear hcz70_8
                        try clear hcz70_9
                        try clear hcz72_0
                        try clear hcz72_1
                        try clear hcz72_10
                        try clear hcz72_2
                        try clear hcz72_3
                        try clear hcz72_4
                        try clear hcz72_5
                        try clear hcz72_6
                        try clear hcz72_7
                        try clear hcz72_8
                        try clear hcz72_9
                        try clear hcz78_0
                        try clear hcz78_1
                        try clear hcz78_10
                        try clear hcz78_2
                        try clear hcz78_3
                        try clear hcz78_4
                        try clear hcz78_5
                        try clear hcz78_6
                        try clear hcz78_7
                        try clear hcz78_8
                        try clear hcz78_9
                        try clear hcz80_0
                        try clear hcz80_1
                        try clear hcz80_10
                        try clear hcz80_2
                        try clear hcz80_3
                        try clear hcz80_4
                        try clear hcz80_5
                        try clear hcz80_6
                        try clear hcz80_7
                        try clear hcz80_8
                        try clear hcz80_9
                        try clear hcz85_0
                        try clear hcz85_1
                        try clear hcz86_0
                        try clear hcz86_1
                        try clear hcz86_10
                        try clear hcz86_2
                        try clear hcz86_3
                        try clear hcz86_4
                        try clear hcz86_5
                        try clear hcz86_6
                        try clear hcz86_7
                        try clear hcz86_8
                        try clear hcz86_9
                        try clear hcz94_0
                        try clear hcz94_1
                        try clear hfz10_0
                        try clear hfz10_1
                        try clear hfz10_10
                        try clear hfz10_2
                        try clear hfz10_3
                        try clear hfz10_4
                        try clear hfz10_5
                        try clear hfz10_6
                        try clear hfz10_7
                        try clear hfz10_8
                        try clear hfz10_9
                        try clear hfz15_0
                        try clear hfz15_1
                        try clear hfz15_10
                        try clear hfz15_2
                        try clear hfz15_3
                        try clear hfz15_4
                        try clear hfz15_5
                        try clear hfz15_6
                        try clear hfz15_7
                        try clear hfz15_8
                        try clear hfz15_9
                        try clear hfz19_0
                        try clear hfz19_1
                        try clear hfz23_0
                        try clear hfz23_1
                        try clear hfz26_0
                        try clear hfz26_1
                        try clear hfz29_0
                        try clear hfz29_1
                        try clear hfz30_0
                        try clear hfz30_1
                        try clear hfz30_10
                        try clear hfz30_2
                        try clear hfz30_3
                        try clear hfz30_4
                        try clear hfz30_5
                        try clear hfz30_6
                        try clear hfz30_7
                        try clear hfz30_8
                        try clear hfz30_9
                        try clear hfz32_0
                        try clear hfz32_1
                        try clear hfz37_0
                        try clear hfz37_1
                        try clear hfz37_10
                        try clear hfz37_2
                        try clear hfz37_3
                        try clear hfz37_4
                        try clear hfz37_5
                        try clear hfz37_6
                        try clear hfz37_7
                        try clear hfz37_8
                        try clear hfz37_9
                        try clear hfz40_0
                        try clear hfz40_1
                        try clear hfz40_10
                        try clear hfz40_2
                        try clear hfz40_3
                        try clear hfz40_4
                        try clear hfz40_5
                        try clear hfz40_6
                        try clear hfz40_7
                        try clear hfz40_8
                        try clear hfz40_9
                        try clear hfz44_0
                        try clear hfz44_1
                        try clear hfz48_0
                        try clear hfz48_1
                        try clear hfz49_0
                        try clear hfz49_1
                        try clear hfz49_10
                        try clear hfz49_2
                        try clear hfz49_3
                        try clear hfz49_4
                        try clear hfz49_5
                        try clear hfz49_6
                        try clear hfz49_7
                        try clear hfz49_8
                        try clear hfz49_9
                        try clear hfz58_0
                        try clear hfz58_1
                        try clear hfz58_10
                        try clear hfz58_2
                        try clear hfz58_3
                        try clear hfz58_4
                        try clear hfz58_5
                        try clear hfz58_6
                        try clear hfz58_7
                        try clear hfz58_8
                        try clear hfz58_9
                        try clear hfz61_0
                        try clear hfz61_1
                        try clear hfz61_10
                        try clear hfz61_2
                        try clear hfz61_3
                        try clear hfz61_4
                        try clear hfz61_5
                        try clear hfz61_6
                        try clear hfz61_7
                        try clear hfz61_8
                        try clear hfz61_9
                        try clear hfz70_0
                        try clear hfz70_1
                        try clear hfz70_10
                        try clear hfz70_2
                        try clear hfz70_3
                        try clear hfz70_4
                        try clear hfz70_5
                        try clear hfz70_6
                        try clear hfz70_7
                        try clear hfz70_8
                        try clear hfz70_9
                        try clear hfz72_0
                        try clear hfz72_1
                        try clear hfz72_10
                        try clear hfz72_2
                        try clear hfz72_3
                        try clear hfz72_4
                        try clear hfz72_5
                        try clear hfz72_6
                        try clear hfz72_7
                        try clear hfz72_8
                        try clear hfz72_9
                        try clear hfz78_0
                        try clear hfz78_1
                        try clear hfz78_10
                        try clear hfz78_2
                        try clear hfz78_3
                        try clear hfz78_4
                        try clear hfz78_5
                        try clear hfz78_6
                        try clear hfz78_7
                        try clear hfz78_8
                        try clear hfz78_9
                        try clear hfz80_0
                        try clear hfz80_1
                        try clear hfz80_10
                        try clear hfz80_2
                        try clear hfz80_3
                        try clear hfz80_4
                        try clear hfz80_5
                        try clear hfz80_6
                        try clear hfz80_7
                        try clear hfz80_8
                        try clear hfz80_9
                        try clear hfz85_0
                        try clear hfz85_1
                        try clear hfz86_0
                        try clear hfz86_1
                        try clear hfz86_10
                        try clear hfz86_2
                        try clear hfz86_3
                        try clear hfz86_4
                        try clear hfz86_5
                        try clear hfz86_6
                        try clear hfz86_7
                        try clear hfz86_8
                        try clear hfz86_9
                        try clear hfz94_0
                        try clear hfz94_1
                        try clear p2
                        try clear p6
                        obtain ⟨kq, x183_75, rfl, HA, HJ75, BK176, BK189, BK200, HB⟩ := hcut
                        cases kq with
                        | zero => exact absurd HA.out (by simp [potbanklaw01_WareStands.j4])
                        | succ kj75 =>
                          have H := HA.out
                          clear HA
                          simp only [potbanklaw01_WareStands.j4] at H
                          by_cases c95 : x183_75 = true
                          · subst c95
                            have H1 : (none) = some r := by rw [if_pos rfl] at H; exact H
                            clear H
                            have H := H1
                            clear H1
                            exact absurd H (by simp)
                          · replace c95 := Bool.eq_false_iff.mpr c95
                            subst c95
                            have H1 : (if t194 = 40 then ((potbanklaw01_sane.f).bind fun t203 => (some t203)) else ((ware_Height.f t165 t166 t167 t168 t169 t170 t171 t172 t173 t174 t175 (wrap64 (t194 + 1))).bind fun bt204 => ((ware_Stands.f t165 t166 t167 t168 t169 t170 t171 t172 t173 t174 t175 (wrap64 (t194 + 1))).bind fun bt208 => (if bt204.2.2 = 0 then (if bt208.2 = 0 then (if bt208.1 = true then (if bt204.2.1 > t193 then ((potbanklaw01_sane.f).bind fun t210 => (some t210)) else (none)) else ((potbanklaw01_sane.f).bind fun t211 => (some t211))) else (none)) else (none))))) = some r := by rw [if_neg (show ¬ (false = true) by decide)] at H; exact H
                            clear H
                            have H := H1
                            clear H1
                            by_cases c96 : t194 = 40
                            · rw [if_pos c96] at H
                              have c96b0 : (t194 == 40) = true := beq_iff_eq.mpr c96
                              have c96b1 : (t194 != 40) = false := bne_eq_false_iff_eq.mpr c96
                              clear c96
                              replace H := Option.bind_eq_some_iff.mp H
                              obtain ⟨t203, A970, H⟩ := H
                              replace H : (some t203) = some r := H
                              have A97 := Aside0.mk A970
                              clear A970
                              as_aux_lemma =>
                                obtain rfl := Option.some.inj H
                                go_wp2_with (first | (go_at_call 19; (with_reducible refine (potbanklaw01_sane.calls  t203 _ A97.out).mono ?_); rintro e w98 ⟨rfl, hb⟩; replace BK176 := blkE BK176 hb; replace BK189 := blkE BK189 hb; replace BK200 := blkE BK200 hb; replace HB := Aside0.mk (below_step (by repeat (first | (with_reducible first | exact HB.out | apply below_alloc | apply pw_below_drewN | apply below_drew1 | refine below_set ?_ GE176.out | refine below_set ?_ GE189.out | refine below_set ?_ GE200.out) | exact HB.out)) hb); (try clear hb); (try clear hb2); (try clear hk); (try clear hi)))
                                repeat (go_quiet (first | (go_at_call 19; (with_reducible refine (potbanklaw01_sane.calls  t203 _ A97.out).mono ?_); rintro e w98 ⟨rfl, hb⟩; replace BK176 := blkE BK176 hb; replace BK189 := blkE BK189 hb; replace BK200 := blkE BK200 hb; replace HB := Aside0.mk (below_step (by repeat (first | (with_reducible first | exact HB.out | apply below_alloc | apply pw_below_drewN | apply below_drew1 | refine below_set ?_ GE176.out | refine below_set ?_ GE189.out | refine below_set ?_ GE200.out) | exact HB.out)) hb); (try clear hb); (try clear hb2); (try clear hk); (try clear hi))); try go_wp2_with (first | (go_at_call 19; (with_reducible refine (potbanklaw01_sane.calls  t203 _ A97.out).mono ?_); rintro e w98 ⟨rfl, hb⟩; replace BK176 := blkE BK176 hb; replace BK189 := blkE BK189 hb; replace BK200 := blkE BK200 hb; replace HB := Aside0.mk (below_step (by repeat (first | (with_reducible first | exact HB.out | apply below_alloc | apply pw_below_drewN | apply below_drew1 | refine below_set ?_ GE176.out | refine below_set ?_ GE189.out | refine below_set ?_ GE200.out) | exact HB.out)) hb); (try clear hb); (try clear hb2); (try clear hk); (try clear hi))))
                                go_ret
                                exact ⟨by first | rfl | (simp [errW_none, errW_some] <;> rfl) | (simp [*, errW_none, errW_some] <;> rfl), by repeat (first | (with_reducible first | exact HB.out | apply below_alloc | apply pw_below_drewN | apply below_drew1 | refine below_set ?_ GE176.out | refine below_set ?_ GE189.out | refine below_set ?_ GE200.out) | exact HB.out)⟩
                            · rw [if_neg c96] at H
                              have c96b0 : (t194 == 40) = false := beq_eq_false_iff_ne.mpr c96
                              have c96b1 : (t194 != 40) = true := bne_iff_ne.mpr c96
                              replace H := Option.bind_eq_some_iff.mp H
                              obtain ⟨⟨t204, t205, t206⟩, A990, H⟩ := H
                              replace H : ((ware_Stands.f t165 t166 t167 t168 t169 t170 t171 t172 t173 t174 t175 (wrap64 (t194 + 1))).bind fun bt208 => (if t206 = 0 then (if bt208.2 = 0 then (if bt208.1 = true then (if t205 > t193 then ((potbanklaw01_sane.f).bind fun t210 => (some t210)) else (none)) else ((potbanklaw01_sane.f).bind fun t211 => (some t211))) else (none)) else (none))) = some r := H
                              have A99 := Aside0.mk A990
                              clear A990
                              replace H := Option.bind_eq_some_iff.mp H
                              obtain ⟨⟨t208, t209⟩, A1000, H⟩ := H
                              replace H : (if t206 = 0 then (if t209 = 0 then (if t208 = true then (if t205 > t193 then ((potbanklaw01_sane.f).bind fun t210 => (some t210)) else (none)) else ((potbanklaw01_sane.f).bind fun t211 => (some t211))) else (none)) else (none)) = some r := H
                              have A100 := Aside0.mk A1000
                              clear A1000
                              by_cases c101 : t206 = 0
                              · rw [if_pos c101] at H
                                have c101b0 : (t206 == 0) = true := beq_iff_eq.mpr c101
                                have c101b1 : (t206 != 0) = false := bne_eq_false_iff_eq.mpr c101
                                clear c101
                                by_cases c102 : t209 = 0
                                · rw [if_pos c102] at H
                                  have c102b0 : (t209 == 0) = true := beq_iff_eq.mpr c102
                                  have c102b1 : (t209 != 0) = false := bne_eq_false_iff_eq.mpr c102
                                  clear c102
                                  by_cases c103 : t208 = true
                                  · subst c103
                                    have H1 : (if t205 > t193 then ((potbanklaw01_sane.f).bind fun t210 => (some t210)) else (none)) = some r := by rw [if_pos rfl] at H; exact H
                                    clear H
                                    have H := H1
                                    clear H1
                                    by_cases c104 : t205 > t193
                                    · rw [if_pos c104] at H
                                      have c104b0 : decide (t193 < t205) = true := decide_eq_true c104
                                      clear c104
                                      replace H := Option.bind_eq_some_iff.mp H
                                      obtain ⟨t210, A1050, H⟩ := H
                                      replace H : (some t210) = some r := H
                                      have A105 := Aside0.mk A1050
                                      clear A1050
                                      as_aux_lemma =>
                                        obtain rfl := Option.some.inj H
                                        have hnb106 := NB176_189.out
                                        have hnc106 := NB189_176.out
                                        have hnb107 := NB176_200.out
                                        have hnc107 := NB200_176.out
                                        have hcz108_0 : wc.cell? ⟨gb176, 0, none⟩ = some (.int .i64 t165) := (blk_cell BK176.out 0).trans rfl
                                        have hcz108_1 : wc.cell? ⟨gb176, 1, none⟩ = some (.int .i64 t166) := (blk_cell BK176.out 1).trans rfl
                                        have hcz108_2 : wc.cell? ⟨gb176, 2, none⟩ = some (.int .i64 t167) := (blk_cell BK176.out 2).trans rfl
                                        have hcz108_3 : wc.cell? ⟨gb176, 3, none⟩ = some (.int .i64 t168) := (blk_cell BK176.out 3).trans rfl
                                        have hcz108_4 : wc.cell? ⟨gb176, 4, none⟩ = some (.int .i64 t169) := (blk_cell BK176.out 4).trans rfl
                                        have hcz108_5 : wc.cell? ⟨gb176, 5, none⟩ = some (.int .i64 t170) := (blk_cell BK176.out 5).trans rfl
                                        have hcz108_6 : wc.cell? ⟨gb176, 6, none⟩ = some (.int .i64 t171) := (blk_cell BK176.out 6).trans rfl
                                        have hcz108_7 : wc.cell? ⟨gb176, 7, none⟩ = some (.int .i64 t172) := (blk_cell BK176.out 7).trans rfl
                                        have hcz108_8 : wc.cell? ⟨gb176, 8, none⟩ = some (.int .i64 t173) := (blk_cell BK176.out 8).trans rfl
                                        have hcz108_9 : wc.cell? ⟨gb176, 9, none⟩ = some (.int .i64 t174) := (blk_cell BK176.out 9).trans rfl
                                        have hcz108_10 : wc.cell? ⟨gb176, 10, none⟩ = some (.int .i64 t175) := (blk_cell BK176.out 10).trans rfl
                                        have hfz108_0 := blk_frozen BK176.out 0
                                        have hfz108_1 := blk_frozen BK176.out 1
                                        have hfz108_2 := blk_frozen BK176.out 2
                                        have hfz108_3 := blk_frozen BK176.out 3
                                        have hfz108_4 := blk_frozen BK176.out 4
                                        have hfz108_5 := blk_frozen BK176.out 5
                                        have hfz108_6 := blk_frozen BK176.out 6
                                        have hfz108_7 := blk_frozen BK176.out 7
                                        have hfz108_8 := blk_frozen BK176.out 8
                                        have hfz108_9 := blk_frozen BK176.out 9
                                        have hfz108_10 := blk_frozen BK176.out 10
                                        go_wp2_with (first | (go_at_call 11; (with_reducible refine (ware_Height.calls t165 t166 t167 t168 t169 t170 t171 t172 t173 t174 t175 (wrap64 (t194 + 1)) t204 t205 t206 _ A99.out).mono ?_); rintro e w109 ⟨rfl, hb⟩; replace BK176 := blkE BK176 hb; replace BK189 := blkE BK189 hb; replace BK200 := blkE BK200 hb; replace HB := Aside0.mk (below_step (by repeat (first | (with_reducible first | exact HB.out | apply below_alloc | apply pw_below_drewN | apply below_drew1 | refine below_set ?_ GE176.out | refine below_set ?_ GE189.out | refine below_set ?_ GE200.out) | exact HB.out)) hb); (try clear hb); (try clear hb2); (try clear hk); (try clear hi)) | ((with_reducible refine gate_dst (N := 25) rfl ?_); refine box_event ?hg (N := 25) ?hd (cs := #[.int .i64 0, .int .i64 0]) (t := 23) ?hr ?_; (case hd => rfl); (case hg => rfl); (case hr => first | (go_simp; done) | (go_simp; rfl)); intro gb207 hg w110 hbox hb; have BK207 := Aside0.mk (hbox); have GW207 := Aside0.mk ((by rw [hg]; exact (below_size (by repeat (first | (with_reducible first | exact HB.out | apply below_alloc | apply pw_below_drewN | apply below_drew1 | refine below_set ?_ GE176.out | refine below_set ?_ GE189.out | refine below_set ?_ GE200.out) | exact HB.out))) : w.heap.size ≤ gb207)); have GE207 := Aside0.mk ((by rw [hg]; exact (below_size (by repeat (first | (with_reducible first | exact HB.out | apply below_alloc | apply pw_below_drewN | apply below_drew1 | refine below_set ?_ GE176.out | refine below_set ?_ GE189.out | refine below_set ?_ GE200.out) | exact HB.out))) : w.heap.size ≤ gb207)); replace HB := Aside0.mk (below_step (by repeat (first | (with_reducible first | exact HB.out | apply below_alloc | apply pw_below_drewN | apply below_drew1 | refine below_set ?_ GE176.out | refine below_set ?_ GE189.out | refine below_set ?_ GE200.out) | exact HB.out)) hb); have NB176_207 := Aside0.mk ((by rw [hg]; exact Nat.ne_of_lt (blk_lt (g := gb176) (o := .cells #[.int .i64 t165, .int .i64 t166, .int .i64 t167, .int .i64 t168, .int .i64 t169, .int .i64 t170, .int .i64 t171, .int .i64 t172, .int .i64 t173, .int .i64 t174, .int .i64 t175] 25 (0, 0)) (by (with_reducible repeat first | apply blk_drewN | apply blk_drew | apply blk_alloc); exact BK176.out)) : gb176 ≠ gb207)); have NB207_176 := Aside0.mk ((by rw [hg]; exact Nat.ne_of_gt (blk_lt (g := gb176) (o := .cells #[.int .i64 t165, .int .i64 t166, .int .i64 t167, .int .i64 t168, .int .i64 t169, .int .i64 t170, .int .i64 t171, .int .i64 t172, .int .i64 t173, .int .i64 t174, .int .i64 t175] 25 (0, 0)) (by (with_reducible repeat first | apply blk_drewN | apply blk_drew | apply blk_alloc); exact BK176.out)) : gb207 ≠ gb176)); replace BK176 := blkE BK176 hb; have NB189_207 := Aside0.mk ((by rw [hg]; exact Nat.ne_of_lt (blk_lt (g := gb189) (o := .cells #[.int .i64 t186, .int .i64 t187] 23 (0, 0)) (by (with_reducible repeat first | apply blk_drewN | apply blk_drew | apply blk_alloc); exact BK189.out)) : gb189 ≠ gb207)); have NB207_189 := Aside0.mk ((by rw [hg]; exact Nat.ne_of_gt (blk_lt (g := gb189) (o := .cells #[.int .i64 t186, .int .i64 t187] 23 (0, 0)) (by (with_reducible repeat first | apply blk_drewN | apply blk_drew | apply blk_alloc); exact BK189.out)) : gb207 ≠ gb189)); replace BK189 := blkE BK189 hb; have NB200_207 := Aside0.mk ((by rw [hg]; exact Nat.ne_of_lt (blk_lt (g := gb200) (o := .cells #[.int .i64 t197, .int .i64 t198] 23 (0, 0)) (by (with_reducible repeat first | apply blk_drewN | apply blk_drew | apply blk_alloc); exact BK200.out)) : gb200 ≠ gb207)); have NB207_200 := Aside0.mk ((by rw [hg]; exact Nat.ne_of_gt (blk_lt (g := gb200) (o := .cells #[.int .i64 t197, .int .i64 t198] 23 (0, 0)) (by (with_reducible repeat first | apply blk_drewN | apply blk_drew | apply blk_alloc); exact BK200.out)) : gb207 ≠ gb200)); replace BK200 := blkE BK200 hb; clear hb hbox hg; have hnb111 := NB207_176.out; have hnc111 := NB176_207.out; have hnb112 := NB207_189.out; have hnc112 := NB189_207.out; have hnb113 := NB207_200.out; have hnc113 := NB200_207.out; obtain ⟨hcz114_0, hcz114_1⟩ := cells2 BK207.out; obtain ⟨hfz114_0, hfz114_1⟩ := froz2 BK207.out; obtain ⟨hcz115_0, hcz115_1, hcz115_2, hcz115_3, hcz115_4, hcz115_5, hcz115_6, hcz115_7, hcz115_8, hcz115_9, hcz115_10⟩ := cells11 BK176.out; obtain ⟨hfz115_0, hfz115_1, hfz115_2, hfz115_3, hfz115_4, hfz115_5, hfz115_6, hfz115_7, hfz115_8, hfz115_9, hfz115_10⟩ := froz11 BK176.out) | (go_at_call 15; (with_reducible refine (ware_Stands.calls t165 t166 t167 t168 t169 t170 t171 t172 t173 t174 t175 (wrap64 (t194 + 1)) true t209 _ A100.out).mono ?_); rintro e w116 ⟨rfl, hb⟩; replace BK176 := Aside0.mk (blk_below (g := gb176) (o := .cells #[.int .i64 t165, .int .i64 t166, .int .i64 t167, .int .i64 t168, .int .i64 t169, .int .i64 t170, .int .i64 t171, .int .i64 t172, .int .i64 t173, .int .i64 t174, .int .i64 t175] 25 (0, 0)) (by (with_reducible repeat first | apply blk_drewN | apply blk_drew | apply blk_alloc); refine blk_far ?_ NB176_207.out _; (with_reducible repeat first | apply blk_drewN | apply blk_drew | apply blk_alloc); refine blk_far ?_ NB176_207.out _; (with_reducible repeat first | apply blk_drewN | apply blk_drew | apply blk_alloc); exact BK176.out) hb); replace BK189 := Aside0.mk (blk_below (g := gb189) (o := .cells #[.int .i64 t186, .int .i64 t187] 23 (0, 0)) (by (with_reducible repeat first | apply blk_drewN | apply blk_drew | apply blk_alloc); refine blk_far ?_ NB189_207.out _; (with_reducible repeat first | apply blk_drewN | apply blk_drew | apply blk_alloc); refine blk_far ?_ NB189_207.out _; (with_reducible repeat first | apply blk_drewN | apply blk_drew | apply blk_alloc); exact BK189.out) hb); replace BK200 := Aside0.mk (blk_below (g := gb200) (o := .cells #[.int .i64 t197, .int .i64 t198] 23 (0, 0)) (by (with_reducible repeat first | apply blk_drewN | apply blk_drew | apply blk_alloc); refine blk_far ?_ NB200_207.out _; (with_reducible repeat first | apply blk_drewN | apply blk_drew | apply blk_alloc); refine blk_far ?_ NB200_207.out _; (with_reducible repeat first | apply blk_drewN | apply blk_drew | apply blk_alloc); exact BK200.out) hb); replace BK207 := Aside0.mk (blk_below (g := gb207) (o := .cells #[.int .i64 t204, .int .i64 t205] 23 (0, 0)) (by (with_reducible repeat first | apply blk_drewN | apply blk_drew | apply blk_alloc); refine blk_put (cs := #[.int .i64 t204, .int .i64 0]) ?_ 1 _ rfl; (with_reducible repeat first | apply blk_drewN | apply blk_drew | apply blk_alloc); refine blk_put (cs := #[.int .i64 0, .int .i64 0]) ?_ 0 _ rfl; (with_reducible repeat first | apply blk_drewN | apply blk_drew | apply blk_alloc); exact BK207.out) hb); replace HB := Aside0.mk (below_step (by repeat (first | (with_reducible first | exact HB.out | apply below_alloc | apply pw_below_drewN | apply below_drew1 | refine below_set ?_ GE176.out | refine below_set ?_ GE189.out | refine below_set ?_ GE200.out | refine below_set ?_ GE207.out) | exact HB.out)) hb); (try clear hb); (try clear hb2); (try clear hk); (try clear hi); obtain ⟨hcz117_0, hcz117_1⟩ := cells2 BK207.out; obtain ⟨hfz117_0, hfz117_1⟩ := froz2 BK207.out) | (go_at_call 19; (with_reducible refine (potbanklaw01_sane.calls  t210 _ A105.out).mono ?_); rintro e w118 ⟨rfl, hb⟩; replace BK176 := blkE BK176 hb; replace BK189 := blkE BK189 hb; replace BK200 := blkE BK200 hb; replace BK207 := blkE BK207 hb; replace HB := Aside0.mk (below_step (by repeat (first | (with_reducible first | exact HB.out | apply below_alloc | apply pw_below_drewN | apply below_drew1 | refine below_set ?_ GE176.out | refine below_set ?_ GE189.out | refine below_set ?_ GE200.out | refine below_set ?_ GE207.out) | exact HB.out)) hb); (try clear hb); (try clear hb2); (try clear hk); (try clear hi)))
                                        repeat (go_quiet (first | (go_at_call 11; (with_reducible refine (ware_Height.calls t165 t166 t167 t168 t169 t170 t171 t172 t173 t174 t175 (wrap64 (t194 + 1)) t204 t205 t206 _ A99.out).mono ?_); rintro e w109 ⟨rfl, hb⟩; replace BK176 := blkE BK176 hb; replace BK189 := blkE BK189 hb; replace BK200 := blkE BK200 hb; replace HB := Aside0.mk (below_step (by repeat (first | (with_reducible first | exact HB.out | apply below_alloc | apply pw_below_drewN | apply below_drew1 | refine below_set ?_ GE176.out | refine below_set ?_ GE189.out | refine below_set ?_ GE200.out) | exact HB.out)) hb); (try clear hb); (try clear hb2); (try clear hk); (try clear hi)) | ((with_reducible refine gate_dst (N := 25) rfl ?_); refine box_event ?hg (N := 25) ?hd (cs := #[.int .i64 0, .int .i64 0]) (t := 23) ?hr ?_; (case hd => rfl); (case hg => rfl); (case hr => first | (go_simp; done) | (go_simp; rfl)); intro gb207 hg w110 hbox hb; have BK207 := Aside0.mk (hbox); have GW207 := Aside0.mk ((by rw [hg]; exact (below_size (by repeat (first | (with_reducible first | exact HB.out | apply below_alloc | apply pw_below_drewN | apply below_drew1 | refine below_set ?_ GE176.out | refine below_set ?_ GE189.out | refine below_set ?_ GE200.out) | exact HB.out))) : w.heap.size ≤ gb207)); have GE207 := Aside0.mk ((by rw [hg]; exact (below_size (by repeat (first | (with_reducible first | exact HB.out | apply below_alloc | apply pw_below_drewN | apply below_drew1 | refine below_set ?_ GE176.out | refine below_set ?_ GE189.out | refine below_set ?_ GE200.out) | exact HB.out))) : w.heap.size ≤ gb207)); replace HB := Aside0.mk (below_step (by repeat (first | (with_reducible first | exact HB.out | apply below_alloc | apply pw_below_drewN | apply below_drew1 | refine below_set ?_ GE176.out | refine below_set ?_ GE189.out | refine below_set ?_ GE200.out) | exact HB.out)) hb); have NB176_207 := Aside0.mk ((by rw [hg]; exact Nat.ne_of_lt (blk_lt (g := gb176) (o := .cells #[.int .i64 t165, .int .i64 t166, .int .i64 t167, .int .i64 t168, .int .i64 t169, .int .i64 t170, .int .i64 t171, .int .i64 t172, .int .i64 t173, .int .i64 t174, .int .i64 t175] 25 (0, 0)) (by (with_reducible repeat first | apply blk_drewN | apply blk_drew | apply blk_alloc); exact BK176.out)) : gb176 ≠ gb207)); have NB207_176 := Aside0.mk ((by rw [hg]; exact Nat.ne_of_gt (blk_lt (g := gb176) (o := .cells #[.int .i64 t165, .int .i64 t166, .int .i64 t167, .int .i64 t168, .int .i64 t169, .int .i64 t170, .int .i64 t171, .int .i64 t172, .int .i64 t173, .int .i64 t174, .int .i64 t175] 25 (0, 0)) (by (with_reducible repeat first | apply blk_drewN | apply blk_drew | apply blk_alloc); exact BK176.out)) : gb207 ≠ gb176)); replace BK176 := blkE BK176 hb; have NB189_207 := Aside0.mk ((by rw [hg]; exact Nat.ne_of_lt (blk_lt (g := gb189) (o := .cells #[.int .i64 t186, .int .i64 t187] 23 (0, 0)) (by (with_reducible repeat first | apply blk_drewN | apply blk_drew | apply blk_alloc); exact BK189.out)) : gb189 ≠ gb207)); have NB207_189 := Aside0.mk ((by rw [hg]; exact Nat.ne_of_gt (blk_lt (g := gb189) (o := .cells #[.int .i64 t186, .int .i64 t187] 23 (0, 0)) (by (with_reducible repeat first | apply blk_drewN | apply blk_drew | apply blk_alloc); exact BK189.out)) : gb207 ≠ gb189)); replace BK189 := blkE BK189 hb; have NB200_207 := Aside0.mk ((by rw [hg]; exact Nat.ne_of_lt (blk_lt (g := gb200) (o := .cells #[.int .i64 t197, .int .i64 t198] 23 (0, 0)) (by (with_reducible repeat first | apply blk_drewN | apply blk_drew | apply blk_alloc); exact BK200.out)) : gb200 ≠ gb207)); have NB207_200 := Aside0.mk ((by rw [hg]; exact Nat.ne_of_gt (blk_lt (g := gb200) (o := .cells #[.int .i64 t197, .int .i64 t198] 23 (0, 0)) (by (with_reducible repeat first | apply blk_drewN | apply blk_drew | apply blk_alloc); exact BK200.out)) : gb207 ≠ gb200)); replace BK200 := blkE BK200 hb; clear hb hbox hg; have hnb111 := NB207_176.out; have hnc111 := NB176_207.out; have hnb112 := NB207_189.out; have hnc112 := NB189_207.out; have hnb113 := NB207_200.out; have hnc113 := NB200_207.out; obtain ⟨hcz114_0, hcz114_1⟩ := cells2 BK207.out; obtain ⟨hfz114_0, hfz114_1⟩ := froz2 BK207.out; obtain ⟨hcz115_0, hcz115_1, hcz115_2, hcz115_3, hcz115_4, hcz115_5, hcz115_6, hcz115_7, hcz115_8, hcz115_9, hcz115_10⟩ := cells11 BK176.out; obtain ⟨hfz115_0, hfz115_1, hfz115_2, hfz115_3, hfz115_4, hfz115_5, hfz115_6, hfz115_7, hfz115_8, hfz115_9, hfz115_10⟩ := froz11 BK176.out) | (go_at_call 15; (with_reducible refine (ware_Stands.calls t165 t166 t167 t168 t169 t170 t171 t172 t173 t174 t175 (wrap64 (t194 + 1)) true t209 _ A100.out).mono ?_); rintro e w116 ⟨rfl, hb⟩; replace BK176 := Aside0.mk (blk_below (g := gb176) (o := .cells #[.int .i64 t165, .int .i64 t166, .int .i64 t167, .int .i64 t168, .int .i64 t169, .int .i64 t170, .int .i64 t171, .int .i64 t172, .int .i64 t173, .int .i64 t174, .int .i64 t175] 25 (0, 0)) (by (with_reducible repeat first | apply blk_drewN | apply blk_drew | apply blk_alloc); refine blk_far ?_ NB176_207.out _; (with_reducible repeat first | apply blk_drewN | apply blk_drew | apply blk_alloc); refine blk_far ?_ NB176_207.out _; (with_reducible repeat first | apply blk_drewN | apply blk_drew | apply blk_alloc); exact BK176.out) hb); replace BK189 := Aside0.mk (blk_below (g := gb189) (o := .cells #[.int .i64 t186, .int .i64 t187] 23 (0, 0)) (by (with_reducible repeat first | apply blk_drewN | apply blk_drew | apply blk_alloc); refine blk_far ?_ NB189_207.out _; (with_reducible repeat first | apply blk_drewN | apply blk_drew | apply blk_alloc); refine blk_far ?_ NB189_207.out _; (with_reducible repeat first | apply blk_drewN | apply blk_drew | apply blk_alloc); exact BK189.out) hb); replace BK200 := Aside0.mk (blk_below (g := gb200) (o := .cells #[.int .i64 t197, .int .i64 t198] 23 (0, 0)) (by (with_reducible repeat first | apply blk_drewN | apply blk_drew | apply blk_alloc); refine blk_far ?_ NB200_207.out _; (with_reducible repeat first | apply blk_drewN | apply blk_drew | apply blk_alloc); refine blk_far ?_ NB200_207.out _; (with_reducible repeat first | apply blk_drewN | apply blk_drew | apply blk_alloc); exact BK200.out) hb); replace BK207 := Aside0.mk (blk_below (g := gb207) (o := .cells #[.int .i64 t204, .int .i64 t205] 23 (0, 0)) (by (with_reducible repeat first | apply blk_drewN | apply blk_drew | apply blk_alloc); refine blk_put (cs := #[.int .i64 t204, .int .i64 0]) ?_ 1 _ rfl; (with_reducible repeat first | apply blk_drewN | apply blk_drew | apply blk_alloc); refine blk_put (cs := #[.int .i64 0, .int .i64 0]) ?_ 0 _ rfl; (with_reducible repeat first | apply blk_drewN | apply blk_drew | apply blk_alloc); exact BK207.out) hb); replace HB := Aside0.mk (below_step (by repeat (first | (with_reducible first | exact HB.out | apply below_alloc | apply pw_below_drewN | apply below_drew1 | refine below_set ?_ GE176.out | refine below_set ?_ GE189.out | refine below_set ?_ GE200.out | refine below_set ?_ GE207.out) | exact HB.out)) hb); (try clear hb); (try clear hb2); (try clear hk); (try clear hi); obtain ⟨hcz117_0, hcz117_1⟩ := cells2 BK207.out; obtain ⟨hfz117_0, hfz117_1⟩ := froz2 BK207.out) | (go_at_call 19; (with_reducible refine (potbanklaw01_sane.calls  t210 _ A105.out).mono ?_); rintro e w118 ⟨rfl, hb⟩; replace BK176 := blkE BK176 hb; replace BK189 := blkE BK189 hb; replace BK200 := blkE BK200 hb; replace BK207 := blkE BK207 hb; replace HB := Aside0.mk (below_step (by repeat (first | (with_reducible first | exact HB.out | apply below_alloc | apply pw_below_drewN | apply below_drew1 | refine below_set ?_ GE176.out | refine below_set ?_ GE189.out | refine below_set ?_ GE200.out | refine below_set ?_ GE207.out) | exact HB.out)) hb); (try clear hb); (try clear hb2); (try clear hk); (try clear hi))); try go_wp2_with (first | (go_at_call 11; (with_reducible refine (ware_Height.calls t165 t166 t167 t168 t169 t170 t171 t172 t173 t174 t175 (wrap64 (t194 + 1)) t204 t205 t206 _ A99.out).mono ?_); rintro e w109 ⟨rfl, hb⟩; replace BK176 := blkE BK176 hb; replace BK189 := blkE BK189 hb; replace BK200 := blkE BK200 hb; replace HB := Aside0.mk (below_step (by repeat (first | (with_reducible first | exact HB.out | apply below_alloc | apply pw_below_drewN | apply below_drew1 | refine below_set ?_ GE176.out | refine below_set ?_ GE189.out | refine below_set ?_ GE200.out) | exact HB.out)) hb); (try clear hb); (try clear hb2); (try clear hk); (try clear hi)) | ((with_reducible refine gate_dst (N := 25) rfl ?_); refine box_event ?hg (N := 25) ?hd (cs := #[.int .i64 0, .int .i64 0]) (t := 23) ?hr ?_; (case hd => rfl); (case hg => rfl); (case hr => first | (go_simp; done) | (go_simp; rfl)); intro gb207 hg w110 hbox hb; have BK207 := Aside0.mk (hbox); have GW207 := Aside0.mk ((by rw [hg]; exact (below_size (by repeat (first | (with_reducible first | exact HB.out | apply below_alloc | apply pw_below_drewN | apply below_drew1 | refine below_set ?_ GE176.out | refine below_set ?_ GE189.out | refine below_set ?_ GE200.out) | exact HB.out))) : w.heap.size ≤ gb207)); have GE207 := Aside0.mk ((by rw [hg]; exact (below_size (by repeat (first | (with_reducible first | exact HB.out | apply below_alloc | apply pw_below_drewN | apply below_drew1 | refine below_set ?_ GE176.out | refine below_set ?_ GE189.out | refine below_set ?_ GE200.out) | exact HB.out))) : w.heap.size ≤ gb207)); replace HB := Aside0.mk (below_step (by repeat (first | (with_reducible first | exact HB.out | apply below_alloc | apply pw_below_drewN | apply below_drew1 | refine below_set ?_ GE176.out | refine below_set ?_ GE189.out | refine below_set ?_ GE200.out) | exact HB.out)) hb); have NB176_207 := Aside0.mk ((by rw [hg]; exact Nat.ne_of_lt (blk_lt (g := gb176) (o := .cells #[.int .i64 t165, .int .i64 t166, .int .i64 t167, .int .i64 t168, .int .i64 t169, .int .i64 t170, .int .i64 t171, .int .i64 t172, .int .i64 t173, .int .i64 t174, .int .i64 t175] 25 (0, 0)) (by (with_reducible repeat first | apply blk_drewN | apply blk_drew | apply blk_alloc); exact BK176.out)) : gb176 ≠ gb207)); have NB207_176 := Aside0.mk ((by rw [hg]; exact Nat.ne_of_gt (blk_lt (g := gb176) (o := .cells #[.int .i64 t165, .int .i64 t166, .int .i64 t167, .int .i64 t168, .int .i64 t169, .int .i64 t170, .int .i64 t171, .int .i64 t172, .int .i64 t173, .int .i64 t174, .int .i64 t175] 25 (0, 0)) (by (with_reducible repeat first | apply blk_drewN | apply blk_drew | apply blk_alloc); exact BK176.out)) : gb207 ≠ gb176)); replace BK176 := blkE BK176 hb; have NB189_207 := Aside0.mk ((by rw [hg]; exact Nat.ne_of_lt (blk_lt (g := gb189) (o := .cells #[.int .i64 t186, .int .i64 t187] 23 (0, 0)) (by (with_reducible repeat first | apply blk_drewN | apply blk_drew | apply blk_alloc); exact BK189.out)) : gb189 ≠ gb207)); have NB207_189 := Aside0.mk ((by rw [hg]; exact Nat.ne_of_gt (blk_lt (g := gb189) (o := .cells #[.int .i64 t186, .int .i64 t187] 23 (0, 0)) (by (with_reducible repeat first | apply blk_drewN | apply blk_drew | apply blk_alloc); exact BK189.out)) : gb207 ≠ gb189)); replace BK189 := blkE BK189 hb; have NB200_207 := Aside0.mk ((by rw [hg]; exact Nat.ne_of_lt (blk_lt (g := gb200) (o := .cells #[.int .i64 t197, .int .i64 t198] 23 (0, 0)) (by (with_reducible repeat first | apply blk_drewN | apply blk_drew | apply blk_alloc); exact BK200.out)) : gb200 ≠ gb207)); have NB207_200 := Aside0.mk ((by rw [hg]; exact Nat.ne_of_gt (blk_lt (g := gb200) (o := .cells #[.int .i64 t197, .int .i64 t198] 23 (0, 0)) (by (with_reducible repeat first | apply blk_drewN | apply blk_drew | apply blk_alloc); exact BK200.out)) : gb207 ≠ gb200)); replace BK200 := blkE BK200 hb; clear hb hbox hg; have hnb111 := NB207_176.out; have hnc111 := NB176_207.out; have hnb112 := NB207_189.out; have hnc112 := NB189_207.out; have hnb113 := NB207_200.out; have hnc113 := NB200_207.out; obtain ⟨hcz114_0, hcz114_1⟩ := cells2 BK207.out; obtain ⟨hfz114_0, hfz114_1⟩ := froz2 BK207.out; obtain ⟨hcz115_0, hcz115_1, hcz115_2, hcz115_3, hcz115_4, hcz115_5, hcz115_6, hcz115_7, hcz115_8, hcz115_9, hcz115_10⟩ := cells11 BK176.out; obtain ⟨hfz115_0, hfz115_1, hfz115_2, hfz115_3, hfz115_4, hfz115_5, hfz115_6, hfz115_7, hfz115_8, hfz115_9, hfz115_10⟩ := froz11 BK176.out) | (go_at_call 15; (with_reducible refine (ware_Stands.calls t165 t166 t167 t168 t169 t170 t171 t172 t173 t174 t175 (wrap64 (t194 + 1)) true t209 _ A100.out).mono ?_); rintro e w116 ⟨rfl, hb⟩; replace BK176 := Aside0.mk (blk_below (g := gb176) (o := .cells #[.int .i64 t165, .int .i64 t166, .int .i64 t167, .int .i64 t168, .int .i64 t169, .int .i64 t170, .int .i64 t171, .int .i64 t172, .int .i64 t173, .int .i64 t174, .int .i64 t175] 25 (0, 0)) (by (with_reducible repeat first | apply blk_drewN | apply blk_drew | apply blk_alloc); refine blk_far ?_ NB176_207.out _; (with_reducible repeat first | apply blk_drewN | apply blk_drew | apply blk_alloc); refine blk_far ?_ NB176_207.out _; (with_reducible repeat first | apply blk_drewN | apply blk_drew | apply blk_alloc); exact BK176.out) hb); replace BK189 := Aside0.mk (blk_below (g := gb189) (o := .cells #[.int .i64 t186, .int .i64 t187] 23 (0, 0)) (by (with_reducible repeat first | apply blk_drewN | apply blk_drew | apply blk_alloc); refine blk_far ?_ NB189_207.out _; (with_reducible repeat first | apply blk_drewN | apply blk_drew | apply blk_alloc); refine blk_far ?_ NB189_207.out _; (with_reducible repeat first | apply blk_drewN | apply blk_drew | apply blk_alloc); exact BK189.out) hb); replace BK200 := Aside0.mk (blk_below (g := gb200) (o := .cells #[.int .i64 t197, .int .i64 t198] 23 (0, 0)) (by (with_reducible repeat first | apply blk_drewN | apply blk_drew | apply blk_alloc); refine blk_far ?_ NB200_207.out _; (with_reducible repeat first | apply blk_drewN | apply blk_drew | apply blk_alloc); refine blk_far ?_ NB200_207.out _; (with_reducible repeat first | apply blk_drewN | apply blk_drew | apply blk_alloc); exact BK200.out) hb); replace BK207 := Aside0.mk (blk_below (g := gb207) (o := .cells #[.int .i64 t204, .int .i64 t205] 23 (0, 0)) (by (with_reducible repeat first | apply blk_drewN | apply blk_drew | apply blk_alloc); refine blk_put (cs := #[.int .i64 t204, .int .i64 0]) ?_ 1 _ rfl; (with_reducible repeat first | apply blk_drewN | apply blk_drew | apply blk_alloc); refine blk_put (cs := #[.int .i64 0, .int .i64 0]) ?_ 0 _ rfl; (with_reducible repeat first | apply blk_drewN | apply blk_drew | apply blk_alloc); exact BK207.out) hb); replace HB := Aside0.mk (below_step (by repeat (first | (with_reducible first | exact HB.out | apply below_alloc | apply pw_below_drewN | apply below_drew1 | refine below_set ?_ GE176.out | refine below_set ?_ GE189.out | refine below_set ?_ GE200.out | refine below_set ?_ GE207.out) | exact HB.out)) hb); (try clear hb); (try clear hb2); (try clear hk); (try clear hi); obtain ⟨hcz117_0, hcz117_1⟩ := cells2 BK207.out; obtain ⟨hfz117_0, hfz117_1⟩ := froz2 BK207.out) | (go_at_call 19; (with_reducible refine (potbanklaw01_sane.calls  t210 _ A105.out).mono ?_); rintro e w118 ⟨rfl, hb⟩; replace BK176 := blkE BK176 hb; replace BK189 := blkE BK189 hb; replace BK200 := blkE BK200 hb; replace BK207 := blkE BK207 hb; replace HB := Aside0.mk (below_step (by repeat (first | (with_reducible first | exact HB.out | apply below_alloc | apply pw_below_drewN | apply below_drew1 | refine below_set ?_ GE176.out | refine below_set ?_ GE189.out | refine below_set ?_ GE200.out | refine below_set ?_ GE207.out) | exact HB.out)) hb); (try clear hb); (try clear hb2); (try clear hk); (try clear hi))))
                                        go_ret
                                        exact ⟨by first | rfl | (simp [errW_none, errW_some] <;> rfl) | (simp [*, errW_none, errW_some] <;> rfl), by repeat (first | (with_reducible first | exact HB.out | apply below_alloc | apply pw_below_drewN | apply below_drew1 | refine below_set ?_ GE176.out | refine below_set ?_ GE189.out | refine below_set ?_ GE200.out | refine below_set ?_ GE207.out) | exact HB.out)⟩
                                    · rw [if_neg c104] at H
                                      exact absurd H (by simp)
                                  · replace c103 := Bool.eq_false_iff.mpr c103
                                    subst c103
                                    have H1 : ((potbanklaw01_sane.f).bind fun t211 => (some t211)) = some r := by rw [if_neg (show ¬ (false = true) by decide)] at H; exact H
                                    clear H
                                    have H := H1
                                    clear H1
                                    replace H := Option.bind_eq_some_iff.mp H
                                    obtain ⟨t211, A1190, H⟩ := H
                                    replace H : (some t211) = some r := H
                                    have A119 := Aside0.mk A1190
                                    clear A1190
                                    as_aux_lemma =>
                                      obtain rfl := Option.some.inj H
                                      have hnb120 := NB176_189.out
                                      have hnc120 := NB189_176.out
                                      have hnb121 := NB176_200.out
                                      have hnc121 := NB200_176.out
                                      have hcz122_0 : wc.cell? ⟨gb176, 0, none⟩ = some (.int .i64 t165) := (blk_cell BK176.out 0).trans rfl
                                      have hcz122_1 : wc.cell? ⟨gb176, 1, none⟩ = some (.int .i64 t166) := (blk_cell BK176.out 1).trans rfl
                                      have hcz122_2 : wc.cell? ⟨gb176, 2, none⟩ = some (.int .i64 t167) := (blk_cell BK176.out 2).trans rfl
                                      have hcz122_3 : wc.cell? ⟨gb176, 3, none⟩ = some (.int .i64 t168) := (blk_cell BK176.out 3).trans rfl
                                      have hcz122_4 : wc.cell? ⟨gb176, 4, none⟩ = some (.int .i64 t169) := (blk_cell BK176.out 4).trans rfl
                                      have hcz122_5 : wc.cell? ⟨gb176, 5, none⟩ = some (.int .i64 t170) := (blk_cell BK176.out 5).trans rfl
                                      have hcz122_6 : wc.cell? ⟨gb176, 6, none⟩ = some (.int .i64 t171) := (blk_cell BK176.out 6).trans rfl
                                      have hcz122_7 : wc.cell? ⟨gb176, 7, none⟩ = some (.int .i64 t172) := (blk_cell BK176.out 7).trans rfl
                                      have hcz122_8 : wc.cell? ⟨gb176, 8, none⟩ = some (.int .i64 t173) := (blk_cell BK176.out 8).trans rfl
                                      have hcz122_9 : wc.cell? ⟨gb176, 9, none⟩ = some (.int .i64 t174) := (blk_cell BK176.out 9).trans rfl
                                      have hcz122_10 : wc.cell? ⟨gb176, 10, none⟩ = some (.int .i64 t175) := (blk_cell BK176.out 10).trans rfl
                                      have hfz122_0 := blk_frozen BK176.out 0
                                      have hfz122_1 := blk_frozen BK176.out 1
                                      have hfz122_2 := blk_frozen BK176.out 2
                                      have hfz122_3 := blk_frozen BK176.out 3
                                      have hfz122_4 := blk_frozen BK176.out 4
                                      have hfz122_5 := blk_frozen BK176.out 5
                                      have hfz122_6 := blk_frozen BK176.out 6
                                      have hfz122_7 := blk_frozen BK176.out 7
                                      have hfz122_8 := blk_frozen BK176.out 8
                                      have hfz122_9 := blk_frozen BK176.out 9
                                      have hfz122_10 := blk_frozen BK176.out 10
                                      go_wp2_with (first | (go_at_call 11; (with_reducible refine (ware_Height.calls t165 t166 t167 t168 t169 t170 t171 t172 t173 t174 t175 (wrap64 (t194 + 1)) t204 t205 t206 _ A99.out).mono ?_); rintro e w123 ⟨rfl, hb⟩; replace BK176 := blkE BK176 hb; replace BK189 := blkE BK189 hb; replace BK200 := blkE BK200 hb; replace HB := Aside0.mk (below_step (by repeat (first | (with_reducible first | exact HB.out | apply below_alloc | apply pw_below_drewN | apply below_drew1 | refine below_set ?_ GE176.out | refine below_set ?_ GE189.out | refine below_set ?_ GE200.out) | exact HB.out)) hb); (try clear hb); (try clear hb2); (try clear hk); (try clear hi)) | ((with_reducible refine gate_dst (N := 25) rfl ?_); refine box_event ?hg (N := 25) ?hd (cs := #[.int .i64 0, .int .i64 0]) (t := 23) ?hr ?_; (case hd => rfl); (case hg => rfl); (case hr => first | (go_simp; done) | (go_simp; rfl)); intro gb207 hg w124 hbox hb; have BK207 := Aside0.mk (hbox); have GW207 := Aside0.mk ((by rw [hg]; exact (below_size (by repeat (first | (with_reducible first | exact HB.out | apply below_alloc | apply pw_below_drewN | apply below_drew1 | refine below_set ?_ GE176.out | refine below_set ?_ GE189.out | refine below_set ?_ GE200.out) | exact HB.out))) : w.heap.size ≤ gb207)); have GE207 := Aside0.mk ((by rw [hg]; exact (below_size (by repeat (first | (with_reducible first | exact HB.out | apply below_alloc | apply pw_below_drewN | apply below_drew1 | refine below_set ?_ GE176.out | refine below_set ?_ GE189.out | refine below_set ?_ GE200.out) | exact HB.out))) : w.heap.size ≤ gb207)); replace HB := Aside0.mk (below_step (by repeat (first | (with_reducible first | exact HB.out | apply below_alloc | apply pw_below_drewN | apply below_drew1 | refine below_set ?_ GE176.out | refine below_set ?_ GE189.out | refine below_set ?_ GE200.out) | exact HB.out)) hb); have NB176_207 := Aside0.mk ((by rw [hg]; exact Nat.ne_of_lt (blk_lt (g := gb176) (o := .cells #[.int .i64 t165, .int .i64 t166, .int .i64 t167, .int .i64 t168, .int .i64 t169, .int .i64 t170, .int .i64 t171, .int .i64 t172, .int .i64 t173, .int .i64 t174, .int .i64 t175] 25 (0, 0)) (by (with_reducible repeat first | apply blk_drewN | apply blk_drew | apply blk_alloc); exact BK176.out)) : gb176 ≠ gb207)); have NB207_176 := Aside0.mk ((by rw [hg]; exact Nat.ne_of_gt (blk_lt (g := gb176) (o := .cells #[.int .i64 t165, .int .i64 t166, .int .i64 t167, .int .i64 t168, .int .i64 t169, .int .i64 t170, .int .i64 t171, .int .i64 t172, .int .i64 t173, .int .i64 t174, .int .i64 t175] 25 (0, 0)) (by (with_reducible repeat first | apply blk_drewN | apply blk_drew | apply blk_alloc); exact BK176.out)) : gb207 ≠ gb176)); replace BK176 := blkE BK176 hb; have NB189_207 := Aside0.mk ((by rw [hg]; exact Nat.ne_of_lt (blk_lt (g := gb189) (o := .cells #[.int .i64 t186, .int .i64 t187] 23 (0, 0)) (by (with_reducible repeat first | apply blk_drewN | apply blk_drew | apply blk_alloc); exact BK189.out)) : gb189 ≠ gb207)); have NB207_189 := Aside0.mk ((by rw [hg]; exact Nat.ne_of_gt (blk_lt (g := gb189) (o := .cells #[.int .i64 t186, .int .i64 t187] 23 (0, 0)) (by (with_reducible repeat first | apply blk_drewN | apply blk_drew | apply blk_alloc); exact BK189.out)) : gb207 ≠ gb189)); replace BK189 := blkE BK189 hb; have NB200_207 := Aside0.mk ((by rw [hg]; exact Nat.ne_of_lt (blk_lt (g := gb200) (o := .cells #[.int .i64 t197, .int .i64 t198] 23 (0, 0)) (by (with_reducible repeat first | apply blk_drewN | apply blk_drew | apply blk_alloc); exact BK200.out)) : gb200 ≠ gb207)); have NB207_200 := Aside0.mk ((by rw [hg]; exact Nat.ne_of_gt (blk_lt (g := gb200) (o := .cells #[.int .i64 t197, .int .i64 t198] 23 (0, 0)) (by (with_reducible repeat first | apply blk_drewN | apply blk_drew | apply blk_alloc); exact BK200.out)) : gb207 ≠ gb200)); replace BK200 := blkE BK200 hb; clear hb hbox hg; have hnb125 := NB207_176.out; have hnc125 := NB176_207.out; have hnb126 := NB207_189.out; have hnc126 := NB189_207.out; have hnb127 := NB207_200.out; have hnc127 := NB200_207.out; obtain ⟨hcz128_0, hcz128_1⟩ := cells2 BK207.out; obtain ⟨hfz128_0, hfz128_1⟩ := froz2 BK207.out; obtain ⟨hcz129_0, hcz129_1, hcz129_2, hcz129_3, hcz129_4, hcz129_5, hcz129_6, hcz129_7, hcz129_8, hcz129_9, hcz129_10⟩ := cells11 BK176.out; obtain ⟨hfz129_0, hfz129_1, hfz129_2, hfz129_3, hfz129_4, hfz129_5, hfz129_6, hfz129_7, hfz129_8, hfz129_9, hfz129_10⟩ := froz11 BK176.out) | (go_at_call 15; (with_reducible refine (ware_Stands.calls t165 t166 t167 t168 t169 t170 t171 t172 t173 t174 t175 (wrap64 (t194 + 1)) false t209 _ A100.out).mono ?_); rintro e w130 ⟨rfl, hb⟩; replace BK176 := Aside0.mk (blk_below (g := gb176) (o := .cells #[.int .i64 t165, .int .i64 t166, .int .i64 t167, .int .i64 t168, .int .i64 t169, .int .i64 t170, .int .i64 t171, .int .i64 t172, .int .i64 t173, .int .i64 t174, .int .i64 t175] 25 (0, 0)) (by (with_reducible repeat first | apply blk_drewN | apply blk_drew | apply blk_alloc); refine blk_far ?_ NB176_207.out _; (with_reducible repeat first | apply blk_drewN | apply blk_drew | apply blk_alloc); refine blk_far ?_ NB176_207.out _; (with_reducible repeat first | apply blk_drewN | apply blk_drew | apply blk_alloc); exact BK176.out) hb); replace BK189 := Aside0.mk (blk_below (g := gb189) (o := .cells #[.int .i64 t186, .int .i64 t187] 23 (0, 0)) (by (with_reducible repeat first | apply blk_drewN | apply blk_drew | apply blk_alloc); refine blk_far ?_ NB189_207.out _; (with_reducible repeat first | apply blk_drewN | apply blk_drew | apply blk_alloc); refine blk_far ?_ NB189_207.out _; (with_reducible repeat first | apply blk_drewN | apply blk_drew | apply blk_alloc); exact BK189.out) hb); replace BK200 := Aside0.mk (blk_below (g := gb200) (o := .cells #[.int .i64 t197, .int .i64 t198] 23 (0, 0)) (by (with_reducible repeat first | apply blk_drewN | apply blk_drew | apply blk_alloc); refine blk_far ?_ NB200_207.out _; (with_reducible repeat first | apply blk_drewN | apply blk_drew | apply blk_alloc); refine blk_far ?_ NB200_207.out _; (with_reducible repeat first | apply blk_drewN | apply blk_drew | apply blk_alloc); exact BK200.out) hb); replace BK207 := Aside0.mk (blk_below (g := gb207) (o := .cells #[.int .i64 t204, .int .i64 t205] 23 (0, 0)) (by (with_reducible repeat first | apply blk_drewN | apply blk_drew | apply blk_alloc); refine blk_put (cs := #[.int .i64 t204, .int .i64 0]) ?_ 1 _ rfl; (with_reducible repeat first | apply blk_drewN | apply blk_drew | apply blk_alloc); refine blk_put (cs := #[.int .i64 0, .int .i64 0]) ?_ 0 _ rfl; (with_reducible repeat first | apply blk_drewN | apply blk_drew | apply blk_alloc); exact BK207.out) hb); replace HB := Aside0.mk (below_step (by repeat (first | (with_reducible first | exact HB.out | apply below_alloc | apply pw_below_drewN | apply below_drew1 | refine below_set ?_ GE176.out | refine below_set ?_ GE189.out | refine below_set ?_ GE200.out | refine below_set ?_ GE207.out) | exact HB.out)) hb); (try clear hb); (try clear hb2); (try clear hk); (try clear hi)) | (go_at_call 19; (with_reducible refine (potbanklaw01_sane.calls  t211 _ A119.out).mono ?_); rintro e w131 ⟨rfl, hb⟩; replace BK176 := blkE BK176 hb; replace BK189 := blkE BK189 hb; replace BK200 := blkE BK200 hb; replace BK207 := blkE BK207 hb; replace HB := Aside0.mk (below_step (by repeat (first | (with_reducible first | exact HB.out | apply below_alloc | apply pw_below_drewN | apply below_drew1 | refine below_set ?_ GE176.out | refine below_set ?_ GE189.out | refine below_set ?_ GE200.out | refine below_set ?_ GE207.out) | exact HB.out)) hb); (try clear hb); (try clear hb2); (try clear hk); (try clear hi)))
                                      repeat (go_quiet (first | (go_at_call 11; (with_reducible refine (ware_Height.calls t165 t166 t167 t168 t169 t170 t171 t172 t173 t174 t175 (wrap64 (t194 + 1)) t204 t205 t206 _ A99.out).mono ?_); rintro e w123 ⟨rfl, hb⟩; replace BK176 := blkE BK176 hb; replace BK189 := blkE BK189 hb; replace BK200 := blkE BK200 hb; replace HB := Aside0.mk (below_step (by repeat (first | (with_reducible first | exact HB.out | apply below_alloc | apply pw_below_drewN | apply below_drew1 | refine below_set ?_ GE176.out | refine below_set ?_ GE189.out | refine below_set ?_ GE200.out) | exact HB.out)) hb); (try clear hb); (try clear hb2); (try clear hk); (try clear hi)) | ((with_reducible refine gate_dst (N := 25) rfl ?_); refine box_event ?hg (N := 25) ?hd (cs := #[.int .i64 0, .int .i64 0]) (t := 23) ?hr ?_; (case hd => rfl); (case hg => rfl); (case hr => first | (go_simp; done) | (go_simp; rfl)); intro gb207 hg w124 hbox hb; have BK207 := Aside0.mk (hbox); have GW207 := Aside0.mk ((by rw [hg]; exact (below_size (by repeat (first | (with_reducible first | exact HB.out | apply below_alloc | apply pw_below_drewN | apply below_drew1 | refine below_set ?_ GE176.out | refine below_set ?_ GE189.out | refine below_set ?_ GE200.out) | exact HB.out))) : w.heap.size ≤ gb207)); have GE207 := Aside0.mk ((by rw [hg]; exact (below_size (by repeat (first | (with_reducible first | exact HB.out | apply below_alloc | apply pw_below_drewN | apply below_drew1 | refine below_set ?_ GE176.out | refine below_set ?_ GE189.out | refine below_set ?_ GE200.out) | exact HB.out))) : w.heap.size ≤ gb207)); replace HB := Aside0.mk (below_step (by repeat (first | (with_reducible first | exact HB.out | apply below_alloc | apply pw_below_drewN | apply below_drew1 | refine below_set ?_ GE176.out | refine below_set ?_ GE189.out | refine below_set ?_ GE200.out) | exact HB.out)) hb); have NB176_207 := Aside0.mk ((by rw [hg]; exact Nat.ne_of_lt (blk_lt (g := gb176) (o := .cells #[.int .i64 t165, .int .i64 t166, .int .i64 t167, .int .i64 t168, .int .i64 t169, .int .i64 t170, .int .i64 t171, .int .i64 t172, .int .i64 t173, .int .i64 t174, .int .i64 t175] 25 (0, 0)) (by (with_reducible repeat first | apply blk_drewN | apply blk_drew | apply blk_alloc); exact BK176.out)) : gb176 ≠ gb207)); have NB207_176 := Aside0.mk ((by rw [hg]; exact Nat.ne_of_gt (blk_lt (g := gb176) (o := .cells #[.int .i64 t165, .int .i64 t166, .int .i64 t167, .int .i64 t168, .int .i64 t169, .int .i64 t170, .int .i64 t171, .int .i64 t172, .int .i64 t173, .int .i64 t174, .int .i64 t175] 25 (0, 0)) (by (with_reducible repeat first | apply blk_drewN | apply blk_drew | apply blk_alloc); exact BK176.out)) : gb207 ≠ gb176)); replace BK176 := blkE BK176 hb; have NB189_207 := Aside0.mk ((by rw [hg]; exact Nat.ne_of_lt (blk_lt (g := gb189) (o := .cells #[.int .i64 t186, .int .i64 t187] 23 (0, 0)) (by (with_reducible repeat first | apply blk_drewN | apply blk_drew | apply blk_alloc); exact BK189.out)) : gb189 ≠ gb207)); have NB207_189 := Aside0.mk ((by rw [hg]; exact Nat.ne_of_gt (blk_lt (g := gb189) (o := .cells #[.int .i64 t186, .int .i64 t187] 23 (0, 0)) (by (with_reducible repeat first | apply blk_drewN | apply blk_drew | apply blk_alloc); exact BK189.out)) : gb207 ≠ gb189)); replace BK189 := blkE BK189 hb; have NB200_207 := Aside0.mk ((by rw [hg]; exact Nat.ne_of_lt (blk_lt (g := gb200) (o := .cells #[.int .i64 t197, .int .i64 t198] 23 (0, 0)) (by (with_reducible repeat first | apply blk_drewN | apply blk_drew | apply blk_alloc); exact BK200.out)) : gb200 ≠ gb207)); have NB207_200 := Aside0.mk ((by rw [hg]; exact Nat.ne_of_gt (blk_lt (g := gb200) (o := .cells #[.int .i64 t197, .int .i64 t198] 23 (0, 0)) (by (with_reducible repeat first | apply blk_drewN | apply blk_drew | apply blk_alloc); exact BK200.out)) : gb207 ≠ gb200)); replace BK200 := blkE BK200 hb; clear hb hbox hg; have hnb125 := NB207_176.out; have hnc125 := NB176_207.out; have hnb126 := NB207_189.out; have hnc126 := NB189_207.out; have hnb127 := NB207_200.out; have hnc127 := NB200_207.out; obtain ⟨hcz128_0, hcz128_1⟩ := cells2 BK207.out; obtain ⟨hfz128_0, hfz128_1⟩ := froz2 BK207.out; obtain ⟨hcz129_0, hcz129_1, hcz129_2, hcz129_3, hcz129_4, hcz129_5, hcz129_6, hcz129_7, hcz129_8, hcz129_9, hcz129_10⟩ := cells11 BK176.out; obtain ⟨hfz129_0, hfz129_1, hfz129_2, hfz129_3, hfz129_4, hfz129_5, hfz129_6, hfz129_7, hfz129_8, hfz129_9, hfz129_10⟩ := froz11 BK176.out) | (go_at_call 15; (with_reducible refine (ware_Stands.calls t165 t166 t167 t168 t169 t170 t171 t172 t173 t174 t175 (wrap64 (t194 + 1)) false t209 _ A100.out).mono ?_); rintro e w130 ⟨rfl, hb⟩; replace BK176 := Aside0.mk (blk_below (g := gb176) (o := .cells #[.int .i64 t165, .int .i64 t166, .int .i64 t167, .int .i64 t168, .int .i64 t169, .int .i64 t170, .int .i64 t171, .int .i64 t172, .int .i64 t173, .int .i64 t174, .int .i64 t175] 25 (0, 0)) (by (with_reducible repeat first | apply blk_drewN | apply blk_drew | apply blk_alloc); refine blk_far ?_ NB176_207.out _; (with_reducible repeat first | apply blk_drewN | apply blk_drew | apply blk_alloc); refine blk_far ?_ NB176_207.out _; (with_reducible repeat first | apply blk_drewN | apply blk_drew | apply blk_alloc); exact BK176.out) hb); replace BK189 := Aside0.mk (blk_below (g := gb189) (o := .cells #[.int .i64 t186, .int .i64 t187] 23 (0, 0)) (by (with_reducible repeat first | apply blk_drewN | apply blk_drew | apply blk_alloc); refine blk_far ?_ NB189_207.out _; (with_reducible repeat first | apply blk_drewN | apply blk_drew | apply blk_alloc); refine blk_far ?_ NB189_207.out _; (with_reducible repeat first | apply blk_drewN | apply blk_drew | apply blk_alloc); exact BK189.out) hb); replace BK200 := Aside0.mk (blk_below (g := gb200) (o := .cells #[.int .i64 t197, .int .i64 t198] 23 (0, 0)) (by (with_reducible repeat first | apply blk_drewN | apply blk_drew | apply blk_alloc); refine blk_far ?_ NB200_207.out _; (with_reducible repeat first | apply blk_drewN | apply blk_drew | apply blk_alloc); refine blk_far ?_ NB200_207.out _; (with_reducible repeat first | apply blk_drewN | apply blk_drew | apply blk_alloc); exact BK200.out) hb); replace BK207 := Aside0.mk (blk_below (g := gb207) (o := .cells #[.int .i64 t204, .int .i64 t205] 23 (0, 0)) (by (with_reducible repeat first | apply blk_drewN | apply blk_drew | apply blk_alloc); refine blk_put (cs := #[.int .i64 t204, .int .i64 0]) ?_ 1 _ rfl; (with_reducible repeat first | apply blk_drewN | apply blk_drew | apply blk_alloc); refine blk_put (cs := #[.int .i64 0, .int .i64 0]) ?_ 0 _ rfl; (with_reducible repeat first | apply blk_drewN | apply blk_drew | apply blk_alloc); exact BK207.out) hb); replace HB := Aside0.mk (below_step (by repeat (first | (with_reducible first | exact HB.out | apply below_alloc | apply pw_below_drewN | apply below_drew1 | refine below_set ?_ GE176.out | refine below_set ?_ GE189.out | refine below_set ?_ GE200.out | refine below_set ?_ GE207.out) | exact HB.out)) hb); (try clear hb); (try clear hb2); (try clear hk); (try clear hi)) | (go_at_call 19; (with_reducible refine (potbanklaw01_sane.calls  t211 _ A119.out).mono ?_); rintro e w131 ⟨rfl, hb⟩; replace BK176 := blkE BK176 hb; replace BK189 := blkE BK189 hb; replace BK200 := blkE BK200 hb; replace BK207 := blkE BK207 hb; replace HB := Aside0.mk (below_step (by repeat (first | (with_reducible first | exact HB.out | apply below_alloc | apply pw_below_drewN | apply below_drew1 | refine below_set ?_ GE176.out | refine below_set ?_ GE189.out | refine below_set ?_ GE200.out | refine below_set ?_ GE207.out) | exact HB.out)) hb); (try clear hb); (try clear hb2); (try clear hk); (try clear hi))); try go_wp2_with (first | (go_at_call 11; (with_reducible refine (ware_Height.calls t165 t166 t167 t168 t169 t170 t171 t172 t173 t174 t175 (wrap64 (t194 + 1)) t204 t205 t206 _ A99.out).mono ?_); rintro e w123 ⟨rfl, hb⟩; replace BK176 := blkE BK176 hb; replace BK189 := blkE BK189 hb; replace BK200 := blkE BK200 hb; replace HB := Aside0.mk (below_step (by repeat (first | (with_reducible first | exact HB.out | apply below_alloc | apply pw_below_drewN | apply below_drew1 | refine below_set ?_ GE176.out | refine below_set ?_ GE189.out | refine below_set ?_ GE200.out) | exact HB.out)) hb); (try clear hb); (try clear hb2); (try clear hk); (try clear hi)) | ((with_reducible refine gate_dst (N := 25) rfl ?_); refine box_event ?hg (N := 25) ?hd (cs := #[.int .i64 0, .int .i64 0]) (t := 23) ?hr ?_; (case hd => rfl); (case hg => rfl); (case hr => first | (go_simp; done) | (go_simp; rfl)); intro gb207 hg w124 hbox hb; have BK207 := Aside0.mk (hbox); have GW207 := Aside0.mk ((by rw [hg]; exact (below_size (by repeat (first | (with_reducible first | exact HB.out | apply below_alloc | apply pw_below_drewN | apply below_drew1 | refine below_set ?_ GE176.out | refine below_set ?_ GE189.out | refine below_set ?_ GE200.out) | exact HB.out))) : w.heap.size ≤ gb207)); have GE207 := Aside0.mk ((by rw [hg]; exact (below_size (by repeat (first | (with_reducible first | exact HB.out | apply below_alloc | apply pw_below_drewN | apply below_drew1 | refine below_set ?_ GE176.out | refine below_set ?_ GE189.out | refine below_set ?_ GE200.out) | exact HB.out))) : w.heap.size ≤ gb207)); replace HB := Aside0.mk (below_step (by repeat (first | (with_reducible first | exact HB.out | apply below_alloc | apply pw_below_drewN | apply below_drew1 | refine below_set ?_ GE176.out | refine below_set ?_ GE189.out | refine below_set ?_ GE200.out) | exact HB.out)) hb); have NB176_207 := Aside0.mk ((by rw [hg]; exact Nat.ne_of_lt (blk_lt (g := gb176) (o := .cells #[.int .i64 t165, .int .i64 t166, .int .i64 t167, .int .i64 t168, .int .i64 t169, .int .i64 t170, .int .i64 t171, .int .i64 t172, .int .i64 t173, .int .i64 t174, .int .i64 t175] 25 (0, 0)) (by (with_reducible repeat first | apply blk_drewN | apply blk_drew | apply blk_alloc); exact BK176.out)) : gb176 ≠ gb207)); have NB207_176 := Aside0.mk ((by rw [hg]; exact Nat.ne_of_gt (blk_lt (g := gb176) (o := .cells #[.int .i64 t165, .int .i64 t166, .int .i64 t167, .int .i64 t168, .int .i64 t169, .int .i64 t170, .int .i64 t171, .int .i64 t172, .int .i64 t173, .int .i64 t174, .int .i64 t175] 25 (0, 0)) (by (with_reducible repeat first | apply blk_drewN | apply blk_drew | apply blk_alloc); exact BK176.out)) : gb207 ≠ gb176)); replace BK176 := blkE BK176 hb; have NB189_207 := Aside0.mk ((by rw [hg]; exact Nat.ne_of_lt (blk_lt (g := gb189) (o := .cells #[.int .i64 t186, .int .i64 t187] 23 (0, 0)) (by (with_reducible repeat first | apply blk_drewN | apply blk_drew | apply blk_alloc); exact BK189.out)) : gb189 ≠ gb207)); have NB207_189 := Aside0.mk ((by rw [hg]; exact Nat.ne_of_gt (blk_lt (g := gb189) (o := .cells #[.int .i64 t186, .int .i64 t187] 23 (0, 0)) (by (with_reducible repeat first | apply blk_drewN | apply blk_drew | apply blk_alloc); exact BK189.out)) : gb207 ≠ gb189)); replace BK189 := blkE BK189 hb; have NB200_207 := Aside0.mk ((by rw [hg]; exact Nat.ne_of_lt (blk_lt (g := gb200) (o := .cells #[.int .i64 t197, .int .i64 t198] 23 (0, 0)) (by (with_reducible repeat first | apply blk_drewN | apply blk_drew | apply blk_alloc); exact BK200.out)) : gb200 ≠ gb207)); have NB207_200 := Aside0.mk ((by rw [hg]; exact Nat.ne_of_gt (blk_lt (g := gb200) (o := .cells #[.int .i64 t197, .int .i64 t198] 23 (0, 0)) (by (with_reducible repeat first | apply blk_drewN | apply blk_drew | apply blk_alloc); exact BK200.out)) : gb207 ≠ gb200)); replace BK200 := blkE BK200 hb; clear hb hbox hg; have hnb125 := NB207_176.out; have hnc125 := NB176_207.out; have hnb126 := NB207_189.out; have hnc126 := NB189_207.out; have hnb127 := NB207_200.out; have hnc127 := NB200_207.out; obtain ⟨hcz128_0, hcz128_1⟩ := cells2 BK207.out; obtain ⟨hfz128_0, hfz128_1⟩ := froz2 BK207.out; obtain ⟨hcz129_0, hcz129_1, hcz129_2, hcz129_3, hcz129_4, hcz129_5, hcz129_6, hcz129_7, hcz129_8, hcz129_9, hcz129_10⟩ := cells11 BK176.out; obtain ⟨hfz129_0, hfz129_1, hfz129_2, hfz129_3, hfz129_4, hfz129_5, hfz129_6, hfz129_7, hfz129_8, hfz129_9, hfz129_10⟩ := froz11 BK176.out) | (go_at_call 15; (with_reducible refine (ware_Stands.calls t165 t166 t167 t168 t169 t170 t171 t172 t173 t174 t175 (wrap64 (t194 + 1)) false t209 _ A100.out).mono ?_); rintro e w130 ⟨rfl, hb⟩; replace BK176 := Aside0.mk (blk_below (g := gb176) (o := .cells #[.int .i64 t165, .int .i64 t166, .int .i64 t167, .int .i64 t168, .int .i64 t169, .int .i64 t170, .int .i64 t171, .int .i64 t172, .int .i64 t173, .int .i64 t174, .int .i64 t175] 25 (0, 0)) (by (with_reducible repeat first | apply blk_drewN | apply blk_drew | apply blk_alloc); refine blk_far ?_ NB176_207.out _; (with_reducible repeat first | apply blk_drewN | apply blk_drew | apply blk_alloc); refine blk_far ?_ NB176_207.out _; (with_reducible repeat first | apply blk_drewN | apply blk_drew | apply blk_alloc); exact BK176.out) hb); replace BK189 := Aside0.mk (blk_below (g := gb189) (o := .cells #[.int .i64 t186, .int .i64 t187] 23 (0, 0)) (by (with_reducible repeat first | apply blk_drewN | apply blk_drew | apply blk_alloc); refine blk_far ?_ NB189_207.out _; (with_reducible repeat first | apply blk_drewN | apply blk_drew | apply blk_alloc); refine blk_far ?_ NB189_207.out _; (with_reducible repeat first | apply blk_drewN | apply blk_drew | apply blk_alloc); exact BK189.out) hb); replace BK200 := Aside0.mk (blk_below (g := gb200) (o := .cells #[.int .i64 t197, .int .i64 t198] 23 (0, 0)) (by (with_reducible repeat first | apply blk_drewN | apply blk_drew | apply blk_alloc); refine blk_far ?_ NB200_207.out _; (with_reducible repeat first | apply blk_drewN | apply blk_drew | apply blk_alloc); refine blk_far ?_ NB200_207.out _; (with_reducible repeat first | apply blk_drewN | apply blk_drew | apply blk_alloc); exact BK200.out) hb); replace BK207 := Aside0.mk (blk_below (g := gb207) (o := .cells #[.int .i64 t204, .int .i64 t205] 23 (0, 0)) (by (with_reducible repeat first | apply blk_drewN | apply blk_drew | apply blk_alloc); refine blk_put (cs := #[.int .i64 t204, .int .i64 0]) ?_ 1 _ rfl; (with_reducible repeat first | apply blk_drewN | apply blk_drew | apply blk_alloc); refine blk_put (cs := #[.int .i64 0, .int .i64 0]) ?_ 0 _ rfl; (with_reducible repeat first | apply blk_drewN | apply blk_drew | apply blk_alloc); exact BK207.out) hb); replace HB := Aside0.mk (below_step (by repeat (first | (with_reducible first | exact HB.out | apply below_alloc | apply pw_below_drewN | apply below_drew1 | refine below_set ?_ GE176.out | refine below_set ?_ GE189.out | refine below_set ?_ GE200.out | refine below_set ?_ GE207.out) | exact HB.out)) hb); (try clear hb); (try clear hb2); (try clear hk); (try clear hi)) | (go_at_call 19; (with_reducible refine (potbanklaw01_sane.calls  t211 _ A119.out).mono ?_); rintro e w131 ⟨rfl, hb⟩; replace BK176 := blkE BK176 hb; replace BK189 := blkE BK189 hb; replace BK200 := blkE BK200 hb; replace BK207 := blkE BK207 hb; replace HB := Aside0.mk (below_step (by repeat (first | (with_reducible first | exact HB.out | apply below_alloc | apply pw_below_drewN | apply below_drew1 | refine below_set ?_ GE176.out | refine below_set ?_ GE189.out | refine below_set ?_ GE200.out | refine below_set ?_ GE207.out) | exact HB.out)) hb); (try clear hb); (try clear hb2); (try clear hk); (try clear hi))))
                                      go_ret
                                      exact ⟨by first | rfl | (simp [errW_none, errW_some] <;> rfl) | (simp [*, errW_none, errW_some] <;> rfl), by repeat (first | (with_reducible first | exact HB.out | apply below_alloc | apply pw_below_drewN | apply below_drew1 | refine below_set ?_ GE176.out | refine below_set ?_ GE189.out | refine below_set ?_ GE200.out | refine below_set ?_ GE207.out) | exact HB.out)⟩
                                · rw [if_neg c102] at H
                                  exact absurd H (by simp)
                              · rw [if_neg c101] at H
                                exact absurd H (by simp)
  · rw [if_neg c7] at H
    exact absurd H (by simp)

/-- THE ONE PURE STATEMENT of potbanklaw01_WareStands: yours. -/
def potbanklaw01_WareStands.Pure : Prop := ∀ (l0 : List Int) (a1 : Int) (l2 : List Int), l0.length ≤ maxLen → l0.length * 8 ≤ 140737488351232 → (∀ x ∈ l0, (Lit.int .i64 x).wf = true) → (Lit.int .i64 a1).wf = true → l2.length ≤ maxLen → l2.length * 8 ≤ 140737488351232 → (∀ x ∈ l2, (Lit.int .i64 x).wf = true) → ∃ k, potbanklaw01_WareStands.f k l0 a1 l2 = some true
theorem potbanklaw01_WareStands.walk (P : potbanklaw01_WareStands.Pure) (a0 : Option Addr) (len0 cap0 : Nat) (z0 : List Int) (a1 : Int) (a2 : Option Addr) (len2 cap2 : Nat) (z2 : List Int) (w : World) (w0 : (a0 = none ∧ len0 = 0 ∧ cap0 = 0 ∧ z0 = []) ∨ ∃ x, a0 = some x ∧ len0 ≤ cap0 ∧ cap0 ≤ maxLen ∧ z0.length = cap0 ∧ (∀ i, i < z0.length → w.cell? (x.add i) = some (.int .i64 (z0.getD i 0))) ∧ ∀ n ∈ z0, (Lit.int .i64 n).wf = true) (y0 : len0 * 8 ≤ 140737488351232) (w1 : (Lit.int .i64 a1).wf = true) (w2 : (a2 = none ∧ len2 = 0 ∧ cap2 = 0 ∧ z2 = []) ∨ ∃ x, a2 = some x ∧ len2 ≤ cap2 ∧ cap2 ≤ maxLen ∧ z2.length = cap2 ∧ (∀ i, i < z2.length → w.cell? (x.add i) = some (.int .i64 (z2.getD i 0))) ∧ ∀ n ∈ z2, (Lit.int .i64 n).wf = true) (y2 : len2 * 8 ≤ 140737488351232) :
    Calls Try.prog 4 #[.slice a0 len0 cap0, .int .i64 a1, .slice a2 len2 cap2] w fun e w' => e = .returned (.bool true) ∧ Below w.heap.size w w' := by
  obtain ⟨l0, rfl, hr0, hm0, hw0, hc0⟩ := ReadsInt.ofRowC w0
  obtain ⟨l2, rfl, hr2, hm2, hw2, hc2⟩ := ReadsInt.ofRowC w2
  obtain ⟨k, h⟩ := P l0 a1 l2 hm0 y0 hw0 w1 hm2 y2 hw2
  refine (potbanklaw01_WareStands.calls k _ _ l0 a1 _ _ l2 true w (Kd.C_of_reads (d := (0 : Int)) (h1 := fun _ => rfl) hr0) hc0 (Kd.C_of_reads (d := (0 : Int)) (h1 := fun _ => rfl) hr2) hc2 h).mono ?_
  rintro e w' ⟨rfl, hd⟩
  exact ⟨rfl, hd⟩

end Go.Proofs.Ytcgokimagimamaa.F
