
/- Layer 1, the law of checks in plain Lean: the program's lists against the reference's loops. -/
import Derived.Test.YtcgokimagimamaaMRowCh2
import Derived.Test.YtcgokimagimamaaF9
import Derived.Test.YtcgokimagimamaaF40
import Derived.Test.YtcgokimagimamaaF72
import Derived.Test.YtcgokimagimamaaF44
import Derived.Test.YtcgokimagimamaaF39
import Derived.Test.YtcgokimagimamaaF41
namespace Go.Proofs.Ytcgokimagimamaa.F
open Go.RowKit Go.Proofs.YtcgokimagimamaaW.PrintWords
set_option linter.unusedVariables false
set_option linter.unusedSimpArgs false
set_option maxRecDepth 100000
theorem saneC_f : potbanklaw01_sane.f = some true := rfl
/-- From i on, d elements: each is allowed, and its number is above the one's before it. -/
def risesFrom {α : Type} (ok : α → Bool) (id : α → Int) (z : α) (l : List α) : Nat → Nat → Bool
  | _, 0 => true
  | i, d + 1 => ok (l.getD i z) && ((i == 0 || decide (id (l.getD (i - 1) z) < id (l.getD i z))) && risesFrom ok id z l (i + 1) d)
theorem rises_all {α : Type} {ok : α → Bool} {id : α → Int} {z : α} {l : List α} (h : ∀ j, j < l.length → ok (l.getD j z) = true) : ∀ (d i : Nat), i + d ≤ l.length → risesFrom ok id z l i d = risesFrom (fun _ => true) id z l i d
  | 0, _, _ => rfl
  | d + 1, i, he => by simp only [risesFrom, h i (by omega), rises_all h d (i + 1) (by omega)]
theorem rises_bad {α : Type} {ok : α → Bool} {id : α → Int} {z : α} {l : List α} {j : Nat} (hj : ok (l.getD j z) = false) : ∀ (d i : Nat), i ≤ j → j < i + d → risesFrom ok id z l i d = false
  | 0, _, _, _ => absurd ‹_› (by omega)
  | d + 1, i, h1, h2 => by
    by_cases he : i = j
    · subst he; simp only [risesFrom, hj, Bool.false_and]
    · simp only [risesFrom, rises_bad hj d (i + 1) (by omega) (by omega), Bool.and_false]
theorem rd_Shape {l : List S25} {i : Nat} (h : i < l.length) : rd_T94 ((l.map shapeOf).map wshape) (i : Int) = wshape (shapeOf (rd_T25 l i)) := by
  unfold rd_T94 rd_T25
  simp [List.getD_eq_getElem?_getD, h]
def okShapeAt (x : S25) : Bool := okShape (shapeOf x)
theorem rises_Shape (l : List S25) (hl : l.length ≤ 40) : ∀ (d i k : Nat), i + d = l.length → d < k → ware_shape_78.l0 k ((l.map shapeOf).map wshape) (l.length : Int) (i : Int) = some (risesFrom (fun _ => true) (fun x => x.f0) z25 l i d)
  | 0, i, 0, _, h => absurd h (by omega)
  | 0, i, k + 1, he, _ => by
    unfold ware_shape_78.l0
    rw [if_neg (by omega)]; rfl
  | d + 1, i, 0, _, h => absurd h (by omega)
  | d + 1, i, k + 1, he, h => by
    have ih := rises_Shape l hl d (i + 1) k (by omega) (by omega)
    have hw : wrap64 ((i : Int) + 1) = ((i + 1 : Nat) : Int) := by rw [wrap_id (by omega) (by omega)]; omega
    unfold ware_shape_78.l0
    rw [if_pos (by omega)]
    by_cases h0 : i = 0
    · subst h0
      rw [if_neg (by omega), hw, ih]; simp [risesFrom]
    · have hv : wrap64 ((i : Int) - 1) = ((i - 1 : Nat) : Int) := by rw [wrap_id (by omega) (by omega)]; omega
      have a1 := rd_Shape (l := l) (i := i) (by omega)
      have a2 := rd_Shape (l := l) (i := i - 1) (by omega)
      have b1 : rd_T25 l ((i : Nat) : Int) = l.getD i z25 := rfl
      have b2 : rd_T25 l ((i - 1 : Nat) : Int) = l.getD (i - 1) z25 := rfl
      have hn : ((((l.map shapeOf).map wshape).length : Nat) : Int) = (l.length : Int) := by simp
      have hz : (i == 0) = false := by simp [h0]
      rw [if_pos (by omega)]
      simp only [hv, a1, a2, hn]
      rw [if_pos (by omega), if_pos (by omega)]
      unfold ware_shape_id.f
      simp only [Option.bind_some]
      rw [if_pos (by omega), if_pos (by omega)]
      simp only [hw, ih, b1, b2, risesFrom, wshape, shapeOf]
      by_cases hc : (l.getD (i - 1) z25).f0 ≥ (l.getD i z25).f0
      · rw [if_pos hc, hz, decide_eq_false (Int.not_lt.2 hc)]; rfl
      · rw [if_neg hc, hz, decide_eq_true (Int.not_le.1 hc)]; rfl
theorem found_Shape (l : List S25) (hl : l.length ≤ 40) (a : Int) (s : List S25) (b : List S43) (hb : s = l) : ∀ (d i k : Nat), i + d = l.length → d < k → ∃ r, ware_shape_70.l0 k a ((l.map shapeOf).map wshape) (l.length : Int) (i : Int) = some r ∧ potbankref01_Shape.l0 k a (i : Int) s b = some r
  | 0, i, 0, _, h => absurd h (by omega)
  | 0, i, k + 1, he, _ => by
    unfold ware_shape_70.l0 potbankref01_Shape.l0
    rw [hb, if_neg (by omega), if_neg (by omega)]
    exact ⟨_, rfl, rfl⟩
  | d + 1, i, 0, _, h => absurd h (by omega)
  | d + 1, i, k + 1, he, h => by
    obtain ⟨r, i1, i2⟩ := found_Shape l hl a s b hb d (i + 1) k (by omega) (by omega)
    have hw : wrap64 ((i : Int) + 1) = ((i + 1 : Nat) : Int) := by rw [wrap_id (by omega) (by omega)]; omega
    have a1 := rd_Shape (l := l) (i := i) (by omega)
    have hn : ((((l.map shapeOf).map wshape).length : Nat) : Int) = (l.length : Int) := by simp
    unfold ware_shape_70.l0 potbankref01_Shape.l0
    rw [hb] at i2 ⊢
    simp only [a1, hn]
    rw [if_pos (by omega), if_pos (by omega), if_pos (by omega), if_pos (by omega), if_pos (by omega)]
    unfold ware_shape_id.f
    simp only [Option.bind_some, hw, i1, i2]
    by_cases hc : (rd_T25 l i).f0 = a
    · rw [if_pos hc, if_pos (show (wshape (shapeOf (rd_T25 l i))).f0 = a from hc)]; exact ⟨_, rfl, rfl⟩
    · rw [if_neg hc, if_neg (show ¬ (wshape (shapeOf (rd_T25 l i))).f0 = a from hc)]; exact ⟨_, rfl, rfl⟩
theorem any_Shape {l : List S25} : ((l.map shapeOf).any fun s => !okShape s) = false ↔ ∀ j, j < l.length → okShapeAt (l.getD j z25) = true := by
  rw [List.any_eq_false]
  constructor
  · intro h j hj
    have := h (shapeOf l[j]) (List.mem_map_of_mem (List.getElem_mem hj))
    rw [List.getD_eq_getElem?_getD, List.getElem?_eq_getElem hj]
    simpa [okShapeAt] using this
  · intro h x hx
    obtain ⟨y, hy, rfl⟩ := List.mem_map.1 hx
    obtain ⟨j, hj, rfl⟩ := List.getElem_of_mem hy
    have := h j hj
    rw [List.getD_eq_getElem?_getD, List.getElem?_eq_getElem hj] at this
    simpa [okShapeAt] using this

theorem rd_Body {l : List S43} {i : Nat} (h : i < l.length) : rd_T99 ((l.map bodyOf).map wbody) (i : Int) = wbody (bodyOf (rd_T43 l i)) := by
  unfold rd_T99 rd_T43
  simp [List.getD_eq_getElem?_getD, h]
def okBodyAt (x : S43) : Bool := okBody (bodyOf x)
theorem rises_Body (l : List S43) (hl : l.length ≤ 40) : ∀ (d i k : Nat), i + d = l.length → d < k → ware_body_79.l0 k ((l.map bodyOf).map wbody) (l.length : Int) (i : Int) = some (risesFrom (fun _ => true) (fun x => x.f0) z43 l i d)
  | 0, i, 0, _, h => absurd h (by omega)
  | 0, i, k + 1, he, _ => by
    unfold ware_body_79.l0
    rw [if_neg (by omega)]; rfl
  | d + 1, i, 0, _, h => absurd h (by omega)
  | d + 1, i, k + 1, he, h => by
    have ih := rises_Body l hl d (i + 1) k (by omega) (by omega)
    have hw : wrap64 ((i : Int) + 1) = ((i + 1 : Nat) : Int) := by rw [wrap_id (by omega) (by omega)]; omega
    unfold ware_body_79.l0
    rw [if_pos (by omega)]
    by_cases h0 : i = 0
    · subst h0
      rw [if_neg (by omega), hw, ih]; simp [risesFrom]
    · have hv : wrap64 ((i : Int) - 1) = ((i - 1 : Nat) : Int) := by rw [wrap_id (by omega) (by omega)]; omega
      have a1 := rd_Body (l := l) (i := i) (by omega)
      have a2 := rd_Body (l := l) (i := i - 1) (by omega)
      have b1 : rd_T43 l ((i : Nat) : Int) = l.getD i z43 := rfl
      have b2 : rd_T43 l ((i - 1 : Nat) : Int) = l.getD (i - 1) z43 := rfl
      have hn : ((((l.map bodyOf).map wbody).length : Nat) : Int) = (l.length : Int) := by simp
      have hz : (i == 0) = false := by simp [h0]
      rw [if_pos (by omega)]
      simp only [hv, a1, a2, hn]
      rw [if_pos (by omega), if_pos (by omega)]
      unfold ware_body_id.f
      simp only [Option.bind_some]
      rw [if_pos (by omega), if_pos (by omega)]
      simp only [hw, ih, b1, b2, risesFrom, wbody, bodyOf]
      by_cases hc : (l.getD (i - 1) z43).f0 ≥ (l.getD i z43).f0
      · rw [if_pos hc, hz, decide_eq_false (Int.not_lt.2 hc)]; rfl
      · rw [if_neg hc, hz, decide_eq_true (Int.not_le.1 hc)]; rfl
theorem found_Body (l : List S43) (hl : l.length ≤ 40) (a : Int) (s : List S25) (b : List S43) (hb : b = l) : ∀ (d i k : Nat), i + d = l.length → d < k → ∃ r, ware_body_72.l0 k a ((l.map bodyOf).map wbody) (l.length : Int) (i : Int) = some r ∧ potbankref01_Body.l0 k a (i : Int) s b = some r
  | 0, i, 0, _, h => absurd h (by omega)
  | 0, i, k + 1, he, _ => by
    unfold ware_body_72.l0 potbankref01_Body.l0
    rw [hb, if_neg (by omega), if_neg (by omega)]
    exact ⟨_, rfl, rfl⟩
  | d + 1, i, 0, _, h => absurd h (by omega)
  | d + 1, i, k + 1, he, h => by
    obtain ⟨r, i1, i2⟩ := found_Body l hl a s b hb d (i + 1) k (by omega) (by omega)
    have hw : wrap64 ((i : Int) + 1) = ((i + 1 : Nat) : Int) := by rw [wrap_id (by omega) (by omega)]; omega
    have a1 := rd_Body (l := l) (i := i) (by omega)
    have hn : ((((l.map bodyOf).map wbody).length : Nat) : Int) = (l.length : Int) := by simp
    unfold ware_body_72.l0 potbankref01_Body.l0
    rw [hb] at i2 ⊢
    simp only [a1, hn]
    rw [if_pos (by omega), if_pos (by omega), if_pos (by omega), if_pos (by omega), if_pos (by omega)]
    unfold ware_body_id.f
    simp only [Option.bind_some, hw, i1, i2]
    by_cases hc : (rd_T43 l i).f0 = a
    · rw [if_pos hc, if_pos (show (wbody (bodyOf (rd_T43 l i))).f0 = a from hc)]; exact ⟨_, rfl, rfl⟩
    · rw [if_neg hc, if_neg (show ¬ (wbody (bodyOf (rd_T43 l i))).f0 = a from hc)]; exact ⟨_, rfl, rfl⟩
theorem any_Body {l : List S43} : ((l.map bodyOf).any fun s => !okBody s) = false ↔ ∀ j, j < l.length → okBodyAt (l.getD j z43) = true := by
  rw [List.any_eq_false]
  constructor
  · intro h j hj
    have := h (bodyOf l[j]) (List.mem_map_of_mem (List.getElem_mem hj))
    rw [List.getD_eq_getElem?_getD, List.getElem?_eq_getElem hj]
    simpa [okBodyAt] using this
  · intro h x hx
    obtain ⟨y, hy, rfl⟩ := List.mem_map.1 hx
    obtain ⟨j, hj, rfl⟩ := List.getElem_of_mem hy
    have := h j hj
    rw [List.getD_eq_getElem?_getD, List.getElem?_eq_getElem hj] at this
    simpa [okBodyAt] using this

theorem check_r1 (s : List S25) (b : List S43) (hl : b.length ≤ 12) : ∀ (d i k : Nat), i + d = b.length → d < k → potbankref01_Check.l1 k (i : Int) s b = some (errIf (risesFrom okBodyAt (fun x => x.f0) z43 b i d) 12)
  | 0, i, 0, _, h => absurd h (by omega)
  | 0, i, k + 1, he, _ => by
    unfold potbankref01_Check.l1
    rw [if_neg (by omega)]; rfl
  | d + 1, i, 0, _, h => absurd h (by omega)
  | d + 1, i, k + 1, he, h => by
    have ih := check_r1 s b hl d (i + 1) k (by omega) (by omega)
    have hw : wrap64 ((i : Int) + 1) = ((i + 1 : Nat) : Int) := by rw [wrap_id (by omega) (by omega)]; omega
    have hc : ∀ x : S43, potbankref01_CheckBody.f x.f0 x.f1.f0 x.f1.f1 x.f2.f0 x.f2.f1 x.f3.f0 x.f3.f1 = some (errIf (okBodyAt x) 11) := fun x => rfl
    have b1 : rd_T43 b ((i : Nat) : Int) = b.getD i z43 := rfl
    unfold potbankref01_Check.l1
    rw [if_pos (by omega), if_pos (by omega), hc, b1]
    simp only [Option.bind_some]
    cases ho : okBodyAt (b.getD i z43) with
    | false => rw [if_neg (by simp [errIf])]; simp only [risesFrom, ho, Bool.false_and]; rfl
    | true =>
      rw [if_pos (by simp [errIf])]
      by_cases h0 : i = 0
      · subst h0
        rw [if_neg (by omega), hw, ih]; simp only [risesFrom, ho]; rfl
      · have hv : wrap64 ((i : Int) - 1) = ((i - 1 : Nat) : Int) := by rw [wrap_id (by omega) (by omega)]; omega
        have b2 : rd_T43 b ((i - 1 : Nat) : Int) = b.getD (i - 1) z43 := rfl
        have hz : (i == 0) = false := by simp [h0]
        rw [if_pos (by omega)]
        simp only [hv, b2, hw, ih]
        rw [if_pos (by omega), if_pos (by omega)]
        simp only [risesFrom, ho, hz]
        by_cases hc : (b.getD (i - 1) z43).f0 ≥ (b.getD i z43).f0
        · rw [if_pos hc, decide_eq_false (Int.not_lt.2 hc)]; rfl
        · rw [if_neg hc, decide_eq_true (Int.not_le.1 hc)]; rfl
theorem check_r0 (s : List S25) (b : List S43) (hl : s.length ≤ 40) (hb : b.length ≤ 12) : ∀ (d i k : Nat), i + d = s.length → d + b.length + 1 < k → potbankref01_Check.l0 k (i : Int) s b = some (errIf (risesFrom okShapeAt (fun x => x.f0) z25 s i d && risesFrom okBodyAt (fun x => x.f0) z43 b 0 b.length) 12)
  | 0, i, 0, _, h => absurd h (by omega)
  | 0, i, k + 1, he, _ => by
    have h1 := check_r1 s b hb b.length 0 k (by omega) (by omega)
    unfold potbankref01_Check.l0
    rw [if_neg (by omega)]; exact h1
  | d + 1, i, 0, _, h => absurd h (by omega)
  | d + 1, i, k + 1, he, h => by
    have ih := check_r0 s b hl hb d (i + 1) k (by omega) (by omega)
    have hw : wrap64 ((i : Int) + 1) = ((i + 1 : Nat) : Int) := by rw [wrap_id (by omega) (by omega)]; omega
    have hc : ∀ x : S25, potbankref01_CheckShape.f x.f0 x.f1.f0 x.f1.f1 x.f2.f0 x.f2.f1 x.f3.f0 x.f3.f1 x.f4 x.f5.f0 x.f5.f1 x.f6 = some (errIf (okShapeAt x) 10) := fun x => rfl
    have b1 : rd_T25 s ((i : Nat) : Int) = s.getD i z25 := rfl
    unfold potbankref01_Check.l0
    rw [if_pos (by omega), if_pos (by omega), hc, b1]
    simp only [Option.bind_some]
    cases ho : okShapeAt (s.getD i z25) with
    | false => rw [if_neg (by simp [errIf])]; simp only [risesFrom, ho, Bool.false_and]; rfl
    | true =>
      rw [if_pos (by simp [errIf])]
      by_cases h0 : i = 0
      · subst h0
        rw [if_neg (by omega), hw, ih]; simp only [risesFrom, ho]; rfl
      · have hv : wrap64 ((i : Int) - 1) = ((i - 1 : Nat) : Int) := by rw [wrap_id (by omega) (by omega)]; omega
        have b2 : rd_T25 s ((i - 1 : Nat) : Int) = s.getD (i - 1) z25 := rfl
        have hz : (i == 0) = false := by simp [h0]
        rw [if_pos (by omega)]
        simp only [hv, b2, hw, ih]
        rw [if_pos (by omega), if_pos (by omega)]
        simp only [risesFrom, ho, hz]
        by_cases hc : (s.getD (i - 1) z25).f0 ≥ (s.getD i z25).f0
        · rw [if_pos hc, decide_eq_false (Int.not_lt.2 hc)]; rfl
        · rw [if_neg hc, decide_eq_true (Int.not_le.1 hc)]; rfl
/-- What Check answers, the program's and the reference's. -/
def checkS (s : List S25) (b : List S43) : Int :=
  if s.length ≤ 40 ∧ b.length ≤ 12 then errIf (risesFrom okShapeAt (fun x => x.f0) z25 s 0 s.length && risesFrom okBodyAt (fun x => x.f0) z43 b 0 b.length) 12 else 12
theorem checkS_zero {s : List S25} {b : List S43} (h : checkS s b = 0) : s.length ≤ 40 ∧ b.length ≤ 12 := by
  unfold checkS at h
  by_cases hc : s.length ≤ 40 ∧ b.length ≤ 12
  · exact hc
  · rw [if_neg hc] at h; exact absurd h (by decide)
theorem refCheck_f (s : List S25) (b : List S43) (k : Nat) (hk : 60 ≤ k) : potbankref01_Check.f k s b = some (checkS s b) := by
  obtain ⟨k, rfl⟩ : ∃ q, k = q + 1 := ⟨k - 1, by omega⟩
  unfold potbankref01_Check.f checkS
  by_cases h1 : s.length ≤ 40
  · rw [if_neg (by omega)]
    by_cases h2 : b.length ≤ 12
    · have h3 := check_r0 s b h1 h2 s.length 0 k (by omega) (by omega)
      rw [if_pos ⟨h1, h2⟩, decide_eq_false (by omega)]
      exact h3
    · rw [if_neg (fun h => h2 h.2), decide_eq_true (by omega)]
      rfl
  · rw [if_pos (by omega), if_neg (fun h => h1 h.1)]
    rfl
theorem check_f (s : List S25) (b : List S43) (k : Nat) (hk : 60 ≤ k) : ware_Check.f k s b = some (checkS s b) := by
  obtain ⟨k, rfl⟩ : ∃ q, k = q + 1 := ⟨k - 1, by omega⟩
  have hj : ware_Check.j0 (k + 1) true s b = some 12 := rfl
  unfold ware_Check.f checkS
  by_cases h1 : s.length ≤ 40
  · rw [if_neg (by omega)]
    by_cases h2 : b.length ≤ 12
    · rw [if_neg (by omega), if_pos ⟨h1, h2⟩]
      have e1 : api_Shape_74.f s = some ((s.map shapeOf).any fun x => !okShape x) := by unfold api_Shape_74.f; rw [if_pos (by omega)]
      have e2 : api_Body_76.f b = some ((b.map bodyOf).any fun x => !okBody x) := by unfold api_Body_76.f; rw [if_pos (by omega)]
      have e3 : ware_shapes.f s b = some ((s.map shapeOf).map wshape) := by unfold ware_shapes.f ware_shape_94.f; rw [if_pos (by omega)]; rfl
      have e4 : ware_bodies.f s b = some ((b.map bodyOf).map wbody) := by unfold ware_bodies.f ware_body_96.f; rw [if_pos (by omega)]; rfl
      rw [e1, e2]; simp only [Option.bind_some]
      by_cases q1 : ∀ j, j < s.length → okShapeAt (s.getD j z25) = true
      · rw [any_Shape.2 q1, if_neg (by decide)]
        by_cases q2 : ∀ j, j < b.length → okBodyAt (b.getD j z43) = true
        · rw [any_Body.2 q2, rises_all q1 _ _ (by omega), rises_all q2 _ _ (by omega)]
          have r1 := rises_Shape s (by omega) s.length 0 k (by omega) (by omega)
          have r2 := rises_Body b (by omega) b.length 0 k (by omega) (by omega)
          have f1 : ware_shape_78.f k ((s.map shapeOf).map wshape) = some (risesFrom (fun _ => true) (fun x => x.f0) z25 s 0 s.length) := by unfold ware_shape_78.f; rw [List.length_map, List.length_map]; exact r1
          have f2 : ware_body_79.f k ((b.map bodyOf).map wbody) = some (risesFrom (fun _ => true) (fun x => x.f0) z43 b 0 b.length) := by unfold ware_body_79.f; rw [List.length_map, List.length_map]; exact r2
          show ((ware_shapes.f s b).bind fun t452 => (ware_shape_78.f k t452).bind fun t455 => if t455 = true then (ware_bodies.f s b).bind fun t456 => (ware_body_79.f k t456).bind fun t459 => if t459 = true then some 0 else some 12 else some 12) = _
          rw [e3]; simp only [Option.bind_some]
          rw [f1]; simp only [Option.bind_some]
          generalize risesFrom (fun _ => true) (fun x => x.f0) z25 s 0 s.length = p at *
          generalize risesFrom (fun _ => true) (fun x => x.f0) z43 b 0 b.length = q at *
          cases p with
          | false => rfl
          | true =>
            rw [if_pos rfl, e4]; simp only [Option.bind_some]
            rw [f2]; simp only [Option.bind_some]
            cases q with
            | false => rfl
            | true => rfl
        · have e5 : ((b.map bodyOf).any fun x => !okBody x) = true := by
            cases he : ((b.map bodyOf).any fun x => !okBody x) with
            | true => rfl
            | false => exact absurd (any_Body.1 he) q2
          rw [e5, hj]
          obtain ⟨j, hq⟩ := Classical.not_forall.1 q2
          obtain ⟨hj1, hj2⟩ := Classical.not_imp.1 hq
          rw [rises_bad (j := j) (l := b) (ok := okBodyAt) (by simpa using hj2) _ _ (by omega) (by omega), Bool.and_false]; rfl
      · have e5 : ((s.map shapeOf).any fun x => !okShape x) = true := by
          cases he : ((s.map shapeOf).any fun x => !okShape x) with
          | true => rfl
          | false => exact absurd (any_Shape.1 he) q1
        rw [e5, if_pos rfl, hj]
        obtain ⟨j, hq⟩ := Classical.not_forall.1 q1
        obtain ⟨hj1, hj2⟩ := Classical.not_imp.1 hq
        rw [rises_bad (j := j) (l := s) (ok := okShapeAt) (by simpa using hj2) _ _ (by omega) (by omega), Bool.false_and]; rfl
    · rw [if_pos (by omega), if_neg (fun h => h2 h.2), hj]
  · rw [if_pos (by omega), if_neg (fun h => h1 h.1), hj]
theorem shape_fs (s : List S25) (b : List S43) (a : Int) (k : Nat) (hk : 60 ≤ k) : ∃ r, ware_Shape.f k s b a = some r ∧ potbankref01_Shape.f k s b a = some r := by
  unfold ware_Shape.f potbankref01_Shape.f
  rw [check_f s b k hk, refCheck_f s b k hk]; simp only [Option.bind_some]
  by_cases h : checkS s b = 0
  · obtain ⟨h1, h2⟩ := checkS_zero h
    obtain ⟨r, f1, f2⟩ := found_Shape s h1 a s b rfl s.length 0 k (by omega) (by omega)
    have e3 : ware_shapes.f s b = some ((s.map shapeOf).map wshape) := by unfold ware_shapes.f ware_shape_94.f; rw [if_pos (by omega)]; rfl
    have f3 : ware_shape_70.f k ((s.map shapeOf).map wshape) a = some r := by unfold ware_shape_70.f; rw [List.length_map, List.length_map]; exact f1
    rw [if_pos h, if_pos h, e3]; simp only [Option.bind_some]
    rw [f3]
    exact ⟨r, rfl, f2⟩
  · have h12 : checkS s b = 12 := by
      revert h; unfold checkS
      by_cases hc : s.length ≤ 40 ∧ b.length ≤ 12
      · rw [if_pos hc]; cases (risesFrom okShapeAt (fun x => x.f0) z25 s 0 s.length && risesFrom okBodyAt (fun x => x.f0) z43 b 0 b.length) <;> intro h
        · rfl
        · exact absurd rfl h
      · rw [if_neg hc]; intro _; rfl
    rw [if_neg h, if_neg h, h12]
    exact ⟨_, rfl, rfl⟩
theorem body_fs (s : List S25) (b : List S43) (a : Int) (k : Nat) (hk : 60 ≤ k) : ∃ r, ware_Body.f k s b a = some r ∧ potbankref01_Body.f k s b a = some r := by
  unfold ware_Body.f potbankref01_Body.f
  rw [check_f s b k hk, refCheck_f s b k hk]; simp only [Option.bind_some]
  by_cases h : checkS s b = 0
  · obtain ⟨h1, h2⟩ := checkS_zero h
    obtain ⟨r, f1, f2⟩ := found_Body b (by omega) a s b rfl b.length 0 k (by omega) (by omega)
    have e3 : ware_bodies.f s b = some ((b.map bodyOf).map wbody) := by unfold ware_bodies.f ware_body_96.f; rw [if_pos (by omega)]; rfl
    have f3 : ware_body_72.f k ((b.map bodyOf).map wbody) a = some r := by unfold ware_body_72.f; rw [List.length_map, List.length_map]; exact f1
    rw [if_pos h, if_pos h, e3]; simp only [Option.bind_some]
    rw [f3]
    exact ⟨r, rfl, f2⟩
  · have h12 : checkS s b = 12 := by
      revert h; unfold checkS
      by_cases hc : s.length ≤ 40 ∧ b.length ≤ 12
      · rw [if_pos hc]; cases (risesFrom okShapeAt (fun x => x.f0) z25 s 0 s.length && risesFrom okBodyAt (fun x => x.f0) z43 b 0 b.length) <;> intro h
        · rfl
        · exact absurd rfl h
      · rw [if_neg hc]; intro _; rfl
    rw [if_neg h, if_neg h, h12]
    exact ⟨_, rfl, rfl⟩
theorem checks_l0 (s : List S25) (b : List S43) (hl : b.length ≤ 140737488355328) : ∀ (d i k : Nat), i + d = b.length → d < k → potbanklaw01_WareChecks.l0 k (i : Int) s b = some true
  | 0, i, 0, _, h => absurd h (by omega)
  | 0, i, k + 1, he, _ => by
    unfold potbanklaw01_WareChecks.l0
    rw [if_neg (by omega), saneC_f]; rfl
  | d + 1, i, 0, _, h => absurd h (by omega)
  | d + 1, i, k + 1, he, h => by
    have ih := checks_l0 s b hl d (i + 1) k (by omega) (by omega)
    have hw : wrap64 ((i : Int) + 1) = ((i + 1 : Nat) : Int) := by rw [wrap_id (by omega) (by omega)]; omega
    have c1 : ∀ x : S43, potbankref01_CheckBody.f x.f0 x.f1.f0 x.f1.f1 x.f2.f0 x.f2.f1 x.f3.f0 x.f3.f1 = some (errIf (okBodyAt x) 11) := fun x => rfl
    have c2 : ∀ x : S43, ware_CheckBody.f x.f0 x.f1.f0 x.f1.f1 x.f2.f0 x.f2.f1 x.f3.f0 x.f3.f1 = some (errIf (okBodyAt x) 11) := fun x => rfl
    unfold potbanklaw01_WareChecks.l0
    rw [if_pos (by omega), if_pos (by omega), c1, c2]; simp only [Option.bind_some]
    rw [if_pos trivial, hw]; exact ih
theorem checks_pure (s : List S25) (b : List S43) (c0 c1 c2 c3 c4 c5 c6 c7 c8 c9 c10 n : Int) (hl : b.length ≤ 140737488355328) : ∃ k, potbanklaw01_WareChecks.f k s b c0 c1 c2 c3 c4 c5 c6 c7 c8 c9 c10 n = some true := by
  refine ⟨b.length + 60, ?_⟩
  obtain ⟨r1, p1, p2⟩ := shape_fs s b n (b.length + 60) (by omega)
  obtain ⟨r2, p3, p4⟩ := body_fs s b n (b.length + 60) (by omega)
  have h0 := checks_l0 s b hl b.length 0 (b.length + 60) (by omega) (by omega)
  have g1 : ware_CheckShape.f c0 c1 c2 c3 c4 c5 c6 c7 c8 c9 c10 = potbankref01_CheckShape.f c0 c1 c2 c3 c4 c5 c6 c7 c8 c9 c10 := rfl
  obtain ⟨q, g2⟩ : ∃ q, potbankref01_CheckShape.f c0 c1 c2 c3 c4 c5 c6 c7 c8 c9 c10 = some q := ⟨_, rfl⟩
  unfold potbanklaw01_WareChecks.f
  rw [p1, p2, p3, p4, g1, g2, check_f s b _ (by omega), refCheck_f s b _ (by omega)]
  simp only [Option.bind_some, beq_self_eq_true, Bool.not_true, Bool.or_false, if_true, Bool.false_eq_true, if_false]
  exact h0
end Go.Proofs.Ytcgokimagimamaa.F
