/- Layer 1: lists of shapes and bodies, in the form that printed callers take. -/
import Derived.Test.YtcgokimagimamaaMRowCh1
import Derived.Test.YtcgokimagimamaaGH
namespace Go.Proofs.Ytcgokimagimamaa.F
open Go.RowKit Go.Proofs.YtcgokimagimamaaW.PrintWords
set_option linter.unusedVariables false
set_option linter.unusedSimpArgs false
set_option maxRecDepth 100000
theorem flatMap_window {α : Type} {enc : α → List Value} {sz : Nat} (hsz : ∀ x, (enc x).length = sz) : ∀ (xs : List α) (j : Nat) (x : α), xs[j]? = some x → ((xs.flatMap enc).drop (j * sz)).take sz = enc x
  | [], j, x, h => by simp at h
  | y :: t, 0, x, h => by
    simp at h; subst h
    rw [List.flatMap_cons, Nat.zero_mul, List.drop_zero, ← hsz y, List.take_left']
    rfl
  | y :: t, j + 1, x, h => by
    have ih := flatMap_window hsz t j x (by simpa using h)
    have e : (j + 1) * sz = (enc y).length + j * sz := by rw [hsz y, Nat.add_mul]; omega
    rw [List.flatMap_cons, e, ← List.drop_drop, List.drop_left']
    · exact ih
    · rfl
/-- A row of mine is one that the print's words own. -/
theorem r_of_own {α β : Type} {d : Kd α} {sz : Nat} {enc : β → List Value} {w : World} {base : Nat} {e : TypeId} {v : Value} {xs : List β} (f : β → α) (hsz : d.sz = sz) (hlen : ∀ x, (enc x).length = sz) (hM : ∀ (ok : Nat → Prop) (x : β), d.M w base ok (f x) (enc x))
    (h : OwnL sz enc w base e v xs) : Kd.R d e w base (fun _ => True) v (xs.map f) := by
  subst hsz
  refine ⟨fun _ _ => trivial, xs.flatMap enc, by (rw [List.length_map]; exact h), by rw [List.length_map, flatMap_len hlen], fun j p hj => ?_⟩
  rw [List.getElem?_map] at hj
  cases hx : xs[j]? with
  | none => rw [hx] at hj; cases hj
  | some y =>
    rw [hx] at hj
    obtain rfl : f y = p := by simpa using hj
    rw [flatMap_window hlen xs j y hx]
    exact hM _ y
def shapeOf (x : S25) : Shape := ⟨x.f0, ⟨x.f1.f0, x.f1.f1⟩, ⟨x.f2.f0, x.f2.f1⟩, ⟨x.f3.f0, x.f3.f1⟩, x.f4, ⟨x.f5.f0, x.f5.f1⟩, x.f6⟩
def wshape (s : Shape) : S94 := ⟨s.id, ⟨s.wide.lo, s.wide.hi⟩, ⟨s.deep.lo, s.deep.hi⟩, ⟨s.high.lo, s.high.hi⟩, s.nest, ⟨s.weight.lo, s.weight.hi⟩, s.bears⟩
def bodyOf (x : S43) : Body := ⟨x.f0, ⟨x.f1.f0, x.f1.f1⟩, ⟨x.f2.f0, x.f2.f1⟩, ⟨x.f3.f0, x.f3.f1⟩⟩
def wbody (s : Body) : S99 := ⟨s.id, ⟨s.shrink.lo, s.shrink.hi⟩, ⟨s.loss.lo, s.loss.hi⟩, ⟨s.heat.lo, s.heat.hi⟩⟩
def ware_shape_94.f (l0 : List (S25)) : Option ((List (S94))) := if l0.length ≤ 1000000000 then some ((l0.map shapeOf).map wshape) else none
theorem ware_shape_94.calls (A0 : Option Addr) (c0 : Nat) (l0 : List (S25)) (r : List (S94)) (w : World) (hr0 : Kd.C k25 w A0 l0.length l0) (hc0 : l0.length ≤ c0) (h : ware_shape_94.f l0 = some r) :
    Calls Try.prog 94 #[.slice A0 l0.length c0, .func (.func 95) #[] #[]] w fun e w' => ∃ v0_ : Value, e = .returned (v0_) ∧ Kd.R k94 94 w' w.heap.size (fun _ => True) v0_ r ∧ Below w.heap.size w w' := by
  unfold ware_shape_94.f at h
  split at h
  · rename_i q; cases h
    have hrd : Rd 11 Shape.cells w (.slice A0 l0.length c0) (l0.map shapeOf) := rd_of shapeOf rfl (by decide) (fun x cs hk => k25_open hk) hr0 hc0
    refine (listedShape_any (l0.map shapeOf) _ w hrd (by simpa using q)).mono ?_
    rintro e w' ⟨u, rfl, ho, hb⟩
    exact ⟨u, rfl, r_of_own wshape rfl (fun _ => rfl) (fun ok x => k94_mkM _ _ ok (wshape x)) ho, hb⟩
  · cases h
def ware_body_96.f (l0 : List (S43)) : Option ((List (S99))) := if l0.length ≤ 1000000000 then some ((l0.map bodyOf).map wbody) else none
theorem ware_body_96.calls (A0 : Option Addr) (c0 : Nat) (l0 : List (S43)) (r : List (S99)) (w : World) (hr0 : Kd.C k43 w A0 l0.length l0) (hc0 : l0.length ≤ c0) (h : ware_body_96.f l0 = some r) :
    Calls Try.prog 96 #[.slice A0 l0.length c0, .func (.func 97) #[] #[]] w fun e w' => ∃ v0_ : Value, e = .returned (v0_) ∧ Kd.R k99 99 w' w.heap.size (fun _ => True) v0_ r ∧ Below w.heap.size w w' := by
  unfold ware_body_96.f at h
  split at h
  · rename_i q; cases h
    have hrd : Rd 7 Body.cells w (.slice A0 l0.length c0) (l0.map bodyOf) := rd_of bodyOf rfl (by decide) (fun x cs hk => k43_open hk) hr0 hc0
    refine (listedBody_any (l0.map bodyOf) _ w hrd (by simpa using q)).mono ?_
    rintro e w' ⟨u, rfl, ho, hb⟩
    exact ⟨u, rfl, r_of_own wbody rfl (fun _ => rfl) (fun ok x => k99_mkM _ _ ok (wbody x)) ho, hb⟩
  · cases h
def api_Shape_74.f (l0 : List (S25)) : Option (Bool) := if l0.length ≤ 1000000000 then some ((l0.map shapeOf).any fun s => !okShape s) else none
theorem api_Shape_74.calls (A0 : Option Addr) (c0 : Nat) (l0 : List (S25)) (r : Bool) (w : World) (hr0 : Kd.C k25 w A0 l0.length l0) (hc0 : l0.length ≤ c0) (h : api_Shape_74.f l0 = some r) :
    Calls Try.prog 74 #[.slice A0 l0.length c0, .func (.func 75) #[] #[]] w fun e w' => e = .returned (.bool r) ∧ Below w.heap.size w w' := by
  unfold api_Shape_74.f at h
  split at h
  · rename_i q; cases h
    have hrd : Rd 11 Shape.cells w (.slice A0 l0.length c0) (l0.map shapeOf) := rd_of shapeOf rfl (by decide) (fun x cs hk => k25_open hk) hr0 hc0
    exact ContainsFuncShape (l0.map shapeOf) _ (fun s => !okShape s) 75 #[] w hrd (by simp; omega) (ent _ Try.func75 (by kernel_rfl) rfl) (fun s _ w1 _ => by simpa using Check1_any s w1)
  · cases h
def api_Body_76.f (l0 : List (S43)) : Option (Bool) := if l0.length ≤ 1000000000 then some ((l0.map bodyOf).any fun s => !okBody s) else none
theorem api_Body_76.calls (A0 : Option Addr) (c0 : Nat) (l0 : List (S43)) (r : Bool) (w : World) (hr0 : Kd.C k43 w A0 l0.length l0) (hc0 : l0.length ≤ c0) (h : api_Body_76.f l0 = some r) :
    Calls Try.prog 76 #[.slice A0 l0.length c0, .func (.func 77) #[] #[]] w fun e w' => e = .returned (.bool r) ∧ Below w.heap.size w w' := by
  unfold api_Body_76.f at h
  split at h
  · rename_i q; cases h
    have hrd : Rd 7 Body.cells w (.slice A0 l0.length c0) (l0.map bodyOf) := rd_of bodyOf rfl (by decide) (fun x cs hk => k43_open hk) hr0 hc0
    exact ContainsFuncBody (l0.map bodyOf) _ (fun s => !okBody s) 77 #[] w hrd (by simp; omega) (ent _ Try.func77 (by kernel_rfl) rfl) (fun s _ w1 _ => by simpa using Check2_any s w1)
  · cases h
end Go.Proofs.Ytcgokimagimamaa.F
/- Written by a program of mine out of the translation: what functions answer; Lean checks it. -/
namespace Go.Proofs.Ytcgokimagimamaa.F
open Go.RowKit Go.Proofs.YtcgokimagimamaaW.PrintWords Go.Proofs.YtcgokimagimamaaW.PrintLast Go.Proofs.YtcgokimagimamaaW.PrintMore
attribute [local go_sem] max2_int min2_int max_two min_two max_three min_three max_four min_four   -- for this text's walks alone
set_option linter.unusedVariables false
set_option linter.unusedSimpArgs false
theorem eqA23 (d : Nat) (w : World) (x0 y0 : Int) (x1 y1 : Int) :
    (Op.equalIn (d + 2) 23 (.agg #[.int .i64 x0, .int .i64 x1]) (.agg #[.int .i64 y0, .int .i64 y1])).run Try.prog w = .ok (x0 == y0 && (x1 == y1)) w := by
  refine eqA_of Try.underlying23 (by kernel_rfl) ?_
  refine eqf_cons (by rfl) (by go_simp; rfl) (by go_simp; rfl) (by go_simp) ?_
  exact eqf_last (by rfl) (by go_simp; rfl) (by go_simp; rfl) (by go_simp)
end Go.Proofs.Ytcgokimagimamaa.F
/- Written by a program of mine out of the translation: what functions answer; Lean checks it. -/
namespace Go.Proofs.Ytcgokimagimamaa.F
open Go.RowKit Go.Proofs.YtcgokimagimamaaW.PrintWords Go.Proofs.YtcgokimagimamaaW.PrintLast Go.Proofs.YtcgokimagimamaaW.PrintMore
attribute [local go_sem] max2_int min2_int max_two min_two max_three min_three max_four min_four   -- for this text's walks alone
set_option linter.unusedVariables false
set_option linter.unusedSimpArgs false
theorem eqA25 (d : Nat) (w : World) (x0 y0 : Int) (x1 y1 : Int) (x2 y2 : Int) (x3 y3 : Int) (x4 y4 : Int) (x5 y5 : Int) (x6 y6 : Int) (x7 y7 : Int) (x8 y8 : Int) (x9 y9 : Int) (x10 y10 : Int) :
    (Op.equalIn (d + 3) 25 (.agg #[.int .i64 x0, .int .i64 x1, .int .i64 x2, .int .i64 x3, .int .i64 x4, .int .i64 x5, .int .i64 x6, .int .i64 x7, .int .i64 x8, .int .i64 x9, .int .i64 x10]) (.agg #[.int .i64 y0, .int .i64 y1, .int .i64 y2, .int .i64 y3, .int .i64 y4, .int .i64 y5, .int .i64 y6, .int .i64 y7, .int .i64 y8, .int .i64 y9, .int .i64 y10])).run Try.prog w = .ok (x0 == y0 && ((x1 == y1 && (x2 == y2)) && ((x3 == y3 && (x4 == y4)) && ((x5 == y5 && (x6 == y6)) && (x7 == y7 && ((x8 == y8 && (x9 == y9)) && (x10 == y10))))))) w := by
  refine eqA_of Try.underlying25 (by kernel_rfl) ?_
  refine eqf_cons (by rfl) (by go_simp; rfl) (by go_simp; rfl) (by go_simp) ?_
  refine eqf_cons (by rfl) (by go_simp) (by go_simp) (eqA23 (d + 0) w _ _ _ _) ?_
  refine eqf_cons (by rfl) (by go_simp) (by go_simp) (eqA23 (d + 0) w _ _ _ _) ?_
  refine eqf_cons (by rfl) (by go_simp) (by go_simp) (eqA23 (d + 0) w _ _ _ _) ?_
  refine eqf_cons (by rfl) (by go_simp; rfl) (by go_simp; rfl) (by go_simp) ?_
  refine eqf_cons (by rfl) (by go_simp) (by go_simp) (eqA23 (d + 0) w _ _ _ _) ?_
  exact eqf_last (by rfl) (by go_simp; rfl) (by go_simp; rfl) (by go_simp)
end Go.Proofs.Ytcgokimagimamaa.F
/- Written by a program of mine out of the translation: what functions answer; Lean checks it. -/
namespace Go.Proofs.Ytcgokimagimamaa.F
open Go.RowKit Go.Proofs.YtcgokimagimamaaW.PrintWords Go.Proofs.YtcgokimagimamaaW.PrintLast Go.Proofs.YtcgokimagimamaaW.PrintMore
attribute [local go_sem] max2_int min2_int max_two min_two max_three min_three max_four min_four   -- for this text's walks alone
set_option linter.unusedVariables false
set_option linter.unusedSimpArgs false
theorem eqA43 (d : Nat) (w : World) (x0 y0 : Int) (x1 y1 : Int) (x2 y2 : Int) (x3 y3 : Int) (x4 y4 : Int) (x5 y5 : Int) (x6 y6 : Int) :
    (Op.equalIn (d + 3) 43 (.agg #[.int .i64 x0, .int .i64 x1, .int .i64 x2, .int .i64 x3, .int .i64 x4, .int .i64 x5, .int .i64 x6]) (.agg #[.int .i64 y0, .int .i64 y1, .int .i64 y2, .int .i64 y3, .int .i64 y4, .int .i64 y5, .int .i64 y6])).run Try.prog w = .ok (x0 == y0 && ((x1 == y1 && (x2 == y2)) && ((x3 == y3 && (x4 == y4)) && ((x5 == y5 && (x6 == y6)))))) w := by
  refine eqA_of Try.underlying43 (by kernel_rfl) ?_
  refine eqf_cons (by rfl) (by go_simp; rfl) (by go_simp; rfl) (by go_simp) ?_
  refine eqf_cons (by rfl) (by go_simp) (by go_simp) (eqA23 (d + 0) w _ _ _ _) ?_
  refine eqf_cons (by rfl) (by go_simp) (by go_simp) (eqA23 (d + 0) w _ _ _ _) ?_
  exact eqf_last (by rfl) (by go_simp) (by go_simp) (eqA23 (d + 0) w _ _ _ _)
end Go.Proofs.Ytcgokimagimamaa.F
/- Written by a program of mine out of the translation: what functions answer; Lean checks it. -/
namespace Go.Proofs.Ytcgokimagimamaa.F
open Go.RowKit Go.Proofs.YtcgokimagimamaaW.PrintWords Go.Proofs.YtcgokimagimamaaW.PrintLast Go.Proofs.YtcgokimagimamaaW.PrintMore
attribute [local go_sem] max2_int min2_int max_two min_two max_three min_three max_four min_four   -- for this text's walks alone
set_option linter.unusedVariables false
set_option linter.unusedSimpArgs false
/-! ### ware_shapes: function 71 -/
def ware_shapes.f (l0_0 : List (S25)) (l0_1 : List (S43)) : Option ((List (S94))) := (ware_shape_94.f l0_0).bind fun t432 => (some t432)
set_option maxHeartbeats 8000000 in
set_option maxRecDepth 100000 in
theorem ware_shapes.calls (A0_0 : Option Addr) (c0_0 : Nat) (l0_0 : List (S25)) (A0_1 : Option Addr) (c0_1 : Nat) (l0_1 : List (S43)) (r : List (S94)) (w : World) (hr0_0 : Kd.C k25 w A0_0 l0_0.length l0_0) (hc0_0 : l0_0.length ≤ c0_0) (hr0_1 : Kd.C k43 w A0_1 l0_1.length l0_1) (hc0_1 : l0_1.length ≤ c0_1) (h : ware_shapes.f l0_0 l0_1 = some r) :
    Calls Try.prog 71 #[.agg #[.slice A0_0 l0_0.length c0_0, .slice A0_1 l0_1.length c0_1]] w fun e w' => ∃ v0_ : Value, e = .returned (v0_) ∧ Kd.R k94 94 w' w.heap.size (fun _ => True) v0_ r ∧ Below w.heap.size w w' := by
  have hu66 := Try.underlying66
  have HR0_0 := Aside0.mk hr0_0
  have HC0_0 := Aside0.mk hc0_0
  clear hr0_0 hc0_0
  have HR0_1 := Aside0.mk hr0_1
  have HC0_1 := Aside0.mk hc0_1
  clear hr0_1 hc0_1
  have HB := Aside0.mk (Below.refl w.heap.size w)
  have H : ((ware_shape_94.f l0_0).bind fun t432 => (some t432)) = some r := h
  clear h
  replace H := Option.bind_eq_some_iff.mp H
  obtain ⟨t432, A20, H⟩ := H
  replace H : (some t432) = some r := H
  have A2 := Aside0.mk A20
  clear A20
  obtain rfl := Option.some.inj H
  go_enter Try.func71, Try.ntmps71
  go_wp2_with (first | ((with_reducible refine gate_dst (N := 1) rfl ?_); refine box_event ?hg (N := 1) ?hd (cs := #[.slice A0_0 l0_0.length c0_0, .slice A0_1 l0_1.length c0_1]) (t := 66) ?hr ?_; (case hd => rfl); (case hg => rfl); (case hr => first | (go_simp; done) | (go_simp; rfl)); intro gb431 hg w3 hbox hb; have n0_ := Aside0.mk (below_step (by repeat (first | (with_reducible first | exact HB.out | apply below_alloc | apply pw_below_drewN | apply below_drew1) | exact HB.out)) hb); have n1_ := Aside0.mk (hbox); have n2_ := Aside0.mk ((by rw [hg]; exact (below_size (by repeat (first | (with_reducible first | exact HB.out | apply below_alloc | apply pw_below_drewN | apply below_drew1) | exact HB.out))) : w.heap.size ≤ gb431)); have n3_ := Aside0.mk ((by rw [hg]; exact (below_size (by repeat (first | (with_reducible first | exact HB.out | apply below_alloc | apply pw_below_drewN | apply below_drew1) | exact HB.out))) : w.heap.size ≤ gb431)); clear HB; have HB := n0_; have BK431 := n1_; have GW431 := n2_; have GE431 := n3_; clear n0_ n1_ n2_ n3_; clear hb hbox hg; have hcz4_0 : w3.cell? ⟨gb431, 0, none⟩ = some (.slice A0_0 l0_0.length c0_0) := (blk_cell BK431.out 0).trans rfl; have hcz4_1 : w3.cell? ⟨gb431, 1, none⟩ = some (.slice A0_1 l0_1.length c0_1) := (blk_cell BK431.out 1).trans rfl; have hfz4_0 := blk_frozen BK431.out 0; have hfz4_1 := blk_frozen BK431.out 1) | ((with_reducible refine gate_callee (f := 94) rfl ?_); refine goesL_ (some 5) rfl rfl Try.func94 (by kernel_rfl) rfl #[.slice A0_0 l0_0.length c0_0, .func (.func 95) #[] #[]] rfl (by (try simp only [List.map_toArray, List.map_cons, List.map_nil]); first | done | rfl | (simp only [List.length_drop, List.length_take]; rfl)) ?_; (with_reducible refine (ware_shape_94.calls _ _ l0_0 t432 _ ?side1 ?side2 A2.out).mono ?_); (case side1 => repeat (first | exact (Kd.C_below HR0_0.out HB.out) | (with_reducible refine Kd.C_alloc ?_ _) | (with_reducible refine Kd.C_drewN ?_ _) | (with_reducible refine Kd.C_drew ?_))); (case side2 => exact HC0_0.out); rintro e w5 ⟨v433, rfl, ho0, hb⟩; refine ⟨_, rfl, ?_⟩; have n0_ := Aside0.mk (Kd.R_lower ho0 (below_size (by repeat (first | (with_reducible first | exact HB.out | apply below_alloc | apply pw_below_drewN | apply below_drew1 | refine below_set ?_ GE431.out) | exact HB.out)))); have n1_ := Aside0.mk (blk_below (g := gb431) (o := .cells #[.slice A0_0 l0_0.length c0_0, .slice A0_1 l0_1.length c0_1] 66 (0, 0)) (by (with_reducible repeat (first | refine blk_drewN ?_ _ | refine blk_drew ?_ | refine blk_alloc ?_ _)); exact BK431.out) hb); have n2_ := Aside0.mk (below_step (by repeat (first | (with_reducible first | exact HB.out | apply below_alloc | apply pw_below_drewN | apply below_drew1 | refine below_set ?_ GE431.out) | exact HB.out)) hb); clear BK431; clear HB; have HO434 := n0_; have BK431 := n1_; have HB := n2_; clear n0_ n1_ n2_; (try clear hb); (try clear hb2); (try clear hk); (try clear hi); (try clear ho0)))
  go_ret
  exact ⟨_, by first | rfl | (simp [errW_none, errW_some] <;> rfl) | (simp [*, errW_none, errW_some] <;> rfl), by (with_reducible repeat (first | apply Kd.R_alloc | apply Kd.R_drewN | apply Kd.R_drew)); exact HO434.out, by repeat (first | (with_reducible first | exact HB.out | apply below_alloc | apply pw_below_drewN | apply below_drew1 | refine below_set ?_ GE431.out) | exact HB.out)⟩

end Go.Proofs.Ytcgokimagimamaa.F
/- Written by a program of mine out of the translation: what functions answer; Lean checks it. -/
namespace Go.Proofs.Ytcgokimagimamaa.F
open Go.RowKit Go.Proofs.YtcgokimagimamaaW.PrintWords Go.Proofs.YtcgokimagimamaaW.PrintLast Go.Proofs.YtcgokimagimamaaW.PrintMore
attribute [local go_sem] max2_int min2_int max_two min_two max_three min_three max_four min_four   -- for this text's walks alone
set_option linter.unusedVariables false
set_option linter.unusedSimpArgs false
/-! ### ware_bodies: function 73 -/
def ware_bodies.f (l0_0 : List (S25)) (l0_1 : List (S43)) : Option ((List (S99))) := (ware_body_96.f l0_1).bind fun t436 => (some t436)
set_option maxHeartbeats 8000000 in
set_option maxRecDepth 100000 in
theorem ware_bodies.calls (A0_0 : Option Addr) (c0_0 : Nat) (l0_0 : List (S25)) (A0_1 : Option Addr) (c0_1 : Nat) (l0_1 : List (S43)) (r : List (S99)) (w : World) (hr0_0 : Kd.C k25 w A0_0 l0_0.length l0_0) (hc0_0 : l0_0.length ≤ c0_0) (hr0_1 : Kd.C k43 w A0_1 l0_1.length l0_1) (hc0_1 : l0_1.length ≤ c0_1) (h : ware_bodies.f l0_0 l0_1 = some r) :
    Calls Try.prog 73 #[.agg #[.slice A0_0 l0_0.length c0_0, .slice A0_1 l0_1.length c0_1]] w fun e w' => ∃ v0_ : Value, e = .returned (v0_) ∧ Kd.R k99 99 w' w.heap.size (fun _ => True) v0_ r ∧ Below w.heap.size w w' := by
  have hu66 := Try.underlying66
  have HR0_0 := Aside0.mk hr0_0
  have HC0_0 := Aside0.mk hc0_0
  clear hr0_0 hc0_0
  have HR0_1 := Aside0.mk hr0_1
  have HC0_1 := Aside0.mk hc0_1
  clear hr0_1 hc0_1
  have HB := Aside0.mk (Below.refl w.heap.size w)
  have H : ((ware_body_96.f l0_1).bind fun t436 => (some t436)) = some r := h
  clear h
  replace H := Option.bind_eq_some_iff.mp H
  obtain ⟨t436, A20, H⟩ := H
  replace H : (some t436) = some r := H
  have A2 := Aside0.mk A20
  clear A20
  obtain rfl := Option.some.inj H
  go_enter Try.func73, Try.ntmps73
  go_wp2_with (first | ((with_reducible refine gate_dst (N := 1) rfl ?_); refine box_event ?hg (N := 1) ?hd (cs := #[.slice A0_0 l0_0.length c0_0, .slice A0_1 l0_1.length c0_1]) (t := 66) ?hr ?_; (case hd => rfl); (case hg => rfl); (case hr => first | (go_simp; done) | (go_simp; rfl)); intro gb435 hg w3 hbox hb; have n0_ := Aside0.mk (below_step (by repeat (first | (with_reducible first | exact HB.out | apply below_alloc | apply pw_below_drewN | apply below_drew1) | exact HB.out)) hb); have n1_ := Aside0.mk (hbox); have n2_ := Aside0.mk ((by rw [hg]; exact (below_size (by repeat (first | (with_reducible first | exact HB.out | apply below_alloc | apply pw_below_drewN | apply below_drew1) | exact HB.out))) : w.heap.size ≤ gb435)); have n3_ := Aside0.mk ((by rw [hg]; exact (below_size (by repeat (first | (with_reducible first | exact HB.out | apply below_alloc | apply pw_below_drewN | apply below_drew1) | exact HB.out))) : w.heap.size ≤ gb435)); clear HB; have HB := n0_; have BK435 := n1_; have GW435 := n2_; have GE435 := n3_; clear n0_ n1_ n2_ n3_; clear hb hbox hg; have hcz4_0 : w3.cell? ⟨gb435, 0, none⟩ = some (.slice A0_0 l0_0.length c0_0) := (blk_cell BK435.out 0).trans rfl; have hcz4_1 : w3.cell? ⟨gb435, 1, none⟩ = some (.slice A0_1 l0_1.length c0_1) := (blk_cell BK435.out 1).trans rfl; have hfz4_0 := blk_frozen BK435.out 0; have hfz4_1 := blk_frozen BK435.out 1) | ((with_reducible refine gate_callee (f := 96) rfl ?_); refine goesL_ (some 5) rfl rfl Try.func96 (by kernel_rfl) rfl #[.slice A0_1 l0_1.length c0_1, .func (.func 97) #[] #[]] rfl (by (try simp only [List.map_toArray, List.map_cons, List.map_nil]); first | done | rfl | (simp only [List.length_drop, List.length_take]; rfl)) ?_; (with_reducible refine (ware_body_96.calls _ _ l0_1 t436 _ ?side1 ?side2 A2.out).mono ?_); (case side1 => repeat (first | exact (Kd.C_below HR0_1.out HB.out) | (with_reducible refine Kd.C_alloc ?_ _) | (with_reducible refine Kd.C_drewN ?_ _) | (with_reducible refine Kd.C_drew ?_))); (case side2 => exact HC0_1.out); rintro e w5 ⟨v437, rfl, ho0, hb⟩; refine ⟨_, rfl, ?_⟩; have n0_ := Aside0.mk (Kd.R_lower ho0 (below_size (by repeat (first | (with_reducible first | exact HB.out | apply below_alloc | apply pw_below_drewN | apply below_drew1 | refine below_set ?_ GE435.out) | exact HB.out)))); have n1_ := Aside0.mk (blk_below (g := gb435) (o := .cells #[.slice A0_0 l0_0.length c0_0, .slice A0_1 l0_1.length c0_1] 66 (0, 0)) (by (with_reducible repeat (first | refine blk_drewN ?_ _ | refine blk_drew ?_ | refine blk_alloc ?_ _)); exact BK435.out) hb); have n2_ := Aside0.mk (below_step (by repeat (first | (with_reducible first | exact HB.out | apply below_alloc | apply pw_below_drewN | apply below_drew1 | refine below_set ?_ GE435.out) | exact HB.out)) hb); clear BK435; clear HB; have HO438 := n0_; have BK435 := n1_; have HB := n2_; clear n0_ n1_ n2_; (try clear hb); (try clear hb2); (try clear hk); (try clear hi); (try clear ho0)))
  go_ret
  exact ⟨_, by first | rfl | (simp [errW_none, errW_some] <;> rfl) | (simp [*, errW_none, errW_some] <;> rfl), by (with_reducible repeat (first | apply Kd.R_alloc | apply Kd.R_drewN | apply Kd.R_drew)); exact HO438.out, by repeat (first | (with_reducible first | exact HB.out | apply below_alloc | apply pw_below_drewN | apply below_drew1 | refine below_set ?_ GE435.out) | exact HB.out)⟩

end Go.Proofs.Ytcgokimagimamaa.F
/- Written by a program of mine out of the translation: what functions answer; Lean checks it. -/
namespace Go.Proofs.Ytcgokimagimamaa.F
open Go.RowKit Go.Proofs.YtcgokimagimamaaW.PrintWords Go.Proofs.YtcgokimagimamaaW.PrintLast Go.Proofs.YtcgokimagimamaaW.PrintMore
attribute [local go_sem] max2_int min2_int max_two min_two max_three min_three max_four min_four   -- for this text's walks alone
set_option linter.unusedVariables false
set_option linter.unusedSimpArgs false
/-! ### ware_shape_id: function 153 -/
def ware_shape_id.f (a0_0 : Int) (a0_1 : Int) (a0_2 : Int) (a0_3 : Int) (a0_4 : Int) (a0_5 : Int) (a0_6 : Int) (a0_7 : Int) (a0_8 : Int) (a0_9 : Int) (a0_10 : Int) : Option (Int) := some a0_0
set_option maxHeartbeats 8000000 in
set_option maxRecDepth 100000 in
theorem ware_shape_id.calls (a0_0 : Int) (a0_1 : Int) (a0_2 : Int) (a0_3 : Int) (a0_4 : Int) (a0_5 : Int) (a0_6 : Int) (a0_7 : Int) (a0_8 : Int) (a0_9 : Int) (a0_10 : Int) (r : Int) (w : World) (h : ware_shape_id.f a0_0 a0_1 a0_2 a0_3 a0_4 a0_5 a0_6 a0_7 a0_8 a0_9 a0_10 = some r) :
    Calls Try.prog 153 #[.agg #[.int .i64 a0_0, .int .i64 a0_1, .int .i64 a0_2, .int .i64 a0_3, .int .i64 a0_4, .int .i64 a0_5, .int .i64 a0_6, .int .i64 a0_7, .int .i64 a0_8, .int .i64 a0_9, .int .i64 a0_10]] w fun e w' => e = .returned (.int .i64 r) ∧ Below w.heap.size w w' := by
  have hu94 := Try.underlying94
  have HB := Aside0.mk (Below.refl w.heap.size w)
  have H : (some a0_0) = some r := h
  clear h
  obtain rfl := Option.some.inj H
  go_enter Try.func153, Try.ntmps153
  go_wp2_with (first | ((with_reducible refine gate_dst (N := 1) rfl ?_); refine box_event ?hg (N := 1) ?hd (cs := #[.int .i64 a0_0, .int .i64 a0_1, .int .i64 a0_2, .int .i64 a0_3, .int .i64 a0_4, .int .i64 a0_5, .int .i64 a0_6, .int .i64 a0_7, .int .i64 a0_8, .int .i64 a0_9, .int .i64 a0_10]) (t := 94) ?hr ?_; (case hd => rfl); (case hg => rfl); (case hr => first | (go_simp; done) | (go_simp; rfl)); intro gb439 hg w2 hbox hb; have n0_ := Aside0.mk (below_step (by repeat (first | (with_reducible first | exact HB.out | apply below_alloc | apply pw_below_drewN | apply below_drew1) | exact HB.out)) hb); have n1_ := Aside0.mk (hbox); have n2_ := Aside0.mk ((by rw [hg]; exact (below_size (by repeat (first | (with_reducible first | exact HB.out | apply below_alloc | apply pw_below_drewN | apply below_drew1) | exact HB.out))) : w.heap.size ≤ gb439)); have n3_ := Aside0.mk ((by rw [hg]; exact (below_size (by repeat (first | (with_reducible first | exact HB.out | apply below_alloc | apply pw_below_drewN | apply below_drew1) | exact HB.out))) : w.heap.size ≤ gb439)); clear HB; have HB := n0_; have BK439 := n1_; have GW439 := n2_; have GE439 := n3_; clear n0_ n1_ n2_ n3_; clear hb hbox hg; have hcz3_0 : w2.cell? ⟨gb439, 0, none⟩ = some (.int .i64 a0_0) := (blk_cell BK439.out 0).trans rfl; have hcz3_1 : w2.cell? ⟨gb439, 1, none⟩ = some (.int .i64 a0_1) := (blk_cell BK439.out 1).trans rfl; have hcz3_2 : w2.cell? ⟨gb439, 2, none⟩ = some (.int .i64 a0_2) := (blk_cell BK439.out 2).trans rfl; have hcz3_3 : w2.cell? ⟨gb439, 3, none⟩ = some (.int .i64 a0_3) := (blk_cell BK439.out 3).trans rfl; have hcz3_4 : w2.cell? ⟨gb439, 4, none⟩ = some (.int .i64 a0_4) := (blk_cell BK439.out 4).trans rfl; have hcz3_5 : w2.cell? ⟨gb439, 5, none⟩ = some (.int .i64 a0_5) := (blk_cell BK439.out 5).trans rfl; have hcz3_6 : w2.cell? ⟨gb439, 6, none⟩ = some (.int .i64 a0_6) := (blk_cell BK439.out 6).trans rfl; have hcz3_7 : w2.cell? ⟨gb439, 7, none⟩ = some (.int .i64 a0_7) := (blk_cell BK439.out 7).trans rfl; have hcz3_8 : w2.cell? ⟨gb439, 8, none⟩ = some (.int .i64 a0_8) := (blk_cell BK439.out 8).trans rfl; have hcz3_9 : w2.cell? ⟨gb439, 9, none⟩ = some (.int .i64 a0_9) := (blk_cell BK439.out 9).trans rfl; have hcz3_10 : w2.cell? ⟨gb439, 10, none⟩ = some (.int .i64 a0_10) := (blk_cell BK439.out 10).trans rfl; have hfz3_0 := blk_frozen BK439.out 0; have hfz3_1 := blk_frozen BK439.out 1; have hfz3_2 := blk_frozen BK439.out 2; have hfz3_3 := blk_frozen BK439.out 3; have hfz3_4 := blk_frozen BK439.out 4; have hfz3_5 := blk_frozen BK439.out 5; have hfz3_6 := blk_frozen BK439.out 6; have hfz3_7 := blk_frozen BK439.out 7; have hfz3_8 := blk_frozen BK439.out 8; have hfz3_9 := blk_frozen BK439.out 9; have hfz3_10 := blk_frozen BK439.out 10))
  go_ret
  exact ⟨by first | rfl | (simp [errW_none, errW_some] <;> rfl) | (simp [*, errW_none, errW_some] <;> rfl), by repeat (first | (with_reducible first | exact HB.out | apply below_alloc | apply pw_below_drewN | apply below_drew1 | refine below_set ?_ GE439.out) | exact HB.out)⟩

end Go.Proofs.Ytcgokimagimamaa.F
/- Written by a program of mine out of the translation: what functions answer; Lean checks it. -/
namespace Go.Proofs.Ytcgokimagimamaa.F
open Go.RowKit Go.Proofs.YtcgokimagimamaaW.PrintWords Go.Proofs.YtcgokimagimamaaW.PrintLast Go.Proofs.YtcgokimagimamaaW.PrintMore
attribute [local go_sem] max2_int min2_int max_two min_two max_three min_three max_four min_four   -- for this text's walks alone
set_option linter.unusedVariables false
set_option linter.unusedSimpArgs false
theorem mc78_94 : Try.prog.concrete 94 = true := by kernel_rfl
theorem mm78_94 (x : Value) (w : World) : (method 281 94 x "potbank/ware.id").run Try.prog w = .ok (153, x) w := by kernel_rfl
theorem mi78_94 (x : Value) (w : World) : (invoke (.fn (.method "potbank/ware.id") #[]) #[.iface 94 x]).run Try.prog w = .ok (.enter 153 #[x]) w := by kernel_rfl
attribute [local go_sem] mc78_94 mm78_94
/-! ### ware_shape_78: function 78 -/
def ware_shape_78.l0 : Nat → List (S94) → Int → Int → Option (Bool)
  | 0, _, _, _ => none
  | k + 1, x0, x5, x6 => if x6 < x5 then (if x6 > 0 then (if 0 ≤ (wrap64 (x6 - 1)) then (if (wrap64 (x6 - 1)) < (x0.length : Int) then ((ware_shape_id.f ((rd_T94 x0 (wrap64 (x6 - 1))).f0) ((rd_T94 x0 (wrap64 (x6 - 1))).f1.f0) ((rd_T94 x0 (wrap64 (x6 - 1))).f1.f1) ((rd_T94 x0 (wrap64 (x6 - 1))).f2.f0) ((rd_T94 x0 (wrap64 (x6 - 1))).f2.f1) ((rd_T94 x0 (wrap64 (x6 - 1))).f3.f0) ((rd_T94 x0 (wrap64 (x6 - 1))).f3.f1) ((rd_T94 x0 (wrap64 (x6 - 1))).f4) ((rd_T94 x0 (wrap64 (x6 - 1))).f5.f0) ((rd_T94 x0 (wrap64 (x6 - 1))).f5.f1) ((rd_T94 x0 (wrap64 (x6 - 1))).f6)).bind fun t441 => (if 0 ≤ x6 then (if x6 < (x0.length : Int) then ((ware_shape_id.f ((rd_T94 x0 x6).f0) ((rd_T94 x0 x6).f1.f0) ((rd_T94 x0 x6).f1.f1) ((rd_T94 x0 x6).f2.f0) ((rd_T94 x0 x6).f2.f1) ((rd_T94 x0 x6).f3.f0) ((rd_T94 x0 x6).f3.f1) ((rd_T94 x0 x6).f4) ((rd_T94 x0 x6).f5.f0) ((rd_T94 x0 x6).f5.f1) ((rd_T94 x0 x6).f6)).bind fun t443 => (if t441 ≥ t443 then (some false) else (ware_shape_78.l0 k x0 x5 (wrap64 (x6 + 1))))) else (none)) else (none))) else (none)) else (none)) else (ware_shape_78.l0 k x0 x5 (wrap64 (x6 + 1)))) else (some true)
def ware_shape_78.f (k : Nat) (l0 : List (S94)) : Option (Bool) := ware_shape_78.l0 k l0 (l0.length : Int) 0
theorem ware_shape_78.mono_l : ∀ k, (∀ y0 y1 y2, LeO (ware_shape_78.l0 k y0 y1 y2) (ware_shape_78.l0 (k + 1) y0 y1 y2))
  | 0 => fun _ _ _ r h => by simp [ware_shape_78.l0] at h
  | k + 1 => by
    have ih0 := ware_shape_78.mono_l k
    · intro y0 y1 y2
      unfold ware_shape_78.l0
      repeat' first
      | (with_reducible exact ih0 _ _ _)
      | (with_reducible exact LeO.refl _)
      | (with_reducible exact LeO.none _)
      | (with_reducible refine LeO.ite ?_ ?_)
      | (with_reducible refine LeO.bind ?_ (fun _ => ?_))
      | exact ih0 _ _ _
      | exact LeO.none _
      | refine LeO.ite ?_ ?_
      | refine LeO.bind ?_ (fun _ => ?_)
theorem ware_shape_78.mono : ∀ a0 k, LeO (ware_shape_78.f k a0) (ware_shape_78.f (k + 1) a0) := by
  intro a0 k
  have ih0 := ware_shape_78.mono_l k
  unfold ware_shape_78.f
  repeat' first
      | (with_reducible exact ih0 _ _ _)
      | (with_reducible exact LeO.refl _)
      | (with_reducible exact LeO.none _)
      | (with_reducible refine LeO.ite ?_ ?_)
      | (with_reducible refine LeO.bind ?_ (fun _ => ?_))
      | exact ih0 _ _ _
      | exact LeO.none _
      | refine LeO.ite ?_ ?_
      | refine LeO.bind ?_ (fun _ => ?_)
def ware_shape_78.T4 : Bool × List (List Nat × List Nat) := (true, [([], []), ([0], [0]), ([1], [1]), ([2], [2]), ([2], [2]), ([4, 2], [2, 4]), ([3, 5, 2], [2, 3, 5]), ([6, 2], [2, 6]), ([7, 2], [2, 7]), ([8, 2, 2], [2, 8]), ([2], [2]), ([2], [2]), ([10, 11, 2], [2, 10, 11]), ([12, 2], [2, 12]), ([13, 2], [2, 13]), ([14, 9, 2], [2, 14]), ([9, 15, 2], [2, 9, 15]), ([2, 16], [2, 16])])
def ware_shape_78.B4 : List Nat := [0, 1, 3, 7, 7, 23, 63, 127, 255, 511, 7, 7, 3079, 7175, 15367, 32767, 65535, 131071]
theorem ware_shape_78.tab4 : rtab .any (opsOf Try.f78 4) = ware_shape_78.T4 := by kernel_rfl
theorem ware_shape_78.bits4 : waitsOk ware_shape_78.T4.2 ware_shape_78.B4 = true := by kernel_rfl
set_option maxHeartbeats 8000000 in
set_option maxRecDepth 100000 in
theorem ware_shape_78.calls (k : Nat) (A0 : Option Addr) (c0 : Nat) (l0 : List (S94)) (r : Bool) (w : World) (hr0 : Kd.C k94 w A0 l0.length l0) (hc0 : l0.length ≤ c0) (h : ware_shape_78.f k l0 = some r) :
    Calls Try.prog 78 #[.slice A0 l0.length c0] w fun e w' => e = .returned (.bool r) ∧ Below w.heap.size w w' := by
  have hu94 := Try.underlying94
  have HR0 := Aside0.mk hr0
  have HC0 := Aside0.mk hc0
  clear hr0 hc0
  have HB := Aside0.mk (Below.refl w.heap.size w)
  have H : (ware_shape_78.l0 k l0 (l0.length : Int) 0) = some r := h
  clear h
  have H' := Aside0.mk H
  clear H
  go_enter Try.func78, Try.ntmps78
  go_wp2
  go_loopg [6] k (fun kq v6 w' => ∃ (x6_1 : Int), v6 = .int .i64 x6_1 ∧ Aside0 (ware_shape_78.l0 kq l0 (l0.length : Int) x6_1 = some r) ∧ Aside0 (kq ≤ k) ∧ Aside0 (Below w.heap.size w w'))
  case atStart => exact ⟨(0), (by first | rfl | (simp; done) | (simp [*]; done)), H', ⟨Nat.le_refl _⟩, ⟨by repeat (first | (with_reducible first | exact HB.out | apply below_alloc | apply pw_below_drewN | apply below_drew1) | exact HB.out)⟩⟩
  case round =>
    clear H'
    obtain ⟨x6_1, rfl, HA, HK1, HB⟩ := hrel
    cases gk with
    | zero => exact absurd HA.out (by simp [ware_shape_78.l0])
    | succ k1 =>
      have H := HA.out
      clear HA
      simp only [ware_shape_78.l0] at H
      by_cases c2 : x6_1 < (l0.length : Int)
      · rw [if_pos c2] at H
        have c2b0 : decide (x6_1 < (l0.length : Int)) = true := decide_eq_true c2
        clear c2
        by_cases c3 : x6_1 > 0
        · rw [if_pos c3] at H
          have c3b0 : decide (0 < x6_1) = true := decide_eq_true c3
          clear c3
          obtain ⟨ji4, hji4⟩ : ∃ j_ : Int, (wrap64 (x6_1 - 1)) = j_ := ⟨_, rfl⟩
          replace H : (if 0 ≤ (ji4) then (if (ji4) < (l0.length : Int) then ((ware_shape_id.f ((rd_T94 l0 (ji4)).f0) ((rd_T94 l0 (ji4)).f1.f0) ((rd_T94 l0 (ji4)).f1.f1) ((rd_T94 l0 (ji4)).f2.f0) ((rd_T94 l0 (ji4)).f2.f1) ((rd_T94 l0 (ji4)).f3.f0) ((rd_T94 l0 (ji4)).f3.f1) ((rd_T94 l0 (ji4)).f4) ((rd_T94 l0 (ji4)).f5.f0) ((rd_T94 l0 (ji4)).f5.f1) ((rd_T94 l0 (ji4)).f6)).bind fun t441 => (if 0 ≤ x6_1 then (if x6_1 < (l0.length : Int) then ((ware_shape_id.f ((rd_T94 l0 x6_1).f0) ((rd_T94 l0 x6_1).f1.f0) ((rd_T94 l0 x6_1).f1.f1) ((rd_T94 l0 x6_1).f2.f0) ((rd_T94 l0 x6_1).f2.f1) ((rd_T94 l0 x6_1).f3.f0) ((rd_T94 l0 x6_1).f3.f1) ((rd_T94 l0 x6_1).f4) ((rd_T94 l0 x6_1).f5.f0) ((rd_T94 l0 x6_1).f5.f1) ((rd_T94 l0 x6_1).f6)).bind fun t443 => (if t441 ≥ t443 then (some false) else (ware_shape_78.l0 k1 l0 (l0.length : Int) (wrap64 (x6_1 + 1))))) else (none)) else (none))) else (none)) else (none)) = some r := by first | (rw [hji4] at H; exact H) | (simp only [hji4] at H ⊢; exact H)
          have hji4w : (IntKind.i64.wrap (x6_1 - 1)) = ji4 := (i64_w _).trans hji4
          by_cases c5 : 0 ≤ (ji4)
          · rw [if_pos c5] at H
            have c5b0 : decide (0 ≤ (ji4)) = true := decide_eq_true c5
            clear c5
            by_cases c6 : (ji4) < (l0.length : Int)
            · rw [if_pos c6] at H
              have c6b0 : decide ((ji4) < (l0.length : Int)) = true := decide_eq_true c6
              clear c6
              replace H := Option.bind_eq_some_iff.mp H
              obtain ⟨t441, A70, H⟩ := H
              replace H : (if 0 ≤ x6_1 then (if x6_1 < (l0.length : Int) then ((ware_shape_id.f ((rd_T94 l0 x6_1).f0) ((rd_T94 l0 x6_1).f1.f0) ((rd_T94 l0 x6_1).f1.f1) ((rd_T94 l0 x6_1).f2.f0) ((rd_T94 l0 x6_1).f2.f1) ((rd_T94 l0 x6_1).f3.f0) ((rd_T94 l0 x6_1).f3.f1) ((rd_T94 l0 x6_1).f4) ((rd_T94 l0 x6_1).f5.f0) ((rd_T94 l0 x6_1).f5.f1) ((rd_T94 l0 x6_1).f6)).bind fun t443 => (if t441 ≥ t443 then (some false) else (ware_shape_78.l0 k1 l0 (l0.length : Int) (wrap64 (x6_1 + 1))))) else (none)) else (none)) = some r := H
              have A7 := Aside0.mk A70
              clear A70
              by_cases c8 : 0 ≤ x6_1
              · rw [if_pos c8] at H
                have c8b0 : decide (0 ≤ x6_1) = true := decide_eq_true c8
                clear c8
                by_cases c9 : x6_1 < (l0.length : Int)
                · rw [if_pos c9] at H
                  have c9b0 : decide (x6_1 < (l0.length : Int)) = true := decide_eq_true c9
                  clear c9
                  replace H := Option.bind_eq_some_iff.mp H
                  obtain ⟨t443, A100, H⟩ := H
                  replace H : (if t441 ≥ t443 then (some false) else (ware_shape_78.l0 k1 l0 (l0.length : Int) (wrap64 (x6_1 + 1)))) = some r := H
                  have A10 := Aside0.mk A100
                  clear A100
                  by_cases c11 : t441 ≥ t443
                  · rw [if_pos c11] at H
                    have c11b0 : decide (t443 ≤ t441) = true := decide_eq_true c11
                    clear c11
                    obtain rfl := Option.some.inj H
                    try go_wp2
                    have n0_ := Aside0.mk (below_drew1 HB.out)
                    clear HB
                    have HB := n0_
                    clear n0_
                    have p440 : 0 ≤ ((ji4) : Int) := of_decide_eq_true (by first | (with_reducible assumption) | assumption)
                    have q440 : (ji4) < (l0.length : Int) := of_decide_eq_true (by first | (with_reducible assumption) | assumption)
                    obtain ⟨ad440, e440, hx440_0, hx440_1, hx440_2, hx440_3, hx440_4, hx440_5, hx440_6, hx440_7, hx440_8, hx440_9, hx440_10⟩ := at_T94 HR0.out (ji4) p440 q440
                    have hw440_10 := hx440_10
                    have hw440_9 := hx440_9
                    have hw440_8 := hx440_8
                    have hw440_7 := hx440_7
                    have hw440_6 := hx440_6
                    have hw440_5 := hx440_5
                    have hw440_4 := hx440_4
                    have hw440_3 := hx440_3
                    have hw440_2 := hx440_2
                    have hw440_1 := hx440_1
                    have hw440_0 := hx440_0
                    cases e440
                    replace hx440_0 := (HB.out.cell (World.block_lt_of_cell? w _ hx440_0)).trans hx440_0
                    replace hx440_1 := (HB.out.cell (World.block_lt_of_cell? w _ hx440_1)).trans hx440_1
                    replace hx440_2 := (HB.out.cell (World.block_lt_of_cell? w _ hx440_2)).trans hx440_2
                    replace hx440_3 := (HB.out.cell (World.block_lt_of_cell? w _ hx440_3)).trans hx440_3
                    replace hx440_4 := (HB.out.cell (World.block_lt_of_cell? w _ hx440_4)).trans hx440_4
                    replace hx440_5 := (HB.out.cell (World.block_lt_of_cell? w _ hx440_5)).trans hx440_5
                    replace hx440_6 := (HB.out.cell (World.block_lt_of_cell? w _ hx440_6)).trans hx440_6
                    replace hx440_7 := (HB.out.cell (World.block_lt_of_cell? w _ hx440_7)).trans hx440_7
                    replace hx440_8 := (HB.out.cell (World.block_lt_of_cell? w _ hx440_8)).trans hx440_8
                    replace hx440_9 := (HB.out.cell (World.block_lt_of_cell? w _ hx440_9)).trans hx440_9
                    replace hx440_10 := (HB.out.cell (World.block_lt_of_cell? w _ hx440_10)).trans hx440_10
                    replace p440 := eq_true p440
                    replace q440 := eq_true q440
                    have p442 : 0 ≤ (x6_1 : Int) := of_decide_eq_true (by first | (with_reducible assumption) | assumption)
                    have q442 : x6_1 < (l0.length : Int) := of_decide_eq_true (by first | (with_reducible assumption) | assumption)
                    obtain ⟨ad442, e442, hx442_0, hx442_1, hx442_2, hx442_3, hx442_4, hx442_5, hx442_6, hx442_7, hx442_8, hx442_9, hx442_10⟩ := at_T94 HR0.out x6_1 p442 q442
                    have hw442_10 := hx442_10
                    have hw442_9 := hx442_9
                    have hw442_8 := hx442_8
                    have hw442_7 := hx442_7
                    have hw442_6 := hx442_6
                    have hw442_5 := hx442_5
                    have hw442_4 := hx442_4
                    have hw442_3 := hx442_3
                    have hw442_2 := hx442_2
                    have hw442_1 := hx442_1
                    have hw442_0 := hx442_0
                    obtain rfl : ad440 = ad442 := (by injection e442)
                    replace hx442_0 := (HB.out.cell (World.block_lt_of_cell? w _ hx442_0)).trans hx442_0
                    replace hx442_1 := (HB.out.cell (World.block_lt_of_cell? w _ hx442_1)).trans hx442_1
                    replace hx442_2 := (HB.out.cell (World.block_lt_of_cell? w _ hx442_2)).trans hx442_2
                    replace hx442_3 := (HB.out.cell (World.block_lt_of_cell? w _ hx442_3)).trans hx442_3
                    replace hx442_4 := (HB.out.cell (World.block_lt_of_cell? w _ hx442_4)).trans hx442_4
                    replace hx442_5 := (HB.out.cell (World.block_lt_of_cell? w _ hx442_5)).trans hx442_5
                    replace hx442_6 := (HB.out.cell (World.block_lt_of_cell? w _ hx442_6)).trans hx442_6
                    replace hx442_7 := (HB.out.cell (World.block_lt_of_cell? w _ hx442_7)).trans hx442_7
                    replace hx442_8 := (HB.out.cell (World.block_lt_of_cell? w _ hx442_8)).trans hx442_8
                    replace hx442_9 := (HB.out.cell (World.block_lt_of_cell? w _ hx442_9)).trans hx442_9
                    replace hx442_10 := (HB.out.cell (World.block_lt_of_cell? w _ hx442_10)).trans hx442_10
                    replace p442 := eq_true p442
                    replace q442 := eq_true q442
                    refine start_ (n := 18) (S := fun w' => w'.cell? (ad440.add (((ji4)).toNat * 11)) = some (.int .i64 ((rd_T94 l0 (ji4)).f0)) ∧ w'.cell? ⟨(ad440.add (((ji4)).toNat * 11)).block, (ad440.add (((ji4)).toNat * 11)).off + 1, none⟩ = some (.int .i64 ((rd_T94 l0 (ji4)).f1.f0)) ∧ w'.cell? ⟨(ad440.add (((ji4)).toNat * 11)).block, (ad440.add (((ji4)).toNat * 11)).off + 2, none⟩ = some (.int .i64 ((rd_T94 l0 (ji4)).f1.f1)) ∧ w'.cell? ⟨(ad440.add (((ji4)).toNat * 11)).block, (ad440.add (((ji4)).toNat * 11)).off + 3, none⟩ = some (.int .i64 ((rd_T94 l0 (ji4)).f2.f0)) ∧ w'.cell? ⟨(ad440.add (((ji4)).toNat * 11)).block, (ad440.add (((ji4)).toNat * 11)).off + 4, none⟩ = some (.int .i64 ((rd_T94 l0 (ji4)).f2.f1)) ∧ w'.cell? ⟨(ad440.add (((ji4)).toNat * 11)).block, (ad440.add (((ji4)).toNat * 11)).off + 5, none⟩ = some (.int .i64 ((rd_T94 l0 (ji4)).f3.f0)) ∧ w'.cell? ⟨(ad440.add (((ji4)).toNat * 11)).block, (ad440.add (((ji4)).toNat * 11)).off + 6, none⟩ = some (.int .i64 ((rd_T94 l0 (ji4)).f3.f1)) ∧ w'.cell? ⟨(ad440.add (((ji4)).toNat * 11)).block, (ad440.add (((ji4)).toNat * 11)).off + 7, none⟩ = some (.int .i64 ((rd_T94 l0 (ji4)).f4)) ∧ w'.cell? ⟨(ad440.add (((ji4)).toNat * 11)).block, (ad440.add (((ji4)).toNat * 11)).off + 8, none⟩ = some (.int .i64 ((rd_T94 l0 (ji4)).f5.f0)) ∧ w'.cell? ⟨(ad440.add (((ji4)).toNat * 11)).block, (ad440.add (((ji4)).toNat * 11)).off + 9, none⟩ = some (.int .i64 ((rd_T94 l0 (ji4)).f5.f1)) ∧ w'.cell? ⟨(ad440.add (((ji4)).toNat * 11)).block, (ad440.add (((ji4)).toNat * 11)).off + 10, none⟩ = some (.int .i64 ((rd_T94 l0 (ji4)).f6)) ∧ w'.cell? (ad440.add ((x6_1).toNat * 11)) = some (.int .i64 ((rd_T94 l0 x6_1).f0)) ∧ w'.cell? ⟨(ad440.add ((x6_1).toNat * 11)).block, (ad440.add ((x6_1).toNat * 11)).off + 1, none⟩ = some (.int .i64 ((rd_T94 l0 x6_1).f1.f0)) ∧ w'.cell? ⟨(ad440.add ((x6_1).toNat * 11)).block, (ad440.add ((x6_1).toNat * 11)).off + 2, none⟩ = some (.int .i64 ((rd_T94 l0 x6_1).f1.f1)) ∧ w'.cell? ⟨(ad440.add ((x6_1).toNat * 11)).block, (ad440.add ((x6_1).toNat * 11)).off + 3, none⟩ = some (.int .i64 ((rd_T94 l0 x6_1).f2.f0)) ∧ w'.cell? ⟨(ad440.add ((x6_1).toNat * 11)).block, (ad440.add ((x6_1).toNat * 11)).off + 4, none⟩ = some (.int .i64 ((rd_T94 l0 x6_1).f2.f1)) ∧ w'.cell? ⟨(ad440.add ((x6_1).toNat * 11)).block, (ad440.add ((x6_1).toNat * 11)).off + 5, none⟩ = some (.int .i64 ((rd_T94 l0 x6_1).f3.f0)) ∧ w'.cell? ⟨(ad440.add ((x6_1).toNat * 11)).block, (ad440.add ((x6_1).toNat * 11)).off + 6, none⟩ = some (.int .i64 ((rd_T94 l0 x6_1).f3.f1)) ∧ w'.cell? ⟨(ad440.add ((x6_1).toNat * 11)).block, (ad440.add ((x6_1).toNat * 11)).off + 7, none⟩ = some (.int .i64 ((rd_T94 l0 x6_1).f4)) ∧ w'.cell? ⟨(ad440.add ((x6_1).toNat * 11)).block, (ad440.add ((x6_1).toNat * 11)).off + 8, none⟩ = some (.int .i64 ((rd_T94 l0 x6_1).f5.f0)) ∧ w'.cell? ⟨(ad440.add ((x6_1).toNat * 11)).block, (ad440.add ((x6_1).toNat * 11)).off + 9, none⟩ = some (.int .i64 ((rd_T94 l0 x6_1).f5.f1)) ∧ w'.cell? ⟨(ad440.add ((x6_1).toNat * 11)).block, (ad440.add ((x6_1).toNat * 11)).off + 10, none⟩ = some (.int .i64 ((rd_T94 l0 x6_1).f6))) (ds := []) #[false, false, false, false, false, false, false, false, false, false, false, false, false, false, false, false, false, false] (by kernel_rfl) rfl rfl ⟨((HB.out.cell (World.block_lt_of_cell? w _ hw440_0)).trans hw440_0), ((HB.out.cell (World.block_lt_of_cell? w _ hw440_1)).trans hw440_1), ((HB.out.cell (World.block_lt_of_cell? w _ hw440_2)).trans hw440_2), ((HB.out.cell (World.block_lt_of_cell? w _ hw440_3)).trans hw440_3), ((HB.out.cell (World.block_lt_of_cell? w _ hw440_4)).trans hw440_4), ((HB.out.cell (World.block_lt_of_cell? w _ hw440_5)).trans hw440_5), ((HB.out.cell (World.block_lt_of_cell? w _ hw440_6)).trans hw440_6), ((HB.out.cell (World.block_lt_of_cell? w _ hw440_7)).trans hw440_7), ((HB.out.cell (World.block_lt_of_cell? w _ hw440_8)).trans hw440_8), ((HB.out.cell (World.block_lt_of_cell? w _ hw440_9)).trans hw440_9), ((HB.out.cell (World.block_lt_of_cell? w _ hw440_10)).trans hw440_10), ((HB.out.cell (World.block_lt_of_cell? w _ hw442_0)).trans hw442_0), ((HB.out.cell (World.block_lt_of_cell? w _ hw442_1)).trans hw442_1), ((HB.out.cell (World.block_lt_of_cell? w _ hw442_2)).trans hw442_2), ((HB.out.cell (World.block_lt_of_cell? w _ hw442_3)).trans hw442_3), ((HB.out.cell (World.block_lt_of_cell? w _ hw442_4)).trans hw442_4), ((HB.out.cell (World.block_lt_of_cell? w _ hw442_5)).trans hw442_5), ((HB.out.cell (World.block_lt_of_cell? w _ hw442_6)).trans hw442_6), ((HB.out.cell (World.block_lt_of_cell? w _ hw442_7)).trans hw442_7), ((HB.out.cell (World.block_lt_of_cell? w _ hw442_8)).trans hw442_8), ((HB.out.cell (World.block_lt_of_cell? w _ hw442_9)).trans hw442_9), ((HB.out.cell (World.block_lt_of_cell? w _ hw442_10)).trans hw442_10)⟩ (fun hHeld => ?_); refine with_tabW ware_shape_78.tab4 ware_shape_78.bits4 (fun HT_ HW_ => ?_)
                    generalize wr.drew = w12 at HB hx440_0 hx440_1 hx440_10 hx440_2 hx440_3 hx440_4 hx440_5 hx440_6 hx440_7 hx440_8 hx440_9 hx442_0 hx442_1 hx442_10 hx442_2 hx442_3 hx442_4 hx442_5 hx442_6 hx442_7 hx442_8 hx442_9 hHeld ⊢
                    refine pure_ (i := 0) (N := some 9) (v := ?_) (a' := ?_) #[true, false, false, false, false, false, false, false, false, false, false, false, false, false, false, false, false, false] rfl rfl (any_of HT_.out (by kernel_rfl)) (fun _ _ _ h => h) (Or.inl ⟨by rfl, ?_⟩) ?_ ?_
                    rotate_left
                    · intro w'
                      go_simp
                      with_reducible rfl
                    rotate_left
                    · simp only [Act.put, List.setIfInBounds_toArray, List.set_cons_zero, List.set_cons_succ, i64_w, i32_w]
                      rfl
                    refine pure_ (i := 1) (N := some 10) (v := ?_) (a' := ?_) #[true, true, false, false, false, false, false, false, false, false, false, false, false, false, false, false, false, false] rfl rfl (any_of HT_.out (by kernel_rfl)) (fun _ _ _ h => h) (Or.inl ⟨by rfl, ?_⟩) ?_ ?_
                    rotate_left
                    · intro w'
                      go_simp
                      with_reducible rfl
                    rotate_left
                    · simp only [Act.put, List.setIfInBounds_toArray, List.set_cons_zero, List.set_cons_succ, i64_w, i32_w]
                      rfl
                    refine pure_ (i := 2) (N := some 11) (v := ?_) (a' := ?_) #[true, true, true, false, false, false, false, false, false, false, false, false, false, false, false, false, false, false] rfl rfl (any_of HT_.out (by kernel_rfl)) (fun _ _ _ h => h) (Or.inl ⟨by rfl, ?_⟩) ?_ ?_
                    rotate_left
                    · intro w'
                      go_simp
                      with_reducible rfl
                    rotate_left
                    · simp only [Act.put, List.setIfInBounds_toArray, List.set_cons_zero, List.set_cons_succ, i64_w, i32_w]
                      rfl
                    refine pure_ (i := 3) (N := some 12) (v := ?_) (a' := ?_) #[true, true, true, true, false, false, false, false, false, false, false, false, false, false, false, false, false, false] rfl rfl (any_of HT_.out (by kernel_rfl)) (fun _ _ _ h => h) (Or.inl ⟨by rfl, ?_⟩) ?_ ?_
                    rotate_left
                    · intro w'
                      go_simp
                      with_reducible rfl
                    rotate_left
                    · simp only [Act.put, List.setIfInBounds_toArray, List.set_cons_zero, List.set_cons_succ, i64_w, i32_w]
                      rfl
                    refine pure_ (i := 4) (N := some 13) (v := ?_) (a' := ?_) #[true, true, true, true, true, false, false, false, false, false, false, false, false, false, false, false, false, false] rfl rfl (any_of HT_.out (by kernel_rfl)) (fun _ _ _ h => h) (Or.inl ⟨by rfl, ?_⟩) ?_ ?_
                    rotate_left
                    · intro w'
                      go_simp
                      with_reducible rfl
                    rotate_left
                    · simp only [Act.put, List.setIfInBounds_toArray, List.set_cons_zero, List.set_cons_succ, i64_w, i32_w]
                      rfl
                    refine pure_ (i := 5) (N := some 14) (v := ?_) (a' := ?_) #[true, true, true, true, true, true, false, false, false, false, false, false, false, false, false, false, false, false] rfl rfl (any_of HT_.out (by kernel_rfl)) (fun _ _ _ h => h) (Or.inl ⟨by rfl, ?_⟩) ?_ ?_
                    rotate_left
                    · intro w'
                      go_simp
                      with_reducible rfl
                    rotate_left
                    · simp only [Act.put, List.setIfInBounds_toArray, List.set_cons_zero, List.set_cons_succ, i64_w, i32_w]
                      rfl
                    refine pure_ (i := 6) (N := some 15) (v := ?_) (a' := ?_) #[true, true, true, true, true, true, true, false, false, false, false, false, false, false, false, false, false, false] rfl rfl (any_of HT_.out (by kernel_rfl)) (fun _ _ _ h => h) (Or.inl ⟨by rfl, ?_⟩) ?_ ?_
                    rotate_left
                    · intro w'
                      go_simp
                      with_reducible rfl
                    rotate_left
                    · simp only [Act.put, List.setIfInBounds_toArray, List.set_cons_zero, List.set_cons_succ, i64_w, i32_w]
                      rfl
                    refine pure_ (i := 10) (N := some 19) (v := ?_) (a' := ?_) #[true, true, true, true, true, true, true, false, false, false, true, false, false, false, false, false, false, false] rfl rfl (any_of HT_.out (by kernel_rfl)) (fun _ _ _ h => h) (Or.inl ⟨by rfl, ?_⟩) ?_ ?_
                    rotate_left
                    · intro w'
                      go_simp
                      with_reducible rfl
                    rotate_left
                    · simp only [Act.put, List.setIfInBounds_toArray, List.set_cons_zero, List.set_cons_succ, i64_w, i32_w]
                      rfl
                    refine pure_ (i := 11) (N := some 20) (v := ?_) (a' := ?_) #[true, true, true, true, true, true, true, false, false, false, true, true, false, false, false, false, false, false] rfl rfl (any_of HT_.out (by kernel_rfl)) (fun _ _ _ h => h) (Or.inl ⟨by rfl, ?_⟩) ?_ ?_
                    rotate_left
                    · intro w'
                      go_simp
                      with_reducible rfl
                    rotate_left
                    · simp only [Act.put, List.setIfInBounds_toArray, List.set_cons_zero, List.set_cons_succ, i64_w, i32_w]
                      rfl
                    refine pure_ (i := 12) (N := some 21) (v := ?_) (a' := ?_) #[true, true, true, true, true, true, true, false, false, false, true, true, true, false, false, false, false, false] rfl rfl (any_of HT_.out (by kernel_rfl)) (fun _ _ _ h => h) (Or.inl ⟨by rfl, ?_⟩) ?_ ?_
                    rotate_left
                    · intro w'
                      go_simp
                      with_reducible rfl
                    rotate_left
                    · simp only [Act.put, List.setIfInBounds_toArray, List.set_cons_zero, List.set_cons_succ, i64_w, i32_w]
                      rfl
                    refine take_ (i := 7) (N := some 16) (v := ?_) (a' := ?_) #[true, true, true, true, true, true, true, true, false, false, true, true, true, false, false, false, false, false] rfl rfl (take_ofW HT_.out HW_.out (by kernel_rfl)) (fun _ _ _ h => h) (Or.inl ⟨by rfl, ?_⟩) hHeld ?_ ?_
                    rotate_left
                    · rintro w' ⟨s0, s1, s2, s3, s4, s5, s6, s7, s8, s9, s10, s11, s12, s13, s14, s15, s16, s17, s18, s19, s20, s21⟩
                      go_simp
                      with_reducible rfl
                    rotate_left
                    · simp only [Act.put, List.setIfInBounds_toArray, List.set_cons_zero, List.set_cons_succ, i64_w, i32_w]
                      rfl
                    refine pure_ (i := 8) (N := some 17) (v := ?_) (a' := ?_) #[true, true, true, true, true, true, true, true, true, false, true, true, true, false, false, false, false, false] rfl rfl (any_of HT_.out (by kernel_rfl)) (fun _ _ _ h => h) (Or.inl ⟨by rfl, ?_⟩) ?_ ?_
                    rotate_left
                    · intro w'
                      go_simp
                      with_reducible rfl
                    rotate_left
                    · simp only [Act.put, List.setIfInBounds_toArray, List.set_cons_zero, List.set_cons_succ, i64_w, i32_w]
                      rfl
                    refine take_ (i := 13) (N := some 22) (v := ?_) (a' := ?_) #[true, true, true, true, true, true, true, true, true, false, true, true, true, true, false, false, false, false] rfl rfl (take_ofW HT_.out HW_.out (by kernel_rfl)) (fun _ _ _ h => h) (Or.inl ⟨by rfl, ?_⟩) hHeld ?_ ?_
                    rotate_left
                    · rintro w' ⟨s0, s1, s2, s3, s4, s5, s6, s7, s8, s9, s10, s11, s12, s13, s14, s15, s16, s17, s18, s19, s20, s21⟩
                      go_simp
                      with_reducible rfl
                    rotate_left
                    · simp only [Act.put, List.setIfInBounds_toArray, List.set_cons_zero, List.set_cons_succ, i64_w, i32_w]
                      rfl
                    refine pure_ (i := 14) (N := some 23) (v := ?_) (a' := ?_) #[true, true, true, true, true, true, true, true, true, false, true, true, true, true, true, false, false, false] rfl rfl (any_of HT_.out (by kernel_rfl)) (fun _ _ _ h => h) (Or.inl ⟨by rfl, ?_⟩) ?_ ?_
                    rotate_left
                    · intro w'
                      go_simp
                      with_reducible rfl
                    rotate_left
                    · simp only [Act.put, List.setIfInBounds_toArray, List.set_cons_zero, List.set_cons_succ, i64_w, i32_w]
                      rfl
                    refine one_ (i := 9) (N := some 18) #[true, true, true, true, true, true, true, true, true, true, true, true, true, true, true, false, false, false] rfl rfl (one_of HT_.out (by kernel_rfl)) (by decide) (fun K hK => ?_)
                    refine call_ 153 #[.agg #[.int .i64 ((rd_T94 l0 (ji4)).f0), .int .i64 ((rd_T94 l0 (ji4)).f1.f0), .int .i64 ((rd_T94 l0 (ji4)).f1.f1), .int .i64 ((rd_T94 l0 (ji4)).f2.f0), .int .i64 ((rd_T94 l0 (ji4)).f2.f1), .int .i64 ((rd_T94 l0 (ji4)).f3.f0), .int .i64 ((rd_T94 l0 (ji4)).f3.f1), .int .i64 ((rd_T94 l0 (ji4)).f4), .int .i64 ((rd_T94 l0 (ji4)).f5.f0), .int .i64 ((rd_T94 l0 (ji4)).f5.f1), .int .i64 ((rd_T94 l0 (ji4)).f6)]] (by rfl) rfl (exec_invoke (by rfl) (by rfl) (mi78_94 _ _)) ?_
                    with_reducible refine (ware_shape_id.calls ((rd_T94 l0 (ji4)).f0) ((rd_T94 l0 (ji4)).f1.f0) ((rd_T94 l0 (ji4)).f1.f1) ((rd_T94 l0 (ji4)).f2.f0) ((rd_T94 l0 (ji4)).f2.f1) ((rd_T94 l0 (ji4)).f3.f0) ((rd_T94 l0 (ji4)).f3.f1) ((rd_T94 l0 (ji4)).f4) ((rd_T94 l0 (ji4)).f5.f0) ((rd_T94 l0 (ji4)).f5.f1) ((rd_T94 l0 (ji4)).f6) t441 _ A7.out).mono ?_
                    rintro e w13 ⟨rfl, hb⟩
                    refine ⟨_, rfl, ?_⟩
                    have n0_ := Aside0.mk (below_step (by repeat (first | (with_reducible first | exact HB.out | apply below_alloc | apply pw_below_drewN | apply below_drew1) | exact HB.out)) hb)
                    clear HB
                    have HB := n0_
                    clear n0_
                    (try clear hb)
                    (try clear hb2)
                    (try clear hk)
                    (try clear hi)
                    refine hK.out _ _ ⟨((HB.out.cell (World.block_lt_of_cell? w _ hw440_0)).trans hw440_0), ((HB.out.cell (World.block_lt_of_cell? w _ hw440_1)).trans hw440_1), ((HB.out.cell (World.block_lt_of_cell? w _ hw440_2)).trans hw440_2), ((HB.out.cell (World.block_lt_of_cell? w _ hw440_3)).trans hw440_3), ((HB.out.cell (World.block_lt_of_cell? w _ hw440_4)).trans hw440_4), ((HB.out.cell (World.block_lt_of_cell? w _ hw440_5)).trans hw440_5), ((HB.out.cell (World.block_lt_of_cell? w _ hw440_6)).trans hw440_6), ((HB.out.cell (World.block_lt_of_cell? w _ hw440_7)).trans hw440_7), ((HB.out.cell (World.block_lt_of_cell? w _ hw440_8)).trans hw440_8), ((HB.out.cell (World.block_lt_of_cell? w _ hw440_9)).trans hw440_9), ((HB.out.cell (World.block_lt_of_cell? w _ hw440_10)).trans hw440_10), ((HB.out.cell (World.block_lt_of_cell? w _ hw442_0)).trans hw442_0), ((HB.out.cell (World.block_lt_of_cell? w _ hw442_1)).trans hw442_1), ((HB.out.cell (World.block_lt_of_cell? w _ hw442_2)).trans hw442_2), ((HB.out.cell (World.block_lt_of_cell? w _ hw442_3)).trans hw442_3), ((HB.out.cell (World.block_lt_of_cell? w _ hw442_4)).trans hw442_4), ((HB.out.cell (World.block_lt_of_cell? w _ hw442_5)).trans hw442_5), ((HB.out.cell (World.block_lt_of_cell? w _ hw442_6)).trans hw442_6), ((HB.out.cell (World.block_lt_of_cell? w _ hw442_7)).trans hw442_7), ((HB.out.cell (World.block_lt_of_cell? w _ hw442_8)).trans hw442_8), ((HB.out.cell (World.block_lt_of_cell? w _ hw442_9)).trans hw442_9), ((HB.out.cell (World.block_lt_of_cell? w _ hw442_10)).trans hw442_10)⟩ (fun hHeld => ?_)
                    clear hK K
                    refine norm_ (a' := ?_) ?_ ?_
                    rotate_left
                    · show Act.put _ (some 18) _ = _
                      simp only [Act.put, List.setIfInBounds_toArray, List.set_cons_zero, List.set_cons_succ, i64_w, i32_w]
                      rfl
                    refine one_ (i := 15) (N := some 24) #[true, true, true, true, true, true, true, true, true, true, true, true, true, true, true, true, false, false] rfl rfl (one_of HT_.out (by kernel_rfl)) (by decide) (fun K hK => ?_)
                    refine call_ 153 #[.agg #[.int .i64 ((rd_T94 l0 x6_1).f0), .int .i64 ((rd_T94 l0 x6_1).f1.f0), .int .i64 ((rd_T94 l0 x6_1).f1.f1), .int .i64 ((rd_T94 l0 x6_1).f2.f0), .int .i64 ((rd_T94 l0 x6_1).f2.f1), .int .i64 ((rd_T94 l0 x6_1).f3.f0), .int .i64 ((rd_T94 l0 x6_1).f3.f1), .int .i64 ((rd_T94 l0 x6_1).f4), .int .i64 ((rd_T94 l0 x6_1).f5.f0), .int .i64 ((rd_T94 l0 x6_1).f5.f1), .int .i64 ((rd_T94 l0 x6_1).f6)]] (by rfl) rfl (exec_invoke (by rfl) (by rfl) (mi78_94 _ _)) ?_
                    with_reducible refine (ware_shape_id.calls ((rd_T94 l0 x6_1).f0) ((rd_T94 l0 x6_1).f1.f0) ((rd_T94 l0 x6_1).f1.f1) ((rd_T94 l0 x6_1).f2.f0) ((rd_T94 l0 x6_1).f2.f1) ((rd_T94 l0 x6_1).f3.f0) ((rd_T94 l0 x6_1).f3.f1) ((rd_T94 l0 x6_1).f4) ((rd_T94 l0 x6_1).f5.f0) ((rd_T94 l0 x6_1).f5.f1) ((rd_T94 l0 x6_1).f6) t443 _ A10.out).mono ?_
                    rintro e w14 ⟨rfl, hb⟩
                    refine ⟨_, rfl, ?_⟩
                    have n0_ := Aside0.mk (below_step (by repeat (first | (with_reducible first | exact HB.out | apply below_alloc | apply pw_below_drewN | apply below_drew1) | exact HB.out)) hb)
                    clear HB
                    have HB := n0_
                    clear n0_
                    (try clear hb)
                    (try clear hb2)
                    (try clear hk)
                    (try clear hi)
                    refine hK.out _ _ ⟨((HB.out.cell (World.block_lt_of_cell? w _ hw440_0)).trans hw440_0), ((HB.out.cell (World.block_lt_of_cell? w _ hw440_1)).trans hw440_1), ((HB.out.cell (World.block_lt_of_cell? w _ hw440_2)).trans hw440_2), ((HB.out.cell (World.block_lt_of_cell? w _ hw440_3)).trans hw440_3), ((HB.out.cell (World.block_lt_of_cell? w _ hw440_4)).trans hw440_4), ((HB.out.cell (World.block_lt_of_cell? w _ hw440_5)).trans hw440_5), ((HB.out.cell (World.block_lt_of_cell? w _ hw440_6)).trans hw440_6), ((HB.out.cell (World.block_lt_of_cell? w _ hw440_7)).trans hw440_7), ((HB.out.cell (World.block_lt_of_cell? w _ hw440_8)).trans hw440_8), ((HB.out.cell (World.block_lt_of_cell? w _ hw440_9)).trans hw440_9), ((HB.out.cell (World.block_lt_of_cell? w _ hw440_10)).trans hw440_10), ((HB.out.cell (World.block_lt_of_cell? w _ hw442_0)).trans hw442_0), ((HB.out.cell (World.block_lt_of_cell? w _ hw442_1)).trans hw442_1), ((HB.out.cell (World.block_lt_of_cell? w _ hw442_2)).trans hw442_2), ((HB.out.cell (World.block_lt_of_cell? w _ hw442_3)).trans hw442_3), ((HB.out.cell (World.block_lt_of_cell? w _ hw442_4)).trans hw442_4), ((HB.out.cell (World.block_lt_of_cell? w _ hw442_5)).trans hw442_5), ((HB.out.cell (World.block_lt_of_cell? w _ hw442_6)).trans hw442_6), ((HB.out.cell (World.block_lt_of_cell? w _ hw442_7)).trans hw442_7), ((HB.out.cell (World.block_lt_of_cell? w _ hw442_8)).trans hw442_8), ((HB.out.cell (World.block_lt_of_cell? w _ hw442_9)).trans hw442_9), ((HB.out.cell (World.block_lt_of_cell? w _ hw442_10)).trans hw442_10)⟩ (fun hHeld => ?_)
                    clear hK K
                    refine norm_ (a' := ?_) ?_ ?_
                    rotate_left
                    · show Act.put _ (some 24) _ = _
                      simp only [Act.put, List.setIfInBounds_toArray, List.set_cons_zero, List.set_cons_succ, i64_w, i32_w]
                      rfl
                    refine pure_ (i := 16) (N := some 25) (v := ?_) (a' := ?_) #[true, true, true, true, true, true, true, true, true, true, true, true, true, true, true, true, true, false] rfl rfl (any_of HT_.out (by kernel_rfl)) (fun _ _ _ h => h) (Or.inl ⟨by rfl, ?_⟩) ?_ ?_
                    rotate_left
                    · intro w'
                      go_simp
                      with_reducible rfl
                    rotate_left
                    · simp only [Act.put, List.setIfInBounds_toArray, List.set_cons_zero, List.set_cons_succ, i64_w, i32_w]
                      rfl
                    refine pure_ (i := 17) (N := some 26) (v := ?_) (a' := ?_) #[true, true, true, true, true, true, true, true, true, true, true, true, true, true, true, true, true, true] rfl rfl (any_of HT_.out (by kernel_rfl)) (fun _ _ _ h => h) (Or.inl ⟨by rfl, ?_⟩) ?_ ?_
                    rotate_left
                    · intro w'
                      go_simp
                      with_reducible rfl
                    rotate_left
                    · simp only [Act.put, List.setIfInBounds_toArray, List.set_cons_zero, List.set_cons_succ, i64_w, i32_w]
                      rfl
                    refine done_ (done_of HT_.out (by kernel_rfl)) ?_
                    try go_wp2
                    go_ret
                    exact ⟨by first | rfl | (simp [errW_none, errW_some] <;> rfl) | (simp only [← hji4]; first | rfl | (simp [errW_none, errW_some] <;> rfl)) | (simp [*, errW_none, errW_some] <;> rfl), by repeat (first | (with_reducible first | exact HB.out | apply below_alloc | apply pw_below_drewN | apply below_drew1) | exact HB.out)⟩
                  · rw [if_neg c11] at H
                    have c11b0 : decide (t443 ≤ t441) = false := decide_eq_false c11
                    clear c11
                    have H' := Aside0.mk H
                    clear H
                    try go_wp2
                    have n0_ := Aside0.mk (below_drew1 HB.out)
                    clear HB
                    have HB := n0_
                    clear n0_
                    have p440 : 0 ≤ ((ji4) : Int) := of_decide_eq_true (by first | (with_reducible assumption) | assumption)
                    have q440 : (ji4) < (l0.length : Int) := of_decide_eq_true (by first | (with_reducible assumption) | assumption)
                    obtain ⟨ad440, e440, hx440_0, hx440_1, hx440_2, hx440_3, hx440_4, hx440_5, hx440_6, hx440_7, hx440_8, hx440_9, hx440_10⟩ := at_T94 HR0.out (ji4) p440 q440
                    have hw440_10 := hx440_10
                    have hw440_9 := hx440_9
                    have hw440_8 := hx440_8
                    have hw440_7 := hx440_7
                    have hw440_6 := hx440_6
                    have hw440_5 := hx440_5
                    have hw440_4 := hx440_4
                    have hw440_3 := hx440_3
                    have hw440_2 := hx440_2
                    have hw440_1 := hx440_1
                    have hw440_0 := hx440_0
                    cases e440
                    replace hx440_0 := (HB.out.cell (World.block_lt_of_cell? w _ hx440_0)).trans hx440_0
                    replace hx440_1 := (HB.out.cell (World.block_lt_of_cell? w _ hx440_1)).trans hx440_1
                    replace hx440_2 := (HB.out.cell (World.block_lt_of_cell? w _ hx440_2)).trans hx440_2
                    replace hx440_3 := (HB.out.cell (World.block_lt_of_cell? w _ hx440_3)).trans hx440_3
                    replace hx440_4 := (HB.out.cell (World.block_lt_of_cell? w _ hx440_4)).trans hx440_4
                    replace hx440_5 := (HB.out.cell (World.block_lt_of_cell? w _ hx440_5)).trans hx440_5
                    replace hx440_6 := (HB.out.cell (World.block_lt_of_cell? w _ hx440_6)).trans hx440_6
                    replace hx440_7 := (HB.out.cell (World.block_lt_of_cell? w _ hx440_7)).trans hx440_7
                    replace hx440_8 := (HB.out.cell (World.block_lt_of_cell? w _ hx440_8)).trans hx440_8
                    replace hx440_9 := (HB.out.cell (World.block_lt_of_cell? w _ hx440_9)).trans hx440_9
                    replace hx440_10 := (HB.out.cell (World.block_lt_of_cell? w _ hx440_10)).trans hx440_10
                    replace p440 := eq_true p440
                    replace q440 := eq_true q440
                    have p442 : 0 ≤ (x6_1 : Int) := of_decide_eq_true (by first | (with_reducible assumption) | assumption)
                    have q442 : x6_1 < (l0.length : Int) := of_decide_eq_true (by first | (with_reducible assumption) | assumption)
                    obtain ⟨ad442, e442, hx442_0, hx442_1, hx442_2, hx442_3, hx442_4, hx442_5, hx442_6, hx442_7, hx442_8, hx442_9, hx442_10⟩ := at_T94 HR0.out x6_1 p442 q442
                    have hw442_10 := hx442_10
                    have hw442_9 := hx442_9
                    have hw442_8 := hx442_8
                    have hw442_7 := hx442_7
                    have hw442_6 := hx442_6
                    have hw442_5 := hx442_5
                    have hw442_4 := hx442_4
                    have hw442_3 := hx442_3
                    have hw442_2 := hx442_2
                    have hw442_1 := hx442_1
                    have hw442_0 := hx442_0
                    obtain rfl : ad440 = ad442 := (by injection e442)
                    replace hx442_0 := (HB.out.cell (World.block_lt_of_cell? w _ hx442_0)).trans hx442_0
                    replace hx442_1 := (HB.out.cell (World.block_lt_of_cell? w _ hx442_1)).trans hx442_1
                    replace hx442_2 := (HB.out.cell (World.block_lt_of_cell? w _ hx442_2)).trans hx442_2
                    replace hx442_3 := (HB.out.cell (World.block_lt_of_cell? w _ hx442_3)).trans hx442_3
                    replace hx442_4 := (HB.out.cell (World.block_lt_of_cell? w _ hx442_4)).trans hx442_4
                    replace hx442_5 := (HB.out.cell (World.block_lt_of_cell? w _ hx442_5)).trans hx442_5
                    replace hx442_6 := (HB.out.cell (World.block_lt_of_cell? w _ hx442_6)).trans hx442_6
                    replace hx442_7 := (HB.out.cell (World.block_lt_of_cell? w _ hx442_7)).trans hx442_7
                    replace hx442_8 := (HB.out.cell (World.block_lt_of_cell? w _ hx442_8)).trans hx442_8
                    replace hx442_9 := (HB.out.cell (World.block_lt_of_cell? w _ hx442_9)).trans hx442_9
                    replace hx442_10 := (HB.out.cell (World.block_lt_of_cell? w _ hx442_10)).trans hx442_10
                    replace p442 := eq_true p442
                    replace q442 := eq_true q442
                    refine start_ (n := 18) (S := fun w' => w'.cell? (ad440.add (((ji4)).toNat * 11)) = some (.int .i64 ((rd_T94 l0 (ji4)).f0)) ∧ w'.cell? ⟨(ad440.add (((ji4)).toNat * 11)).block, (ad440.add (((ji4)).toNat * 11)).off + 1, none⟩ = some (.int .i64 ((rd_T94 l0 (ji4)).f1.f0)) ∧ w'.cell? ⟨(ad440.add (((ji4)).toNat * 11)).block, (ad440.add (((ji4)).toNat * 11)).off + 2, none⟩ = some (.int .i64 ((rd_T94 l0 (ji4)).f1.f1)) ∧ w'.cell? ⟨(ad440.add (((ji4)).toNat * 11)).block, (ad440.add (((ji4)).toNat * 11)).off + 3, none⟩ = some (.int .i64 ((rd_T94 l0 (ji4)).f2.f0)) ∧ w'.cell? ⟨(ad440.add (((ji4)).toNat * 11)).block, (ad440.add (((ji4)).toNat * 11)).off + 4, none⟩ = some (.int .i64 ((rd_T94 l0 (ji4)).f2.f1)) ∧ w'.cell? ⟨(ad440.add (((ji4)).toNat * 11)).block, (ad440.add (((ji4)).toNat * 11)).off + 5, none⟩ = some (.int .i64 ((rd_T94 l0 (ji4)).f3.f0)) ∧ w'.cell? ⟨(ad440.add (((ji4)).toNat * 11)).block, (ad440.add (((ji4)).toNat * 11)).off + 6, none⟩ = some (.int .i64 ((rd_T94 l0 (ji4)).f3.f1)) ∧ w'.cell? ⟨(ad440.add (((ji4)).toNat * 11)).block, (ad440.add (((ji4)).toNat * 11)).off + 7, none⟩ = some (.int .i64 ((rd_T94 l0 (ji4)).f4)) ∧ w'.cell? ⟨(ad440.add (((ji4)).toNat * 11)).block, (ad440.add (((ji4)).toNat * 11)).off + 8, none⟩ = some (.int .i64 ((rd_T94 l0 (ji4)).f5.f0)) ∧ w'.cell? ⟨(ad440.add (((ji4)).toNat * 11)).block, (ad440.add (((ji4)).toNat * 11)).off + 9, none⟩ = some (.int .i64 ((rd_T94 l0 (ji4)).f5.f1)) ∧ w'.cell? ⟨(ad440.add (((ji4)).toNat * 11)).block, (ad440.add (((ji4)).toNat * 11)).off + 10, none⟩ = some (.int .i64 ((rd_T94 l0 (ji4)).f6)) ∧ w'.cell? (ad440.add ((x6_1).toNat * 11)) = some (.int .i64 ((rd_T94 l0 x6_1).f0)) ∧ w'.cell? ⟨(ad440.add ((x6_1).toNat * 11)).block, (ad440.add ((x6_1).toNat * 11)).off + 1, none⟩ = some (.int .i64 ((rd_T94 l0 x6_1).f1.f0)) ∧ w'.cell? ⟨(ad440.add ((x6_1).toNat * 11)).block, (ad440.add ((x6_1).toNat * 11)).off + 2, none⟩ = some (.int .i64 ((rd_T94 l0 x6_1).f1.f1)) ∧ w'.cell? ⟨(ad440.add ((x6_1).toNat * 11)).block, (ad440.add ((x6_1).toNat * 11)).off + 3, none⟩ = some (.int .i64 ((rd_T94 l0 x6_1).f2.f0)) ∧ w'.cell? ⟨(ad440.add ((x6_1).toNat * 11)).block, (ad440.add ((x6_1).toNat * 11)).off + 4, none⟩ = some (.int .i64 ((rd_T94 l0 x6_1).f2.f1)) ∧ w'.cell? ⟨(ad440.add ((x6_1).toNat * 11)).block, (ad440.add ((x6_1).toNat * 11)).off + 5, none⟩ = some (.int .i64 ((rd_T94 l0 x6_1).f3.f0)) ∧ w'.cell? ⟨(ad440.add ((x6_1).toNat * 11)).block, (ad440.add ((x6_1).toNat * 11)).off + 6, none⟩ = some (.int .i64 ((rd_T94 l0 x6_1).f3.f1)) ∧ w'.cell? ⟨(ad440.add ((x6_1).toNat * 11)).block, (ad440.add ((x6_1).toNat * 11)).off + 7, none⟩ = some (.int .i64 ((rd_T94 l0 x6_1).f4)) ∧ w'.cell? ⟨(ad440.add ((x6_1).toNat * 11)).block, (ad440.add ((x6_1).toNat * 11)).off + 8, none⟩ = some (.int .i64 ((rd_T94 l0 x6_1).f5.f0)) ∧ w'.cell? ⟨(ad440.add ((x6_1).toNat * 11)).block, (ad440.add ((x6_1).toNat * 11)).off + 9, none⟩ = some (.int .i64 ((rd_T94 l0 x6_1).f5.f1)) ∧ w'.cell? ⟨(ad440.add ((x6_1).toNat * 11)).block, (ad440.add ((x6_1).toNat * 11)).off + 10, none⟩ = some (.int .i64 ((rd_T94 l0 x6_1).f6))) (ds := []) #[false, false, false, false, false, false, false, false, false, false, false, false, false, false, false, false, false, false] (by kernel_rfl) rfl rfl ⟨((HB.out.cell (World.block_lt_of_cell? w _ hw440_0)).trans hw440_0), ((HB.out.cell (World.block_lt_of_cell? w _ hw440_1)).trans hw440_1), ((HB.out.cell (World.block_lt_of_cell? w _ hw440_2)).trans hw440_2), ((HB.out.cell (World.block_lt_of_cell? w _ hw440_3)).trans hw440_3), ((HB.out.cell (World.block_lt_of_cell? w _ hw440_4)).trans hw440_4), ((HB.out.cell (World.block_lt_of_cell? w _ hw440_5)).trans hw440_5), ((HB.out.cell (World.block_lt_of_cell? w _ hw440_6)).trans hw440_6), ((HB.out.cell (World.block_lt_of_cell? w _ hw440_7)).trans hw440_7), ((HB.out.cell (World.block_lt_of_cell? w _ hw440_8)).trans hw440_8), ((HB.out.cell (World.block_lt_of_cell? w _ hw440_9)).trans hw440_9), ((HB.out.cell (World.block_lt_of_cell? w _ hw440_10)).trans hw440_10), ((HB.out.cell (World.block_lt_of_cell? w _ hw442_0)).trans hw442_0), ((HB.out.cell (World.block_lt_of_cell? w _ hw442_1)).trans hw442_1), ((HB.out.cell (World.block_lt_of_cell? w _ hw442_2)).trans hw442_2), ((HB.out.cell (World.block_lt_of_cell? w _ hw442_3)).trans hw442_3), ((HB.out.cell (World.block_lt_of_cell? w _ hw442_4)).trans hw442_4), ((HB.out.cell (World.block_lt_of_cell? w _ hw442_5)).trans hw442_5), ((HB.out.cell (World.block_lt_of_cell? w _ hw442_6)).trans hw442_6), ((HB.out.cell (World.block_lt_of_cell? w _ hw442_7)).trans hw442_7), ((HB.out.cell (World.block_lt_of_cell? w _ hw442_8)).trans hw442_8), ((HB.out.cell (World.block_lt_of_cell? w _ hw442_9)).trans hw442_9), ((HB.out.cell (World.block_lt_of_cell? w _ hw442_10)).trans hw442_10)⟩ (fun hHeld => ?_); refine with_tabW ware_shape_78.tab4 ware_shape_78.bits4 (fun HT_ HW_ => ?_)
                    generalize wr.drew = w15 at HB hx440_0 hx440_1 hx440_10 hx440_2 hx440_3 hx440_4 hx440_5 hx440_6 hx440_7 hx440_8 hx440_9 hx442_0 hx442_1 hx442_10 hx442_2 hx442_3 hx442_4 hx442_5 hx442_6 hx442_7 hx442_8 hx442_9 hHeld ⊢
                    refine pure_ (i := 0) (N := some 9) (v := ?_) (a' := ?_) #[true, false, false, false, false, false, false, false, false, false, false, false, false, false, false, false, false, false] rfl rfl (any_of HT_.out (by kernel_rfl)) (fun _ _ _ h => h) (Or.inl ⟨by rfl, ?_⟩) ?_ ?_
                    rotate_left
                    · intro w'
                      go_simp
                      with_reducible rfl
                    rotate_left
                    · simp only [Act.put, List.setIfInBounds_toArray, List.set_cons_zero, List.set_cons_succ, i64_w, i32_w]
                      rfl
                    refine pure_ (i := 1) (N := some 10) (v := ?_) (a' := ?_) #[true, true, false, false, false, false, false, false, false, false, false, false, false, false, false, false, false, false] rfl rfl (any_of HT_.out (by kernel_rfl)) (fun _ _ _ h => h) (Or.inl ⟨by rfl, ?_⟩) ?_ ?_
                    rotate_left
                    · intro w'
                      go_simp
                      with_reducible rfl
                    rotate_left
                    · simp only [Act.put, List.setIfInBounds_toArray, List.set_cons_zero, List.set_cons_succ, i64_w, i32_w]
                      rfl
                    refine pure_ (i := 2) (N := some 11) (v := ?_) (a' := ?_) #[true, true, true, false, false, false, false, false, false, false, false, false, false, false, false, false, false, false] rfl rfl (any_of HT_.out (by kernel_rfl)) (fun _ _ _ h => h) (Or.inl ⟨by rfl, ?_⟩) ?_ ?_
                    rotate_left
                    · intro w'
                      go_simp
                      with_reducible rfl
                    rotate_left
                    · simp only [Act.put, List.setIfInBounds_toArray, List.set_cons_zero, List.set_cons_succ, i64_w, i32_w]
                      rfl
                    refine pure_ (i := 3) (N := some 12) (v := ?_) (a' := ?_) #[true, true, true, true, false, false, false, false, false, false, false, false, false, false, false, false, false, false] rfl rfl (any_of HT_.out (by kernel_rfl)) (fun _ _ _ h => h) (Or.inl ⟨by rfl, ?_⟩) ?_ ?_
                    rotate_left
                    · intro w'
                      go_simp
                      with_reducible rfl
                    rotate_left
                    · simp only [Act.put, List.setIfInBounds_toArray, List.set_cons_zero, List.set_cons_succ, i64_w, i32_w]
                      rfl
                    refine pure_ (i := 4) (N := some 13) (v := ?_) (a' := ?_) #[true, true, true, true, true, false, false, false, false, false, false, false, false, false, false, false, false, false] rfl rfl (any_of HT_.out (by kernel_rfl)) (fun _ _ _ h => h) (Or.inl ⟨by rfl, ?_⟩) ?_ ?_
                    rotate_left
                    · intro w'
                      go_simp
                      with_reducible rfl
                    rotate_left
                    · simp only [Act.put, List.setIfInBounds_toArray, List.set_cons_zero, List.set_cons_succ, i64_w, i32_w]
                      rfl
                    refine pure_ (i := 5) (N := some 14) (v := ?_) (a' := ?_) #[true, true, true, true, true, true, false, false, false, false, false, false, false, false, false, false, false, false] rfl rfl (any_of HT_.out (by kernel_rfl)) (fun _ _ _ h => h) (Or.inl ⟨by rfl, ?_⟩) ?_ ?_
                    rotate_left
                    · intro w'
                      go_simp
                      with_reducible rfl
                    rotate_left
                    · simp only [Act.put, List.setIfInBounds_toArray, List.set_cons_zero, List.set_cons_succ, i64_w, i32_w]
                      rfl
                    refine pure_ (i := 6) (N := some 15) (v := ?_) (a' := ?_) #[true, true, true, true, true, true, true, false, false, false, false, false, false, false, false, false, false, false] rfl rfl (any_of HT_.out (by kernel_rfl)) (fun _ _ _ h => h) (Or.inl ⟨by rfl, ?_⟩) ?_ ?_
                    rotate_left
                    · intro w'
                      go_simp
                      with_reducible rfl
                    rotate_left
                    · simp only [Act.put, List.setIfInBounds_toArray, List.set_cons_zero, List.set_cons_succ, i64_w, i32_w]
                      rfl
                    refine pure_ (i := 10) (N := some 19) (v := ?_) (a' := ?_) #[true, true, true, true, true, true, true, false, false, false, true, false, false, false, false, false, false, false] rfl rfl (any_of HT_.out (by kernel_rfl)) (fun _ _ _ h => h) (Or.inl ⟨by rfl, ?_⟩) ?_ ?_
                    rotate_left
                    · intro w'
                      go_simp
                      with_reducible rfl
                    rotate_left
                    · simp only [Act.put, List.setIfInBounds_toArray, List.set_cons_zero, List.set_cons_succ, i64_w, i32_w]
                      rfl
                    refine pure_ (i := 11) (N := some 20) (v := ?_) (a' := ?_) #[true, true, true, true, true, true, true, false, false, false, true, true, false, false, false, false, false, false] rfl rfl (any_of HT_.out (by kernel_rfl)) (fun _ _ _ h => h) (Or.inl ⟨by rfl, ?_⟩) ?_ ?_
                    rotate_left
                    · intro w'
                      go_simp
                      with_reducible rfl
                    rotate_left
                    · simp only [Act.put, List.setIfInBounds_toArray, List.set_cons_zero, List.set_cons_succ, i64_w, i32_w]
                      rfl
                    refine pure_ (i := 12) (N := some 21) (v := ?_) (a' := ?_) #[true, true, true, true, true, true, true, false, false, false, true, true, true, false, false, false, false, false] rfl rfl (any_of HT_.out (by kernel_rfl)) (fun _ _ _ h => h) (Or.inl ⟨by rfl, ?_⟩) ?_ ?_
                    rotate_left
                    · intro w'
                      go_simp
                      with_reducible rfl
                    rotate_left
                    · simp only [Act.put, List.setIfInBounds_toArray, List.set_cons_zero, List.set_cons_succ, i64_w, i32_w]
                      rfl
                    refine take_ (i := 7) (N := some 16) (v := ?_) (a' := ?_) #[true, true, true, true, true, true, true, true, false, false, true, true, true, false, false, false, false, false] rfl rfl (take_ofW HT_.out HW_.out (by kernel_rfl)) (fun _ _ _ h => h) (Or.inl ⟨by rfl, ?_⟩) hHeld ?_ ?_
                    rotate_left
                    · rintro w' ⟨s0, s1, s2, s3, s4, s5, s6, s7, s8, s9, s10, s11, s12, s13, s14, s15, s16, s17, s18, s19, s20, s21⟩
                      go_simp
                      with_reducible rfl
                    rotate_left
                    · simp only [Act.put, List.setIfInBounds_toArray, List.set_cons_zero, List.set_cons_succ, i64_w, i32_w]
                      rfl
                    refine pure_ (i := 8) (N := some 17) (v := ?_) (a' := ?_) #[true, true, true, true, true, true, true, true, true, false, true, true, true, false, false, false, false, false] rfl rfl (any_of HT_.out (by kernel_rfl)) (fun _ _ _ h => h) (Or.inl ⟨by rfl, ?_⟩) ?_ ?_
                    rotate_left
                    · intro w'
                      go_simp
                      with_reducible rfl
                    rotate_left
                    · simp only [Act.put, List.setIfInBounds_toArray, List.set_cons_zero, List.set_cons_succ, i64_w, i32_w]
                      rfl
                    refine take_ (i := 13) (N := some 22) (v := ?_) (a' := ?_) #[true, true, true, true, true, true, true, true, true, false, true, true, true, true, false, false, false, false] rfl rfl (take_ofW HT_.out HW_.out (by kernel_rfl)) (fun _ _ _ h => h) (Or.inl ⟨by rfl, ?_⟩) hHeld ?_ ?_
                    rotate_left
                    · rintro w' ⟨s0, s1, s2, s3, s4, s5, s6, s7, s8, s9, s10, s11, s12, s13, s14, s15, s16, s17, s18, s19, s20, s21⟩
                      go_simp
                      with_reducible rfl
                    rotate_left
                    · simp only [Act.put, List.setIfInBounds_toArray, List.set_cons_zero, List.set_cons_succ, i64_w, i32_w]
                      rfl
                    refine pure_ (i := 14) (N := some 23) (v := ?_) (a' := ?_) #[true, true, true, true, true, true, true, true, true, false, true, true, true, true, true, false, false, false] rfl rfl (any_of HT_.out (by kernel_rfl)) (fun _ _ _ h => h) (Or.inl ⟨by rfl, ?_⟩) ?_ ?_
                    rotate_left
                    · intro w'
                      go_simp
                      with_reducible rfl
                    rotate_left
                    · simp only [Act.put, List.setIfInBounds_toArray, List.set_cons_zero, List.set_cons_succ, i64_w, i32_w]
                      rfl
                    refine one_ (i := 9) (N := some 18) #[true, true, true, true, true, true, true, true, true, true, true, true, true, true, true, false, false, false] rfl rfl (one_of HT_.out (by kernel_rfl)) (by decide) (fun K hK => ?_)
                    refine call_ 153 #[.agg #[.int .i64 ((rd_T94 l0 (ji4)).f0), .int .i64 ((rd_T94 l0 (ji4)).f1.f0), .int .i64 ((rd_T94 l0 (ji4)).f1.f1), .int .i64 ((rd_T94 l0 (ji4)).f2.f0), .int .i64 ((rd_T94 l0 (ji4)).f2.f1), .int .i64 ((rd_T94 l0 (ji4)).f3.f0), .int .i64 ((rd_T94 l0 (ji4)).f3.f1), .int .i64 ((rd_T94 l0 (ji4)).f4), .int .i64 ((rd_T94 l0 (ji4)).f5.f0), .int .i64 ((rd_T94 l0 (ji4)).f5.f1), .int .i64 ((rd_T94 l0 (ji4)).f6)]] (by rfl) rfl (exec_invoke (by rfl) (by rfl) (mi78_94 _ _)) ?_
                    with_reducible refine (ware_shape_id.calls ((rd_T94 l0 (ji4)).f0) ((rd_T94 l0 (ji4)).f1.f0) ((rd_T94 l0 (ji4)).f1.f1) ((rd_T94 l0 (ji4)).f2.f0) ((rd_T94 l0 (ji4)).f2.f1) ((rd_T94 l0 (ji4)).f3.f0) ((rd_T94 l0 (ji4)).f3.f1) ((rd_T94 l0 (ji4)).f4) ((rd_T94 l0 (ji4)).f5.f0) ((rd_T94 l0 (ji4)).f5.f1) ((rd_T94 l0 (ji4)).f6) t441 _ A7.out).mono ?_
                    rintro e w16 ⟨rfl, hb⟩
                    refine ⟨_, rfl, ?_⟩
                    have n0_ := Aside0.mk (below_step (by repeat (first | (with_reducible first | exact HB.out | apply below_alloc | apply pw_below_drewN | apply below_drew1) | exact HB.out)) hb)
                    clear HB
                    have HB := n0_
                    clear n0_
                    (try clear hb)
                    (try clear hb2)
                    (try clear hk)
                    (try clear hi)
                    refine hK.out _ _ ⟨((HB.out.cell (World.block_lt_of_cell? w _ hw440_0)).trans hw440_0), ((HB.out.cell (World.block_lt_of_cell? w _ hw440_1)).trans hw440_1), ((HB.out.cell (World.block_lt_of_cell? w _ hw440_2)).trans hw440_2), ((HB.out.cell (World.block_lt_of_cell? w _ hw440_3)).trans hw440_3), ((HB.out.cell (World.block_lt_of_cell? w _ hw440_4)).trans hw440_4), ((HB.out.cell (World.block_lt_of_cell? w _ hw440_5)).trans hw440_5), ((HB.out.cell (World.block_lt_of_cell? w _ hw440_6)).trans hw440_6), ((HB.out.cell (World.block_lt_of_cell? w _ hw440_7)).trans hw440_7), ((HB.out.cell (World.block_lt_of_cell? w _ hw440_8)).trans hw440_8), ((HB.out.cell (World.block_lt_of_cell? w _ hw440_9)).trans hw440_9), ((HB.out.cell (World.block_lt_of_cell? w _ hw440_10)).trans hw440_10), ((HB.out.cell (World.block_lt_of_cell? w _ hw442_0)).trans hw442_0), ((HB.out.cell (World.block_lt_of_cell? w _ hw442_1)).trans hw442_1), ((HB.out.cell (World.block_lt_of_cell? w _ hw442_2)).trans hw442_2), ((HB.out.cell (World.block_lt_of_cell? w _ hw442_3)).trans hw442_3), ((HB.out.cell (World.block_lt_of_cell? w _ hw442_4)).trans hw442_4), ((HB.out.cell (World.block_lt_of_cell? w _ hw442_5)).trans hw442_5), ((HB.out.cell (World.block_lt_of_cell? w _ hw442_6)).trans hw442_6), ((HB.out.cell (World.block_lt_of_cell? w _ hw442_7)).trans hw442_7), ((HB.out.cell (World.block_lt_of_cell? w _ hw442_8)).trans hw442_8), ((HB.out.cell (World.block_lt_of_cell? w _ hw442_9)).trans hw442_9), ((HB.out.cell (World.block_lt_of_cell? w _ hw442_10)).trans hw442_10)⟩ (fun hHeld => ?_)
                    clear hK K
                    refine norm_ (a' := ?_) ?_ ?_
                    rotate_left
                    · show Act.put _ (some 18) _ = _
                      simp only [Act.put, List.setIfInBounds_toArray, List.set_cons_zero, List.set_cons_succ, i64_w, i32_w]
                      rfl
                    refine one_ (i := 15) (N := some 24) #[true, true, true, true, true, true, true, true, true, true, true, true, true, true, true, true, false, false] rfl rfl (one_of HT_.out (by kernel_rfl)) (by decide) (fun K hK => ?_)
                    refine call_ 153 #[.agg #[.int .i64 ((rd_T94 l0 x6_1).f0), .int .i64 ((rd_T94 l0 x6_1).f1.f0), .int .i64 ((rd_T94 l0 x6_1).f1.f1), .int .i64 ((rd_T94 l0 x6_1).f2.f0), .int .i64 ((rd_T94 l0 x6_1).f2.f1), .int .i64 ((rd_T94 l0 x6_1).f3.f0), .int .i64 ((rd_T94 l0 x6_1).f3.f1), .int .i64 ((rd_T94 l0 x6_1).f4), .int .i64 ((rd_T94 l0 x6_1).f5.f0), .int .i64 ((rd_T94 l0 x6_1).f5.f1), .int .i64 ((rd_T94 l0 x6_1).f6)]] (by rfl) rfl (exec_invoke (by rfl) (by rfl) (mi78_94 _ _)) ?_
                    with_reducible refine (ware_shape_id.calls ((rd_T94 l0 x6_1).f0) ((rd_T94 l0 x6_1).f1.f0) ((rd_T94 l0 x6_1).f1.f1) ((rd_T94 l0 x6_1).f2.f0) ((rd_T94 l0 x6_1).f2.f1) ((rd_T94 l0 x6_1).f3.f0) ((rd_T94 l0 x6_1).f3.f1) ((rd_T94 l0 x6_1).f4) ((rd_T94 l0 x6_1).f5.f0) ((rd_T94 l0 x6_1).f5.f1) ((rd_T94 l0 x6_1).f6) t443 _ A10.out).mono ?_
                    rintro e w17 ⟨rfl, hb⟩
                    refine ⟨_, rfl, ?_⟩
                    have n0_ := Aside0.mk (below_step (by repeat (first | (with_reducible first | exact HB.out | apply below_alloc | apply pw_below_drewN | apply below_drew1) | exact HB.out)) hb)
                    clear HB
                    have HB := n0_
                    clear n0_
                    (try clear hb)
                    (try clear hb2)
                    (try clear hk)
                    (try clear hi)
                    refine hK.out _ _ ⟨((HB.out.cell (World.block_lt_of_cell? w _ hw440_0)).trans hw440_0), ((HB.out.cell (World.block_lt_of_cell? w _ hw440_1)).trans hw440_1), ((HB.out.cell (World.block_lt_of_cell? w _ hw440_2)).trans hw440_2), ((HB.out.cell (World.block_lt_of_cell? w _ hw440_3)).trans hw440_3), ((HB.out.cell (World.block_lt_of_cell? w _ hw440_4)).trans hw440_4), ((HB.out.cell (World.block_lt_of_cell? w _ hw440_5)).trans hw440_5), ((HB.out.cell (World.block_lt_of_cell? w _ hw440_6)).trans hw440_6), ((HB.out.cell (World.block_lt_of_cell? w _ hw440_7)).trans hw440_7), ((HB.out.cell (World.block_lt_of_cell? w _ hw440_8)).trans hw440_8), ((HB.out.cell (World.block_lt_of_cell? w _ hw440_9)).trans hw440_9), ((HB.out.cell (World.block_lt_of_cell? w _ hw440_10)).trans hw440_10), ((HB.out.cell (World.block_lt_of_cell? w _ hw442_0)).trans hw442_0), ((HB.out.cell (World.block_lt_of_cell? w _ hw442_1)).trans hw442_1), ((HB.out.cell (World.block_lt_of_cell? w _ hw442_2)).trans hw442_2), ((HB.out.cell (World.block_lt_of_cell? w _ hw442_3)).trans hw442_3), ((HB.out.cell (World.block_lt_of_cell? w _ hw442_4)).trans hw442_4), ((HB.out.cell (World.block_lt_of_cell? w _ hw442_5)).trans hw442_5), ((HB.out.cell (World.block_lt_of_cell? w _ hw442_6)).trans hw442_6), ((HB.out.cell (World.block_lt_of_cell? w _ hw442_7)).trans hw442_7), ((HB.out.cell (World.block_lt_of_cell? w _ hw442_8)).trans hw442_8), ((HB.out.cell (World.block_lt_of_cell? w _ hw442_9)).trans hw442_9), ((HB.out.cell (World.block_lt_of_cell? w _ hw442_10)).trans hw442_10)⟩ (fun hHeld => ?_)
                    clear hK K
                    refine norm_ (a' := ?_) ?_ ?_
                    rotate_left
                    · show Act.put _ (some 24) _ = _
                      simp only [Act.put, List.setIfInBounds_toArray, List.set_cons_zero, List.set_cons_succ, i64_w, i32_w]
                      rfl
                    refine pure_ (i := 16) (N := some 25) (v := ?_) (a' := ?_) #[true, true, true, true, true, true, true, true, true, true, true, true, true, true, true, true, true, false] rfl rfl (any_of HT_.out (by kernel_rfl)) (fun _ _ _ h => h) (Or.inl ⟨by rfl, ?_⟩) ?_ ?_
                    rotate_left
                    · intro w'
                      go_simp
                      with_reducible rfl
                    rotate_left
                    · simp only [Act.put, List.setIfInBounds_toArray, List.set_cons_zero, List.set_cons_succ, i64_w, i32_w]
                      rfl
                    refine pure_ (i := 17) (N := some 26) (v := ?_) (a' := ?_) #[true, true, true, true, true, true, true, true, true, true, true, true, true, true, true, true, true, true] rfl rfl (any_of HT_.out (by kernel_rfl)) (fun _ _ _ h => h) (Or.inl ⟨by rfl, ?_⟩) ?_ ?_
                    rotate_left
                    · intro w'
                      go_simp
                      with_reducible rfl
                    rotate_left
                    · simp only [Act.put, List.setIfInBounds_toArray, List.set_cons_zero, List.set_cons_succ, i64_w, i32_w]
                      rfl
                    refine done_ (done_of HT_.out (by kernel_rfl)) ?_
                    try go_wp2
                    go_roundg k1
                    case measure => have := HK1.out; omega
                    case rel => exact ⟨(wrap64 (x6_1 + 1)), (by first | rfl | (simp; done) | (simp [*]; done)), H', ⟨by have := HK1.out; omega⟩, ⟨by repeat (first | (with_reducible first | exact HB.out | apply below_alloc | apply pw_below_drewN | apply below_drew1) | exact HB.out)⟩⟩
                · rw [if_neg c9] at H
                  exact absurd H (by simp)
              · rw [if_neg c8] at H
                exact absurd H (by simp)
            · rw [if_neg c6] at H
              exact absurd H (by simp)
          · rw [if_neg c5] at H
            exact absurd H (by simp)
        · rw [if_neg c3] at H
          have c3b0 : decide (0 < x6_1) = false := decide_eq_false c3
          clear c3
          have H' := Aside0.mk H
          clear H
          try go_wp2
          have n0_ := Aside0.mk (below_drew1 HB.out)
          clear HB
          have HB := n0_
          clear n0_
          refine start_ (n := 18) (S := fun w' => True) (ds := []) #[false, false, false, false, false, false, false, false, false, false, false, false, false, false, false, false, false, false] (by kernel_rfl) rfl rfl trivial (fun hHeld => ?_); refine with_tabW ware_shape_78.tab4 ware_shape_78.bits4 (fun HT_ HW_ => ?_)
          generalize wr.drew = w18 at HB hHeld ⊢
          refine pure_ (i := 0) (N := some 9) (v := ?_) (a' := ?_) #[true, false, false, false, false, false, false, false, false, false, false, false, false, false, false, false, false, false] rfl rfl (any_of HT_.out (by kernel_rfl)) (fun _ _ _ h => h) (Or.inl ⟨by rfl, ?_⟩) ?_ ?_
          rotate_left
          · intro w'
            go_simp
            with_reducible rfl
          rotate_left
          · simp only [Act.put, List.setIfInBounds_toArray, List.set_cons_zero, List.set_cons_succ, i64_w, i32_w]
            rfl
          refine pure_ (i := 1) (N := some 10) (v := ?_) (a' := ?_) #[true, true, false, false, false, false, false, false, false, false, false, false, false, false, false, false, false, false] rfl rfl (any_of HT_.out (by kernel_rfl)) (fun _ _ _ h => h) (Or.inl ⟨by rfl, ?_⟩) ?_ ?_
          rotate_left
          · intro w'
            go_simp
            with_reducible rfl
          rotate_left
          · simp only [Act.put, List.setIfInBounds_toArray, List.set_cons_zero, List.set_cons_succ, i64_w, i32_w]
            rfl
          refine pure_ (i := 2) (N := some 11) (v := ?_) (a' := ?_) #[true, true, true, false, false, false, false, false, false, false, false, false, false, false, false, false, false, false] rfl rfl (any_of HT_.out (by kernel_rfl)) (fun _ _ _ h => h) (Or.inl ⟨by rfl, ?_⟩) ?_ ?_
          rotate_left
          · intro w'
            go_simp
            with_reducible rfl
          rotate_left
          · simp only [Act.put, List.setIfInBounds_toArray, List.set_cons_zero, List.set_cons_succ, i64_w, i32_w]
            rfl
          refine pure_ (i := 3) (N := some 12) (v := undef) (a' := ?_) #[true, true, true, true, false, false, false, false, false, false, false, false, false, false, false, false, false, false] rfl rfl (any_of HT_.out (by kernel_rfl)) (fun _ _ _ h => h) (Or.inr ⟨by rfl, rfl⟩) ?_ ?_
          rotate_left
          · simp only [Act.put, List.setIfInBounds_toArray, List.set_cons_zero, List.set_cons_succ, i64_w, i32_w]
            rfl
          refine pure_ (i := 4) (N := some 13) (v := undef) (a' := ?_) #[true, true, true, true, true, false, false, false, false, false, false, false, false, false, false, false, false, false] rfl rfl (any_of HT_.out (by kernel_rfl)) (fun _ _ _ h => h) (Or.inr ⟨by rfl, rfl⟩) ?_ ?_
          rotate_left
          · simp only [Act.put, List.setIfInBounds_toArray, List.set_cons_zero, List.set_cons_succ, i64_w, i32_w]
            rfl
          refine pure_ (i := 5) (N := some 14) (v := undef) (a' := ?_) #[true, true, true, true, true, true, false, false, false, false, false, false, false, false, false, false, false, false] rfl rfl (any_of HT_.out (by kernel_rfl)) (fun _ _ _ h => h) (Or.inr ⟨by rfl, rfl⟩) ?_ ?_
          rotate_left
          · simp only [Act.put, List.setIfInBounds_toArray, List.set_cons_zero, List.set_cons_succ, i64_w, i32_w]
            rfl
          refine pure_ (i := 6) (N := some 15) (v := undef) (a' := ?_) #[true, true, true, true, true, true, true, false, false, false, false, false, false, false, false, false, false, false] rfl rfl (any_of HT_.out (by kernel_rfl)) (fun _ _ _ h => h) (Or.inr ⟨by rfl, rfl⟩) ?_ ?_
          rotate_left
          · simp only [Act.put, List.setIfInBounds_toArray, List.set_cons_zero, List.set_cons_succ, i64_w, i32_w]
            rfl
          refine pure_ (i := 7) (N := some 16) (v := undef) (a' := ?_) #[true, true, true, true, true, true, true, true, false, false, false, false, false, false, false, false, false, false] rfl rfl (any_of HT_.out (by kernel_rfl)) (fun _ _ _ h => h) (Or.inr ⟨by rfl, rfl⟩) ?_ ?_
          rotate_left
          · simp only [Act.put, List.setIfInBounds_toArray, List.set_cons_zero, List.set_cons_succ, i64_w, i32_w]
            rfl
          refine pure_ (i := 8) (N := some 17) (v := undef) (a' := ?_) #[true, true, true, true, true, true, true, true, true, false, false, false, false, false, false, false, false, false] rfl rfl (any_of HT_.out (by kernel_rfl)) (fun _ _ _ h => h) (Or.inr ⟨by rfl, rfl⟩) ?_ ?_
          rotate_left
          · simp only [Act.put, List.setIfInBounds_toArray, List.set_cons_zero, List.set_cons_succ, i64_w, i32_w]
            rfl
          refine pure_ (i := 9) (N := some 18) (v := undef) (a' := ?_) #[true, true, true, true, true, true, true, true, true, true, false, false, false, false, false, false, false, false] rfl rfl (any_of HT_.out (by kernel_rfl)) (fun _ _ _ h => h) (Or.inr ⟨by rfl, rfl⟩) ?_ ?_
          rotate_left
          · simp only [Act.put, List.setIfInBounds_toArray, List.set_cons_zero, List.set_cons_succ, i64_w, i32_w]
            rfl
          refine pure_ (i := 10) (N := some 19) (v := undef) (a' := ?_) #[true, true, true, true, true, true, true, true, true, true, true, false, false, false, false, false, false, false] rfl rfl (any_of HT_.out (by kernel_rfl)) (fun _ _ _ h => h) (Or.inr ⟨by rfl, rfl⟩) ?_ ?_
          rotate_left
          · simp only [Act.put, List.setIfInBounds_toArray, List.set_cons_zero, List.set_cons_succ, i64_w, i32_w]
            rfl
          refine pure_ (i := 11) (N := some 20) (v := undef) (a' := ?_) #[true, true, true, true, true, true, true, true, true, true, true, true, false, false, false, false, false, false] rfl rfl (any_of HT_.out (by kernel_rfl)) (fun _ _ _ h => h) (Or.inr ⟨by rfl, rfl⟩) ?_ ?_
          rotate_left
          · simp only [Act.put, List.setIfInBounds_toArray, List.set_cons_zero, List.set_cons_succ, i64_w, i32_w]
            rfl
          refine pure_ (i := 12) (N := some 21) (v := undef) (a' := ?_) #[true, true, true, true, true, true, true, true, true, true, true, true, true, false, false, false, false, false] rfl rfl (any_of HT_.out (by kernel_rfl)) (fun _ _ _ h => h) (Or.inr ⟨by rfl, rfl⟩) ?_ ?_
          rotate_left
          · simp only [Act.put, List.setIfInBounds_toArray, List.set_cons_zero, List.set_cons_succ, i64_w, i32_w]
            rfl
          refine pure_ (i := 13) (N := some 22) (v := undef) (a' := ?_) #[true, true, true, true, true, true, true, true, true, true, true, true, true, true, false, false, false, false] rfl rfl (any_of HT_.out (by kernel_rfl)) (fun _ _ _ h => h) (Or.inr ⟨by rfl, rfl⟩) ?_ ?_
          rotate_left
          · simp only [Act.put, List.setIfInBounds_toArray, List.set_cons_zero, List.set_cons_succ, i64_w, i32_w]
            rfl
          refine pure_ (i := 14) (N := some 23) (v := undef) (a' := ?_) #[true, true, true, true, true, true, true, true, true, true, true, true, true, true, true, false, false, false] rfl rfl (any_of HT_.out (by kernel_rfl)) (fun _ _ _ h => h) (Or.inr ⟨by rfl, rfl⟩) ?_ ?_
          rotate_left
          · simp only [Act.put, List.setIfInBounds_toArray, List.set_cons_zero, List.set_cons_succ, i64_w, i32_w]
            rfl
          refine pure_ (i := 15) (N := some 24) (v := undef) (a' := ?_) #[true, true, true, true, true, true, true, true, true, true, true, true, true, true, true, true, false, false] rfl rfl (any_of HT_.out (by kernel_rfl)) (fun _ _ _ h => h) (Or.inr ⟨by rfl, rfl⟩) ?_ ?_
          rotate_left
          · simp only [Act.put, List.setIfInBounds_toArray, List.set_cons_zero, List.set_cons_succ, i64_w, i32_w]
            rfl
          refine pure_ (i := 16) (N := some 25) (v := undef) (a' := ?_) #[true, true, true, true, true, true, true, true, true, true, true, true, true, true, true, true, true, false] rfl rfl (any_of HT_.out (by kernel_rfl)) (fun _ _ _ h => h) (Or.inr ⟨by rfl, rfl⟩) ?_ ?_
          rotate_left
          · simp only [Act.put, List.setIfInBounds_toArray, List.set_cons_zero, List.set_cons_succ, i64_w, i32_w]
            rfl
          refine pure_ (i := 17) (N := some 26) (v := ?_) (a' := ?_) #[true, true, true, true, true, true, true, true, true, true, true, true, true, true, true, true, true, true] rfl rfl (any_of HT_.out (by kernel_rfl)) (fun _ _ _ h => h) (Or.inl ⟨by rfl, ?_⟩) ?_ ?_
          rotate_left
          · intro w'
            go_simp
            with_reducible rfl
          rotate_left
          · simp only [Act.put, List.setIfInBounds_toArray, List.set_cons_zero, List.set_cons_succ, i64_w, i32_w]
            rfl
          refine done_ (done_of HT_.out (by kernel_rfl)) ?_
          try go_wp2
          go_roundg k1
          case measure => have := HK1.out; omega
          case rel => exact ⟨(wrap64 (x6_1 + 1)), (by first | rfl | (simp; done) | (simp [*]; done)), H', ⟨by have := HK1.out; omega⟩, ⟨by repeat (first | (with_reducible first | exact HB.out | apply below_alloc | apply pw_below_drewN | apply below_drew1) | exact HB.out)⟩⟩
      · rw [if_neg c2] at H
        have c2b0 : decide (x6_1 < (l0.length : Int)) = false := decide_eq_false c2
        clear c2
        obtain rfl := Option.some.inj H
        go_wp2
        go_ret
        exact ⟨by first | rfl | (simp [errW_none, errW_some] <;> rfl) | (simp [*, errW_none, errW_some] <;> rfl), by repeat (first | (with_reducible first | exact HB.out | apply below_alloc | apply pw_below_drewN | apply below_drew1) | exact HB.out)⟩

end Go.Proofs.Ytcgokimagimamaa.F
/- Written by a program of mine out of the translation: what functions answer; Lean checks it. -/
namespace Go.Proofs.Ytcgokimagimamaa.F
open Go.RowKit Go.Proofs.YtcgokimagimamaaW.PrintWords Go.Proofs.YtcgokimagimamaaW.PrintLast Go.Proofs.YtcgokimagimamaaW.PrintMore
attribute [local go_sem] max2_int min2_int max_two min_two max_three min_three max_four min_four   -- for this text's walks alone
set_option linter.unusedVariables false
set_option linter.unusedSimpArgs false
/-! ### ware_body_id: function 154 -/
def ware_body_id.f (a0_0 : Int) (a0_1 : Int) (a0_2 : Int) (a0_3 : Int) (a0_4 : Int) (a0_5 : Int) (a0_6 : Int) : Option (Int) := some a0_0
set_option maxHeartbeats 8000000 in
set_option maxRecDepth 100000 in
theorem ware_body_id.calls (a0_0 : Int) (a0_1 : Int) (a0_2 : Int) (a0_3 : Int) (a0_4 : Int) (a0_5 : Int) (a0_6 : Int) (r : Int) (w : World) (h : ware_body_id.f a0_0 a0_1 a0_2 a0_3 a0_4 a0_5 a0_6 = some r) :
    Calls Try.prog 154 #[.agg #[.int .i64 a0_0, .int .i64 a0_1, .int .i64 a0_2, .int .i64 a0_3, .int .i64 a0_4, .int .i64 a0_5, .int .i64 a0_6]] w fun e w' => e = .returned (.int .i64 r) ∧ Below w.heap.size w w' := by
  have hu99 := Try.underlying99
  have HB := Aside0.mk (Below.refl w.heap.size w)
  have H : (some a0_0) = some r := h
  clear h
  obtain rfl := Option.some.inj H
  go_enter Try.func154, Try.ntmps154
  go_wp2_with (first | ((with_reducible refine gate_dst (N := 1) rfl ?_); refine box_event ?hg (N := 1) ?hd (cs := #[.int .i64 a0_0, .int .i64 a0_1, .int .i64 a0_2, .int .i64 a0_3, .int .i64 a0_4, .int .i64 a0_5, .int .i64 a0_6]) (t := 99) ?hr ?_; (case hd => rfl); (case hg => rfl); (case hr => first | (go_simp; done) | (go_simp; rfl)); intro gb444 hg w2 hbox hb; have n0_ := Aside0.mk (below_step (by repeat (first | (with_reducible first | exact HB.out | apply below_alloc | apply pw_below_drewN | apply below_drew1) | exact HB.out)) hb); have n1_ := Aside0.mk (hbox); have n2_ := Aside0.mk ((by rw [hg]; exact (below_size (by repeat (first | (with_reducible first | exact HB.out | apply below_alloc | apply pw_below_drewN | apply below_drew1) | exact HB.out))) : w.heap.size ≤ gb444)); have n3_ := Aside0.mk ((by rw [hg]; exact (below_size (by repeat (first | (with_reducible first | exact HB.out | apply below_alloc | apply pw_below_drewN | apply below_drew1) | exact HB.out))) : w.heap.size ≤ gb444)); clear HB; have HB := n0_; have BK444 := n1_; have GW444 := n2_; have GE444 := n3_; clear n0_ n1_ n2_ n3_; clear hb hbox hg; have hcz3_0 : w2.cell? ⟨gb444, 0, none⟩ = some (.int .i64 a0_0) := (blk_cell BK444.out 0).trans rfl; have hcz3_1 : w2.cell? ⟨gb444, 1, none⟩ = some (.int .i64 a0_1) := (blk_cell BK444.out 1).trans rfl; have hcz3_2 : w2.cell? ⟨gb444, 2, none⟩ = some (.int .i64 a0_2) := (blk_cell BK444.out 2).trans rfl; have hcz3_3 : w2.cell? ⟨gb444, 3, none⟩ = some (.int .i64 a0_3) := (blk_cell BK444.out 3).trans rfl; have hcz3_4 : w2.cell? ⟨gb444, 4, none⟩ = some (.int .i64 a0_4) := (blk_cell BK444.out 4).trans rfl; have hcz3_5 : w2.cell? ⟨gb444, 5, none⟩ = some (.int .i64 a0_5) := (blk_cell BK444.out 5).trans rfl; have hcz3_6 : w2.cell? ⟨gb444, 6, none⟩ = some (.int .i64 a0_6) := (blk_cell BK444.out 6).trans rfl; have hfz3_0 := blk_frozen BK444.out 0; have hfz3_1 := blk_frozen BK444.out 1; have hfz3_2 := blk_frozen BK444.out 2; have hfz3_3 := blk_frozen BK444.out 3; have hfz3_4 := blk_frozen BK444.out 4; have hfz3_5 := blk_frozen BK444.out 5; have hfz3_6 := blk_frozen BK444.out 6))
  go_ret
  exact ⟨by first | rfl | (simp [errW_none, errW_some] <;> rfl) | (simp [*, errW_none, errW_some] <;> rfl), by repeat (first | (with_reducible first | exact HB.out | apply below_alloc | apply pw_below_drewN | apply below_drew1 | refine below_set ?_ GE444.out) | exact HB.out)⟩

end Go.Proofs.Ytcgokimagimamaa.F
/- Written by a program of mine out of the translation: what functions answer; Lean checks it. -/
namespace Go.Proofs.Ytcgokimagimamaa.F
open Go.RowKit Go.Proofs.YtcgokimagimamaaW.PrintWords Go.Proofs.YtcgokimagimamaaW.PrintLast Go.Proofs.YtcgokimagimamaaW.PrintMore
attribute [local go_sem] max2_int min2_int max_two min_two max_three min_three max_four min_four   -- for this text's walks alone
set_option linter.unusedVariables false
set_option linter.unusedSimpArgs false
theorem mc79_99 : Try.prog.concrete 99 = true := by kernel_rfl
theorem mm79_99 (x : Value) (w : World) : (method 281 99 x "potbank/ware.id").run Try.prog w = .ok (154, x) w := by kernel_rfl
theorem mi79_99 (x : Value) (w : World) : (invoke (.fn (.method "potbank/ware.id") #[]) #[.iface 99 x]).run Try.prog w = .ok (.enter 154 #[x]) w := by kernel_rfl
attribute [local go_sem] mc79_99 mm79_99
/-! ### ware_body_79: function 79 -/
def ware_body_79.l0 : Nat → List (S99) → Int → Int → Option (Bool)
  | 0, _, _, _ => none
  | k + 1, x0, x5, x6 => if x6 < x5 then (if x6 > 0 then (if 0 ≤ (wrap64 (x6 - 1)) then (if (wrap64 (x6 - 1)) < (x0.length : Int) then ((ware_body_id.f ((rd_T99 x0 (wrap64 (x6 - 1))).f0) ((rd_T99 x0 (wrap64 (x6 - 1))).f1.f0) ((rd_T99 x0 (wrap64 (x6 - 1))).f1.f1) ((rd_T99 x0 (wrap64 (x6 - 1))).f2.f0) ((rd_T99 x0 (wrap64 (x6 - 1))).f2.f1) ((rd_T99 x0 (wrap64 (x6 - 1))).f3.f0) ((rd_T99 x0 (wrap64 (x6 - 1))).f3.f1)).bind fun t446 => (if 0 ≤ x6 then (if x6 < (x0.length : Int) then ((ware_body_id.f ((rd_T99 x0 x6).f0) ((rd_T99 x0 x6).f1.f0) ((rd_T99 x0 x6).f1.f1) ((rd_T99 x0 x6).f2.f0) ((rd_T99 x0 x6).f2.f1) ((rd_T99 x0 x6).f3.f0) ((rd_T99 x0 x6).f3.f1)).bind fun t448 => (if t446 ≥ t448 then (some false) else (ware_body_79.l0 k x0 x5 (wrap64 (x6 + 1))))) else (none)) else (none))) else (none)) else (none)) else (ware_body_79.l0 k x0 x5 (wrap64 (x6 + 1)))) else (some true)
def ware_body_79.f (k : Nat) (l0 : List (S99)) : Option (Bool) := ware_body_79.l0 k l0 (l0.length : Int) 0
theorem ware_body_79.mono_l : ∀ k, (∀ y0 y1 y2, LeO (ware_body_79.l0 k y0 y1 y2) (ware_body_79.l0 (k + 1) y0 y1 y2))
  | 0 => fun _ _ _ r h => by simp [ware_body_79.l0] at h
  | k + 1 => by
    have ih0 := ware_body_79.mono_l k
    · intro y0 y1 y2
      unfold ware_body_79.l0
      repeat' first
      | (with_reducible exact ih0 _ _ _)
      | (with_reducible exact LeO.refl _)
      | (with_reducible exact LeO.none _)
      | (with_reducible refine LeO.ite ?_ ?_)
      | (with_reducible refine LeO.bind ?_ (fun _ => ?_))
      | exact ih0 _ _ _
      | exact LeO.none _
      | refine LeO.ite ?_ ?_
      | refine LeO.bind ?_ (fun _ => ?_)
theorem ware_body_79.mono : ∀ a0 k, LeO (ware_body_79.f k a0) (ware_body_79.f (k + 1) a0) := by
  intro a0 k
  have ih0 := ware_body_79.mono_l k
  unfold ware_body_79.f
  repeat' first
      | (with_reducible exact ih0 _ _ _)
      | (with_reducible exact LeO.refl _)
      | (with_reducible exact LeO.none _)
      | (with_reducible refine LeO.ite ?_ ?_)
      | (with_reducible refine LeO.bind ?_ (fun _ => ?_))
      | exact ih0 _ _ _
      | exact LeO.none _
      | refine LeO.ite ?_ ?_
      | refine LeO.bind ?_ (fun _ => ?_)
def ware_body_79.T4 : Bool × List (List Nat × List Nat) := (true, [([], []), ([0], [0]), ([1], [1]), ([2], [2]), ([2], [2]), ([4, 2], [2, 4]), ([3, 5, 2], [2, 3, 5]), ([6, 2], [2, 6]), ([7, 2], [2, 7]), ([8, 2, 2], [2, 8]), ([2], [2]), ([2], [2]), ([10, 11, 2], [2, 10, 11]), ([12, 2], [2, 12]), ([13, 2], [2, 13]), ([14, 9, 2], [2, 14]), ([9, 15, 2], [2, 9, 15]), ([2, 16], [2, 16])])
def ware_body_79.B4 : List Nat := [0, 1, 3, 7, 7, 23, 63, 127, 255, 511, 7, 7, 3079, 7175, 15367, 32767, 65535, 131071]
theorem ware_body_79.tab4 : rtab .any (opsOf Try.f79 4) = ware_body_79.T4 := by kernel_rfl
theorem ware_body_79.bits4 : waitsOk ware_body_79.T4.2 ware_body_79.B4 = true := by kernel_rfl
set_option maxHeartbeats 8000000 in
set_option maxRecDepth 100000 in
theorem ware_body_79.calls (k : Nat) (A0 : Option Addr) (c0 : Nat) (l0 : List (S99)) (r : Bool) (w : World) (hr0 : Kd.C k99 w A0 l0.length l0) (hc0 : l0.length ≤ c0) (h : ware_body_79.f k l0 = some r) :
    Calls Try.prog 79 #[.slice A0 l0.length c0] w fun e w' => e = .returned (.bool r) ∧ Below w.heap.size w w' := by
  have hu99 := Try.underlying99
  have HR0 := Aside0.mk hr0
  have HC0 := Aside0.mk hc0
  clear hr0 hc0
  have HB := Aside0.mk (Below.refl w.heap.size w)
  have H : (ware_body_79.l0 k l0 (l0.length : Int) 0) = some r := h
  clear h
  have H' := Aside0.mk H
  clear H
  go_enter Try.func79, Try.ntmps79
  go_wp2
  go_loopg [6] k (fun kq v6 w' => ∃ (x6_1 : Int), v6 = .int .i64 x6_1 ∧ Aside0 (ware_body_79.l0 kq l0 (l0.length : Int) x6_1 = some r) ∧ Aside0 (kq ≤ k) ∧ Aside0 (Below w.heap.size w w'))
  case atStart => exact ⟨(0), (by first | rfl | (simp; done) | (simp [*]; done)), H', ⟨Nat.le_refl _⟩, ⟨by repeat (first | (with_reducible first | exact HB.out | apply below_alloc | apply pw_below_drewN | apply below_drew1) | exact HB.out)⟩⟩
  case round =>
    clear H'
    obtain ⟨x6_1, rfl, HA, HK1, HB⟩ := hrel
    cases gk with
    | zero => exact absurd HA.out (by simp [ware_body_79.l0])
    | succ k1 =>
      have H := HA.out
      clear HA
      simp only [ware_body_79.l0] at H
      by_cases c2 : x6_1 < (l0.length : Int)
      · rw [if_pos c2] at H
        have c2b0 : decide (x6_1 < (l0.length : Int)) = true := decide_eq_true c2
        clear c2
        by_cases c3 : x6_1 > 0
        · rw [if_pos c3] at H
          have c3b0 : decide (0 < x6_1) = true := decide_eq_true c3
          clear c3
          obtain ⟨ji4, hji4⟩ : ∃ j_ : Int, (wrap64 (x6_1 - 1)) = j_ := ⟨_, rfl⟩
          replace H : (if 0 ≤ (ji4) then (if (ji4) < (l0.length : Int) then ((ware_body_id.f ((rd_T99 l0 (ji4)).f0) ((rd_T99 l0 (ji4)).f1.f0) ((rd_T99 l0 (ji4)).f1.f1) ((rd_T99 l0 (ji4)).f2.f0) ((rd_T99 l0 (ji4)).f2.f1) ((rd_T99 l0 (ji4)).f3.f0) ((rd_T99 l0 (ji4)).f3.f1)).bind fun t446 => (if 0 ≤ x6_1 then (if x6_1 < (l0.length : Int) then ((ware_body_id.f ((rd_T99 l0 x6_1).f0) ((rd_T99 l0 x6_1).f1.f0) ((rd_T99 l0 x6_1).f1.f1) ((rd_T99 l0 x6_1).f2.f0) ((rd_T99 l0 x6_1).f2.f1) ((rd_T99 l0 x6_1).f3.f0) ((rd_T99 l0 x6_1).f3.f1)).bind fun t448 => (if t446 ≥ t448 then (some false) else (ware_body_79.l0 k1 l0 (l0.length : Int) (wrap64 (x6_1 + 1))))) else (none)) else (none))) else (none)) else (none)) = some r := by first | (rw [hji4] at H; exact H) | (simp only [hji4] at H ⊢; exact H)
          have hji4w : (IntKind.i64.wrap (x6_1 - 1)) = ji4 := (i64_w _).trans hji4
          by_cases c5 : 0 ≤ (ji4)
          · rw [if_pos c5] at H
            have c5b0 : decide (0 ≤ (ji4)) = true := decide_eq_true c5
            clear c5
            by_cases c6 : (ji4) < (l0.length : Int)
            · rw [if_pos c6] at H
              have c6b0 : decide ((ji4) < (l0.length : Int)) = true := decide_eq_true c6
              clear c6
              replace H := Option.bind_eq_some_iff.mp H
              obtain ⟨t446, A70, H⟩ := H
              replace H : (if 0 ≤ x6_1 then (if x6_1 < (l0.length : Int) then ((ware_body_id.f ((rd_T99 l0 x6_1).f0) ((rd_T99 l0 x6_1).f1.f0) ((rd_T99 l0 x6_1).f1.f1) ((rd_T99 l0 x6_1).f2.f0) ((rd_T99 l0 x6_1).f2.f1) ((rd_T99 l0 x6_1).f3.f0) ((rd_T99 l0 x6_1).f3.f1)).bind fun t448 => (if t446 ≥ t448 then (some false) else (ware_body_79.l0 k1 l0 (l0.length : Int) (wrap64 (x6_1 + 1))))) else (none)) else (none)) = some r := H
              have A7 := Aside0.mk A70
              clear A70
              by_cases c8 : 0 ≤ x6_1
              · rw [if_pos c8] at H
                have c8b0 : decide (0 ≤ x6_1) = true := decide_eq_true c8
                clear c8
                by_cases c9 : x6_1 < (l0.length : Int)
                · rw [if_pos c9] at H
                  have c9b0 : decide (x6_1 < (l0.length : Int)) = true := decide_eq_true c9
                  clear c9
                  replace H := Option.bind_eq_some_iff.mp H
                  obtain ⟨t448, A100, H⟩ := H
                  replace H : (if t446 ≥ t448 then (some false) else (ware_body_79.l0 k1 l0 (l0.length : Int) (wrap64 (x6_1 + 1)))) = some r := H
                  have A10 := Aside0.mk A100
                  clear A100
                  by_cases c11 : t446 ≥ t448
                  · rw [if_pos c11] at H
                    have c11b0 : decide (t448 ≤ t446) = true := decide_eq_true c11
                    clear c11
                    obtain rfl := Option.some.inj H
                    try go_wp2
                    have n0_ := Aside0.mk (below_drew1 HB.out)
                    clear HB
                    have HB := n0_
                    clear n0_
                    have p445 : 0 ≤ ((ji4) : Int) := of_decide_eq_true (by first | (with_reducible assumption) | assumption)
                    have q445 : (ji4) < (l0.length : Int) := of_decide_eq_true (by first | (with_reducible assumption) | assumption)
                    obtain ⟨ad445, e445, hx445_0, hx445_1, hx445_2, hx445_3, hx445_4, hx445_5, hx445_6⟩ := at_T99 HR0.out (ji4) p445 q445
                    have hw445_6 := hx445_6
                    have hw445_5 := hx445_5
                    have hw445_4 := hx445_4
                    have hw445_3 := hx445_3
                    have hw445_2 := hx445_2
                    have hw445_1 := hx445_1
                    have hw445_0 := hx445_0
                    cases e445
                    replace hx445_0 := (HB.out.cell (World.block_lt_of_cell? w _ hx445_0)).trans hx445_0
                    replace hx445_1 := (HB.out.cell (World.block_lt_of_cell? w _ hx445_1)).trans hx445_1
                    replace hx445_2 := (HB.out.cell (World.block_lt_of_cell? w _ hx445_2)).trans hx445_2
                    replace hx445_3 := (HB.out.cell (World.block_lt_of_cell? w _ hx445_3)).trans hx445_3
                    replace hx445_4 := (HB.out.cell (World.block_lt_of_cell? w _ hx445_4)).trans hx445_4
                    replace hx445_5 := (HB.out.cell (World.block_lt_of_cell? w _ hx445_5)).trans hx445_5
                    replace hx445_6 := (HB.out.cell (World.block_lt_of_cell? w _ hx445_6)).trans hx445_6
                    replace p445 := eq_true p445
                    replace q445 := eq_true q445
                    have p447 : 0 ≤ (x6_1 : Int) := of_decide_eq_true (by first | (with_reducible assumption) | assumption)
                    have q447 : x6_1 < (l0.length : Int) := of_decide_eq_true (by first | (with_reducible assumption) | assumption)
                    obtain ⟨ad447, e447, hx447_0, hx447_1, hx447_2, hx447_3, hx447_4, hx447_5, hx447_6⟩ := at_T99 HR0.out x6_1 p447 q447
                    have hw447_6 := hx447_6
                    have hw447_5 := hx447_5
                    have hw447_4 := hx447_4
                    have hw447_3 := hx447_3
                    have hw447_2 := hx447_2
                    have hw447_1 := hx447_1
                    have hw447_0 := hx447_0
                    obtain rfl : ad445 = ad447 := (by injection e447)
                    replace hx447_0 := (HB.out.cell (World.block_lt_of_cell? w _ hx447_0)).trans hx447_0
                    replace hx447_1 := (HB.out.cell (World.block_lt_of_cell? w _ hx447_1)).trans hx447_1
                    replace hx447_2 := (HB.out.cell (World.block_lt_of_cell? w _ hx447_2)).trans hx447_2
                    replace hx447_3 := (HB.out.cell (World.block_lt_of_cell? w _ hx447_3)).trans hx447_3
                    replace hx447_4 := (HB.out.cell (World.block_lt_of_cell? w _ hx447_4)).trans hx447_4
                    replace hx447_5 := (HB.out.cell (World.block_lt_of_cell? w _ hx447_5)).trans hx447_5
                    replace hx447_6 := (HB.out.cell (World.block_lt_of_cell? w _ hx447_6)).trans hx447_6
                    replace p447 := eq_true p447
                    replace q447 := eq_true q447
                    refine start_ (n := 18) (S := fun w' => w'.cell? (ad445.add (((ji4)).toNat * 7)) = some (.int .i64 ((rd_T99 l0 (ji4)).f0)) ∧ w'.cell? ⟨(ad445.add (((ji4)).toNat * 7)).block, (ad445.add (((ji4)).toNat * 7)).off + 1, none⟩ = some (.int .i64 ((rd_T99 l0 (ji4)).f1.f0)) ∧ w'.cell? ⟨(ad445.add (((ji4)).toNat * 7)).block, (ad445.add (((ji4)).toNat * 7)).off + 2, none⟩ = some (.int .i64 ((rd_T99 l0 (ji4)).f1.f1)) ∧ w'.cell? ⟨(ad445.add (((ji4)).toNat * 7)).block, (ad445.add (((ji4)).toNat * 7)).off + 3, none⟩ = some (.int .i64 ((rd_T99 l0 (ji4)).f2.f0)) ∧ w'.cell? ⟨(ad445.add (((ji4)).toNat * 7)).block, (ad445.add (((ji4)).toNat * 7)).off + 4, none⟩ = some (.int .i64 ((rd_T99 l0 (ji4)).f2.f1)) ∧ w'.cell? ⟨(ad445.add (((ji4)).toNat * 7)).block, (ad445.add (((ji4)).toNat * 7)).off + 5, none⟩ = some (.int .i64 ((rd_T99 l0 (ji4)).f3.f0)) ∧ w'.cell? ⟨(ad445.add (((ji4)).toNat * 7)).block, (ad445.add (((ji4)).toNat * 7)).off + 6, none⟩ = some (.int .i64 ((rd_T99 l0 (ji4)).f3.f1)) ∧ w'.cell? (ad445.add ((x6_1).toNat * 7)) = some (.int .i64 ((rd_T99 l0 x6_1).f0)) ∧ w'.cell? ⟨(ad445.add ((x6_1).toNat * 7)).block, (ad445.add ((x6_1).toNat * 7)).off + 1, none⟩ = some (.int .i64 ((rd_T99 l0 x6_1).f1.f0)) ∧ w'.cell? ⟨(ad445.add ((x6_1).toNat * 7)).block, (ad445.add ((x6_1).toNat * 7)).off + 2, none⟩ = some (.int .i64 ((rd_T99 l0 x6_1).f1.f1)) ∧ w'.cell? ⟨(ad445.add ((x6_1).toNat * 7)).block, (ad445.add ((x6_1).toNat * 7)).off + 3, none⟩ = some (.int .i64 ((rd_T99 l0 x6_1).f2.f0)) ∧ w'.cell? ⟨(ad445.add ((x6_1).toNat * 7)).block, (ad445.add ((x6_1).toNat * 7)).off + 4, none⟩ = some (.int .i64 ((rd_T99 l0 x6_1).f2.f1)) ∧ w'.cell? ⟨(ad445.add ((x6_1).toNat * 7)).block, (ad445.add ((x6_1).toNat * 7)).off + 5, none⟩ = some (.int .i64 ((rd_T99 l0 x6_1).f3.f0)) ∧ w'.cell? ⟨(ad445.add ((x6_1).toNat * 7)).block, (ad445.add ((x6_1).toNat * 7)).off + 6, none⟩ = some (.int .i64 ((rd_T99 l0 x6_1).f3.f1))) (ds := []) #[false, false, false, false, false, false, false, false, false, false, false, false, false, false, false, false, false, false] (by kernel_rfl) rfl rfl ⟨((HB.out.cell (World.block_lt_of_cell? w _ hw445_0)).trans hw445_0), ((HB.out.cell (World.block_lt_of_cell? w _ hw445_1)).trans hw445_1), ((HB.out.cell (World.block_lt_of_cell? w _ hw445_2)).trans hw445_2), ((HB.out.cell (World.block_lt_of_cell? w _ hw445_3)).trans hw445_3), ((HB.out.cell (World.block_lt_of_cell? w _ hw445_4)).trans hw445_4), ((HB.out.cell (World.block_lt_of_cell? w _ hw445_5)).trans hw445_5), ((HB.out.cell (World.block_lt_of_cell? w _ hw445_6)).trans hw445_6), ((HB.out.cell (World.block_lt_of_cell? w _ hw447_0)).trans hw447_0), ((HB.out.cell (World.block_lt_of_cell? w _ hw447_1)).trans hw447_1), ((HB.out.cell (World.block_lt_of_cell? w _ hw447_2)).trans hw447_2), ((HB.out.cell (World.block_lt_of_cell? w _ hw447_3)).trans hw447_3), ((HB.out.cell (World.block_lt_of_cell? w _ hw447_4)).trans hw447_4), ((HB.out.cell (World.block_lt_of_cell? w _ hw447_5)).trans hw447_5), ((HB.out.cell (World.block_lt_of_cell? w _ hw447_6)).trans hw447_6)⟩ (fun hHeld => ?_); refine with_tabW ware_body_79.tab4 ware_body_79.bits4 (fun HT_ HW_ => ?_)
                    generalize wr.drew = w12 at HB hx445_0 hx445_1 hx445_2 hx445_3 hx445_4 hx445_5 hx445_6 hx447_0 hx447_1 hx447_2 hx447_3 hx447_4 hx447_5 hx447_6 hHeld ⊢
                    refine pure_ (i := 0) (N := some 9) (v := ?_) (a' := ?_) #[true, false, false, false, false, false, false, false, false, false, false, false, false, false, false, false, false, false] rfl rfl (any_of HT_.out (by kernel_rfl)) (fun _ _ _ h => h) (Or.inl ⟨by rfl, ?_⟩) ?_ ?_
                    rotate_left
                    · intro w'
                      go_simp
                      with_reducible rfl
                    rotate_left
                    · simp only [Act.put, List.setIfInBounds_toArray, List.set_cons_zero, List.set_cons_succ, i64_w, i32_w]
                      rfl
                    refine pure_ (i := 1) (N := some 10) (v := ?_) (a' := ?_) #[true, true, false, false, false, false, false, false, false, false, false, false, false, false, false, false, false, false] rfl rfl (any_of HT_.out (by kernel_rfl)) (fun _ _ _ h => h) (Or.inl ⟨by rfl, ?_⟩) ?_ ?_
                    rotate_left
                    · intro w'
                      go_simp
                      with_reducible rfl
                    rotate_left
                    · simp only [Act.put, List.setIfInBounds_toArray, List.set_cons_zero, List.set_cons_succ, i64_w, i32_w]
                      rfl
                    refine pure_ (i := 2) (N := some 11) (v := ?_) (a' := ?_) #[true, true, true, false, false, false, false, false, false, false, false, false, false, false, false, false, false, false] rfl rfl (any_of HT_.out (by kernel_rfl)) (fun _ _ _ h => h) (Or.inl ⟨by rfl, ?_⟩) ?_ ?_
                    rotate_left
                    · intro w'
                      go_simp
                      with_reducible rfl
                    rotate_left
                    · simp only [Act.put, List.setIfInBounds_toArray, List.set_cons_zero, List.set_cons_succ, i64_w, i32_w]
                      rfl
                    refine pure_ (i := 3) (N := some 12) (v := ?_) (a' := ?_) #[true, true, true, true, false, false, false, false, false, false, false, false, false, false, false, false, false, false] rfl rfl (any_of HT_.out (by kernel_rfl)) (fun _ _ _ h => h) (Or.inl ⟨by rfl, ?_⟩) ?_ ?_
                    rotate_left
                    · intro w'
                      go_simp
                      with_reducible rfl
                    rotate_left
                    · simp only [Act.put, List.setIfInBounds_toArray, List.set_cons_zero, List.set_cons_succ, i64_w, i32_w]
                      rfl
                    refine pure_ (i := 4) (N := some 13) (v := ?_) (a' := ?_) #[true, true, true, true, true, false, false, false, false, false, false, false, false, false, false, false, false, false] rfl rfl (any_of HT_.out (by kernel_rfl)) (fun _ _ _ h => h) (Or.inl ⟨by rfl, ?_⟩) ?_ ?_
                    rotate_left
                    · intro w'
                      go_simp
                      with_reducible rfl
                    rotate_left
                    · simp only [Act.put, List.setIfInBounds_toArray, List.set_cons_zero, List.set_cons_succ, i64_w, i32_w]
                      rfl
                    refine pure_ (i := 5) (N := some 14) (v := ?_) (a' := ?_) #[true, true, true, true, true, true, false, false, false, false, false, false, false, false, false, false, false, false] rfl rfl (any_of HT_.out (by kernel_rfl)) (fun _ _ _ h => h) (Or.inl ⟨by rfl, ?_⟩) ?_ ?_
                    rotate_left
                    · intro w'
                      go_simp
                      with_reducible rfl
                    rotate_left
                    · simp only [Act.put, List.setIfInBounds_toArray, List.set_cons_zero, List.set_cons_succ, i64_w, i32_w]
                      rfl
                    refine pure_ (i := 6) (N := some 15) (v := ?_) (a' := ?_) #[true, true, true, true, true, true, true, false, false, false, false, false, false, false, false, false, false, false] rfl rfl (any_of HT_.out (by kernel_rfl)) (fun _ _ _ h => h) (Or.inl ⟨by rfl, ?_⟩) ?_ ?_
                    rotate_left
                    · intro w'
                      go_simp
                      with_reducible rfl
                    rotate_left
                    · simp only [Act.put, List.setIfInBounds_toArray, List.set_cons_zero, List.set_cons_succ, i64_w, i32_w]
                      rfl
                    refine pure_ (i := 10) (N := some 19) (v := ?_) (a' := ?_) #[true, true, true, true, true, true, true, false, false, false, true, false, false, false, false, false, false, false] rfl rfl (any_of HT_.out (by kernel_rfl)) (fun _ _ _ h => h) (Or.inl ⟨by rfl, ?_⟩) ?_ ?_
                    rotate_left
                    · intro w'
                      go_simp
                      with_reducible rfl
                    rotate_left
                    · simp only [Act.put, List.setIfInBounds_toArray, List.set_cons_zero, List.set_cons_succ, i64_w, i32_w]
                      rfl
                    refine pure_ (i := 11) (N := some 20) (v := ?_) (a' := ?_) #[true, true, true, true, true, true, true, false, false, false, true, true, false, false, false, false, false, false] rfl rfl (any_of HT_.out (by kernel_rfl)) (fun _ _ _ h => h) (Or.inl ⟨by rfl, ?_⟩) ?_ ?_
                    rotate_left
                    · intro w'
                      go_simp
                      with_reducible rfl
                    rotate_left
                    · simp only [Act.put, List.setIfInBounds_toArray, List.set_cons_zero, List.set_cons_succ, i64_w, i32_w]
                      rfl
                    refine pure_ (i := 12) (N := some 21) (v := ?_) (a' := ?_) #[true, true, true, true, true, true, true, false, false, false, true, true, true, false, false, false, false, false] rfl rfl (any_of HT_.out (by kernel_rfl)) (fun _ _ _ h => h) (Or.inl ⟨by rfl, ?_⟩) ?_ ?_
                    rotate_left
                    · intro w'
                      go_simp
                      with_reducible rfl
                    rotate_left
                    · simp only [Act.put, List.setIfInBounds_toArray, List.set_cons_zero, List.set_cons_succ, i64_w, i32_w]
                      rfl
                    refine take_ (i := 7) (N := some 16) (v := ?_) (a' := ?_) #[true, true, true, true, true, true, true, true, false, false, true, true, true, false, false, false, false, false] rfl rfl (take_ofW HT_.out HW_.out (by kernel_rfl)) (fun _ _ _ h => h) (Or.inl ⟨by rfl, ?_⟩) hHeld ?_ ?_
                    rotate_left
                    · rintro w' ⟨s0, s1, s2, s3, s4, s5, s6, s7, s8, s9, s10, s11, s12, s13⟩
                      go_simp
                      with_reducible rfl
                    rotate_left
                    · simp only [Act.put, List.setIfInBounds_toArray, List.set_cons_zero, List.set_cons_succ, i64_w, i32_w]
                      rfl
                    refine pure_ (i := 8) (N := some 17) (v := ?_) (a' := ?_) #[true, true, true, true, true, true, true, true, true, false, true, true, true, false, false, false, false, false] rfl rfl (any_of HT_.out (by kernel_rfl)) (fun _ _ _ h => h) (Or.inl ⟨by rfl, ?_⟩) ?_ ?_
                    rotate_left
                    · intro w'
                      go_simp
                      with_reducible rfl
                    rotate_left
                    · simp only [Act.put, List.setIfInBounds_toArray, List.set_cons_zero, List.set_cons_succ, i64_w, i32_w]
                      rfl
                    refine take_ (i := 13) (N := some 22) (v := ?_) (a' := ?_) #[true, true, true, true, true, true, true, true, true, false, true, true, true, true, false, false, false, false] rfl rfl (take_ofW HT_.out HW_.out (by kernel_rfl)) (fun _ _ _ h => h) (Or.inl ⟨by rfl, ?_⟩) hHeld ?_ ?_
                    rotate_left
                    · rintro w' ⟨s0, s1, s2, s3, s4, s5, s6, s7, s8, s9, s10, s11, s12, s13⟩
                      go_simp
                      with_reducible rfl
                    rotate_left
                    · simp only [Act.put, List.setIfInBounds_toArray, List.set_cons_zero, List.set_cons_succ, i64_w, i32_w]
                      rfl
                    refine pure_ (i := 14) (N := some 23) (v := ?_) (a' := ?_) #[true, true, true, true, true, true, true, true, true, false, true, true, true, true, true, false, false, false] rfl rfl (any_of HT_.out (by kernel_rfl)) (fun _ _ _ h => h) (Or.inl ⟨by rfl, ?_⟩) ?_ ?_
                    rotate_left
                    · intro w'
                      go_simp
                      with_reducible rfl
                    rotate_left
                    · simp only [Act.put, List.setIfInBounds_toArray, List.set_cons_zero, List.set_cons_succ, i64_w, i32_w]
                      rfl
                    refine one_ (i := 9) (N := some 18) #[true, true, true, true, true, true, true, true, true, true, true, true, true, true, true, false, false, false] rfl rfl (one_of HT_.out (by kernel_rfl)) (by decide) (fun K hK => ?_)
                    refine call_ 154 #[.agg #[.int .i64 ((rd_T99 l0 (ji4)).f0), .int .i64 ((rd_T99 l0 (ji4)).f1.f0), .int .i64 ((rd_T99 l0 (ji4)).f1.f1), .int .i64 ((rd_T99 l0 (ji4)).f2.f0), .int .i64 ((rd_T99 l0 (ji4)).f2.f1), .int .i64 ((rd_T99 l0 (ji4)).f3.f0), .int .i64 ((rd_T99 l0 (ji4)).f3.f1)]] (by rfl) rfl (exec_invoke (by rfl) (by rfl) (mi79_99 _ _)) ?_
                    with_reducible refine (ware_body_id.calls ((rd_T99 l0 (ji4)).f0) ((rd_T99 l0 (ji4)).f1.f0) ((rd_T99 l0 (ji4)).f1.f1) ((rd_T99 l0 (ji4)).f2.f0) ((rd_T99 l0 (ji4)).f2.f1) ((rd_T99 l0 (ji4)).f3.f0) ((rd_T99 l0 (ji4)).f3.f1) t446 _ A7.out).mono ?_
                    rintro e w13 ⟨rfl, hb⟩
                    refine ⟨_, rfl, ?_⟩
                    have n0_ := Aside0.mk (below_step (by repeat (first | (with_reducible first | exact HB.out | apply below_alloc | apply pw_below_drewN | apply below_drew1) | exact HB.out)) hb)
                    clear HB
                    have HB := n0_
                    clear n0_
                    (try clear hb)
                    (try clear hb2)
                    (try clear hk)
                    (try clear hi)
                    refine hK.out _ _ ⟨((HB.out.cell (World.block_lt_of_cell? w _ hw445_0)).trans hw445_0), ((HB.out.cell (World.block_lt_of_cell? w _ hw445_1)).trans hw445_1), ((HB.out.cell (World.block_lt_of_cell? w _ hw445_2)).trans hw445_2), ((HB.out.cell (World.block_lt_of_cell? w _ hw445_3)).trans hw445_3), ((HB.out.cell (World.block_lt_of_cell? w _ hw445_4)).trans hw445_4), ((HB.out.cell (World.block_lt_of_cell? w _ hw445_5)).trans hw445_5), ((HB.out.cell (World.block_lt_of_cell? w _ hw445_6)).trans hw445_6), ((HB.out.cell (World.block_lt_of_cell? w _ hw447_0)).trans hw447_0), ((HB.out.cell (World.block_lt_of_cell? w _ hw447_1)).trans hw447_1), ((HB.out.cell (World.block_lt_of_cell? w _ hw447_2)).trans hw447_2), ((HB.out.cell (World.block_lt_of_cell? w _ hw447_3)).trans hw447_3), ((HB.out.cell (World.block_lt_of_cell? w _ hw447_4)).trans hw447_4), ((HB.out.cell (World.block_lt_of_cell? w _ hw447_5)).trans hw447_5), ((HB.out.cell (World.block_lt_of_cell? w _ hw447_6)).trans hw447_6)⟩ (fun hHeld => ?_)
                    clear hK K
                    refine norm_ (a' := ?_) ?_ ?_
                    rotate_left
                    · show Act.put _ (some 18) _ = _
                      simp only [Act.put, List.setIfInBounds_toArray, List.set_cons_zero, List.set_cons_succ, i64_w, i32_w]
                      rfl
                    refine one_ (i := 15) (N := some 24) #[true, true, true, true, true, true, true, true, true, true, true, true, true, true, true, true, false, false] rfl rfl (one_of HT_.out (by kernel_rfl)) (by decide) (fun K hK => ?_)
                    refine call_ 154 #[.agg #[.int .i64 ((rd_T99 l0 x6_1).f0), .int .i64 ((rd_T99 l0 x6_1).f1.f0), .int .i64 ((rd_T99 l0 x6_1).f1.f1), .int .i64 ((rd_T99 l0 x6_1).f2.f0), .int .i64 ((rd_T99 l0 x6_1).f2.f1), .int .i64 ((rd_T99 l0 x6_1).f3.f0), .int .i64 ((rd_T99 l0 x6_1).f3.f1)]] (by rfl) rfl (exec_invoke (by rfl) (by rfl) (mi79_99 _ _)) ?_
                    with_reducible refine (ware_body_id.calls ((rd_T99 l0 x6_1).f0) ((rd_T99 l0 x6_1).f1.f0) ((rd_T99 l0 x6_1).f1.f1) ((rd_T99 l0 x6_1).f2.f0) ((rd_T99 l0 x6_1).f2.f1) ((rd_T99 l0 x6_1).f3.f0) ((rd_T99 l0 x6_1).f3.f1) t448 _ A10.out).mono ?_
                    rintro e w14 ⟨rfl, hb⟩
                    refine ⟨_, rfl, ?_⟩
                    have n0_ := Aside0.mk (below_step (by repeat (first | (with_reducible first | exact HB.out | apply below_alloc | apply pw_below_drewN | apply below_drew1) | exact HB.out)) hb)
                    clear HB
                    have HB := n0_
                    clear n0_
                    (try clear hb)
                    (try clear hb2)
                    (try clear hk)
                    (try clear hi)
                    refine hK.out _ _ ⟨((HB.out.cell (World.block_lt_of_cell? w _ hw445_0)).trans hw445_0), ((HB.out.cell (World.block_lt_of_cell? w _ hw445_1)).trans hw445_1), ((HB.out.cell (World.block_lt_of_cell? w _ hw445_2)).trans hw445_2), ((HB.out.cell (World.block_lt_of_cell? w _ hw445_3)).trans hw445_3), ((HB.out.cell (World.block_lt_of_cell? w _ hw445_4)).trans hw445_4), ((HB.out.cell (World.block_lt_of_cell? w _ hw445_5)).trans hw445_5), ((HB.out.cell (World.block_lt_of_cell? w _ hw445_6)).trans hw445_6), ((HB.out.cell (World.block_lt_of_cell? w _ hw447_0)).trans hw447_0), ((HB.out.cell (World.block_lt_of_cell? w _ hw447_1)).trans hw447_1), ((HB.out.cell (World.block_lt_of_cell? w _ hw447_2)).trans hw447_2), ((HB.out.cell (World.block_lt_of_cell? w _ hw447_3)).trans hw447_3), ((HB.out.cell (World.block_lt_of_cell? w _ hw447_4)).trans hw447_4), ((HB.out.cell (World.block_lt_of_cell? w _ hw447_5)).trans hw447_5), ((HB.out.cell (World.block_lt_of_cell? w _ hw447_6)).trans hw447_6)⟩ (fun hHeld => ?_)
                    clear hK K
                    refine norm_ (a' := ?_) ?_ ?_
                    rotate_left
                    · show Act.put _ (some 24) _ = _
                      simp only [Act.put, List.setIfInBounds_toArray, List.set_cons_zero, List.set_cons_succ, i64_w, i32_w]
                      rfl
                    refine pure_ (i := 16) (N := some 25) (v := ?_) (a' := ?_) #[true, true, true, true, true, true, true, true, true, true, true, true, true, true, true, true, true, false] rfl rfl (any_of HT_.out (by kernel_rfl)) (fun _ _ _ h => h) (Or.inl ⟨by rfl, ?_⟩) ?_ ?_
                    rotate_left
                    · intro w'
                      go_simp
                      with_reducible rfl
                    rotate_left
                    · simp only [Act.put, List.setIfInBounds_toArray, List.set_cons_zero, List.set_cons_succ, i64_w, i32_w]
                      rfl
                    refine pure_ (i := 17) (N := some 26) (v := ?_) (a' := ?_) #[true, true, true, true, true, true, true, true, true, true, true, true, true, true, true, true, true, true] rfl rfl (any_of HT_.out (by kernel_rfl)) (fun _ _ _ h => h) (Or.inl ⟨by rfl, ?_⟩) ?_ ?_
                    rotate_left
                    · intro w'
                      go_simp
                      with_reducible rfl
                    rotate_left
                    · simp only [Act.put, List.setIfInBounds_toArray, List.set_cons_zero, List.set_cons_succ, i64_w, i32_w]
                      rfl
                    refine done_ (done_of HT_.out (by kernel_rfl)) ?_
                    try go_wp2
                    go_ret
                    exact ⟨by first | rfl | (simp [errW_none, errW_some] <;> rfl) | (simp only [← hji4]; first | rfl | (simp [errW_none, errW_some] <;> rfl)) | (simp [*, errW_none, errW_some] <;> rfl), by repeat (first | (with_reducible first | exact HB.out | apply below_alloc | apply pw_below_drewN | apply below_drew1) | exact HB.out)⟩
                  · rw [if_neg c11] at H
                    have c11b0 : decide (t448 ≤ t446) = false := decide_eq_false c11
                    clear c11
                    have H' := Aside0.mk H
                    clear H
                    try go_wp2
                    have n0_ := Aside0.mk (below_drew1 HB.out)
                    clear HB
                    have HB := n0_
                    clear n0_
                    have p445 : 0 ≤ ((ji4) : Int) := of_decide_eq_true (by first | (with_reducible assumption) | assumption)
                    have q445 : (ji4) < (l0.length : Int) := of_decide_eq_true (by first | (with_reducible assumption) | assumption)
                    obtain ⟨ad445, e445, hx445_0, hx445_1, hx445_2, hx445_3, hx445_4, hx445_5, hx445_6⟩ := at_T99 HR0.out (ji4) p445 q445
                    have hw445_6 := hx445_6
                    have hw445_5 := hx445_5
                    have hw445_4 := hx445_4
                    have hw445_3 := hx445_3
                    have hw445_2 := hx445_2
                    have hw445_1 := hx445_1
                    have hw445_0 := hx445_0
                    cases e445
                    replace hx445_0 := (HB.out.cell (World.block_lt_of_cell? w _ hx445_0)).trans hx445_0
                    replace hx445_1 := (HB.out.cell (World.block_lt_of_cell? w _ hx445_1)).trans hx445_1
                    replace hx445_2 := (HB.out.cell (World.block_lt_of_cell? w _ hx445_2)).trans hx445_2
                    replace hx445_3 := (HB.out.cell (World.block_lt_of_cell? w _ hx445_3)).trans hx445_3
                    replace hx445_4 := (HB.out.cell (World.block_lt_of_cell? w _ hx445_4)).trans hx445_4
                    replace hx445_5 := (HB.out.cell (World.block_lt_of_cell? w _ hx445_5)).trans hx445_5
                    replace hx445_6 := (HB.out.cell (World.block_lt_of_cell? w _ hx445_6)).trans hx445_6
                    replace p445 := eq_true p445
                    replace q445 := eq_true q445
                    have p447 : 0 ≤ (x6_1 : Int) := of_decide_eq_true (by first | (with_reducible assumption) | assumption)
                    have q447 : x6_1 < (l0.length : Int) := of_decide_eq_true (by first | (with_reducible assumption) | assumption)
                    obtain ⟨ad447, e447, hx447_0, hx447_1, hx447_2, hx447_3, hx447_4, hx447_5, hx447_6⟩ := at_T99 HR0.out x6_1 p447 q447
                    have hw447_6 := hx447_6
                    have hw447_5 := hx447_5
                    have hw447_4 := hx447_4
                    have hw447_3 := hx447_3
                    have hw447_2 := hx447_2
                    have hw447_1 := hx447_1
                    have hw447_0 := hx447_0
                    obtain rfl : ad445 = ad447 := (by injection e447)
                    replace hx447_0 := (HB.out.cell (World.block_lt_of_cell? w _ hx447_0)).trans hx447_0
                    replace hx447_1 := (HB.out.cell (World.block_lt_of_cell? w _ hx447_1)).trans hx447_1
                    replace hx447_2 := (HB.out.cell (World.block_lt_of_cell? w _ hx447_2)).trans hx447_2
                    replace hx447_3 := (HB.out.cell (World.block_lt_of_cell? w _ hx447_3)).trans hx447_3
                    replace hx447_4 := (HB.out.cell (World.block_lt_of_cell? w _ hx447_4)).trans hx447_4
                    replace hx447_5 := (HB.out.cell (World.block_lt_of_cell? w _ hx447_5)).trans hx447_5
                    replace hx447_6 := (HB.out.cell (World.block_lt_of_cell? w _ hx447_6)).trans hx447_6
                    replace p447 := eq_true p447
                    replace q447 := eq_true q447
                    refine start_ (n := 18) (S := fun w' => w'.cell? (ad445.add (((ji4)).toNat * 7)) = some (.int .i64 ((rd_T99 l0 (ji4)).f0)) ∧ w'.cell? ⟨(ad445.add (((ji4)).toNat * 7)).block, (ad445.add (((ji4)).toNat * 7)).off + 1, none⟩ = some (.int .i64 ((rd_T99 l0 (ji4)).f1.f0)) ∧ w'.cell? ⟨(ad445.add (((ji4)).toNat * 7)).block, (ad445.add (((ji4)).toNat * 7)).off + 2, none⟩ = some (.int .i64 ((rd_T99 l0 (ji4)).f1.f1)) ∧ w'.cell? ⟨(ad445.add (((ji4)).toNat * 7)).block, (ad445.add (((ji4)).toNat * 7)).off + 3, none⟩ = some (.int .i64 ((rd_T99 l0 (ji4)).f2.f0)) ∧ w'.cell? ⟨(ad445.add (((ji4)).toNat * 7)).block, (ad445.add (((ji4)).toNat * 7)).off + 4, none⟩ = some (.int .i64 ((rd_T99 l0 (ji4)).f2.f1)) ∧ w'.cell? ⟨(ad445.add (((ji4)).toNat * 7)).block, (ad445.add (((ji4)).toNat * 7)).off + 5, none⟩ = some (.int .i64 ((rd_T99 l0 (ji4)).f3.f0)) ∧ w'.cell? ⟨(ad445.add (((ji4)).toNat * 7)).block, (ad445.add (((ji4)).toNat * 7)).off + 6, none⟩ = some (.int .i64 ((rd_T99 l0 (ji4)).f3.f1)) ∧ w'.cell? (ad445.add ((x6_1).toNat * 7)) = some (.int .i64 ((rd_T99 l0 x6_1).f0)) ∧ w'.cell? ⟨(ad445.add ((x6_1).toNat * 7)).block, (ad445.add ((x6_1).toNat * 7)).off + 1, none⟩ = some (.int .i64 ((rd_T99 l0 x6_1).f1.f0)) ∧ w'.cell? ⟨(ad445.add ((x6_1).toNat * 7)).block, (ad445.add ((x6_1).toNat * 7)).off + 2, none⟩ = some (.int .i64 ((rd_T99 l0 x6_1).f1.f1)) ∧ w'.cell? ⟨(ad445.add ((x6_1).toNat * 7)).block, (ad445.add ((x6_1).toNat * 7)).off + 3, none⟩ = some (.int .i64 ((rd_T99 l0 x6_1).f2.f0)) ∧ w'.cell? ⟨(ad445.add ((x6_1).toNat * 7)).block, (ad445.add ((x6_1).toNat * 7)).off + 4, none⟩ = some (.int .i64 ((rd_T99 l0 x6_1).f2.f1)) ∧ w'.cell? ⟨(ad445.add ((x6_1).toNat * 7)).block, (ad445.add ((x6_1).toNat * 7)).off + 5, none⟩ = some (.int .i64 ((rd_T99 l0 x6_1).f3.f0)) ∧ w'.cell? ⟨(ad445.add ((x6_1).toNat * 7)).block, (ad445.add ((x6_1).toNat * 7)).off + 6, none⟩ = some (.int .i64 ((rd_T99 l0 x6_1).f3.f1))) (ds := []) #[false, false, false, false, false, false, false, false, false, false, false, false, false, false, false, false, false, false] (by kernel_rfl) rfl rfl ⟨((HB.out.cell (World.block_lt_of_cell? w _ hw445_0)).trans hw445_0), ((HB.out.cell (World.block_lt_of_cell? w _ hw445_1)).trans hw445_1), ((HB.out.cell (World.block_lt_of_cell? w _ hw445_2)).trans hw445_2), ((HB.out.cell (World.block_lt_of_cell? w _ hw445_3)).trans hw445_3), ((HB.out.cell (World.block_lt_of_cell? w _ hw445_4)).trans hw445_4), ((HB.out.cell (World.block_lt_of_cell? w _ hw445_5)).trans hw445_5), ((HB.out.cell (World.block_lt_of_cell? w _ hw445_6)).trans hw445_6), ((HB.out.cell (World.block_lt_of_cell? w _ hw447_0)).trans hw447_0), ((HB.out.cell (World.block_lt_of_cell? w _ hw447_1)).trans hw447_1), ((HB.out.cell (World.block_lt_of_cell? w _ hw447_2)).trans hw447_2), ((HB.out.cell (World.block_lt_of_cell? w _ hw447_3)).trans hw447_3), ((HB.out.cell (World.block_lt_of_cell? w _ hw447_4)).trans hw447_4), ((HB.out.cell (World.block_lt_of_cell? w _ hw447_5)).trans hw447_5), ((HB.out.cell (World.block_lt_of_cell? w _ hw447_6)).trans hw447_6)⟩ (fun hHeld => ?_); refine with_tabW ware_body_79.tab4 ware_body_79.bits4 (fun HT_ HW_ => ?_)
                    generalize wr.drew = w15 at HB hx445_0 hx445_1 hx445_2 hx445_3 hx445_4 hx445_5 hx445_6 hx447_0 hx447_1 hx447_2 hx447_3 hx447_4 hx447_5 hx447_6 hHeld ⊢
                    refine pure_ (i := 0) (N := some 9) (v := ?_) (a' := ?_) #[true, false, false, false, false, false, false, false, false, false, false, false, false, false, false, false, false, false] rfl rfl (any_of HT_.out (by kernel_rfl)) (fun _ _ _ h => h) (Or.inl ⟨by rfl, ?_⟩) ?_ ?_
                    rotate_left
                    · intro w'
                      go_simp
                      with_reducible rfl
                    rotate_left
                    · simp only [Act.put, List.setIfInBounds_toArray, List.set_cons_zero, List.set_cons_succ, i64_w, i32_w]
                      rfl
                    refine pure_ (i := 1) (N := some 10) (v := ?_) (a' := ?_) #[true, true, false, false, false, false, false, false, false, false, false, false, false, false, false, false, false, false] rfl rfl (any_of HT_.out (by kernel_rfl)) (fun _ _ _ h => h) (Or.inl ⟨by rfl, ?_⟩) ?_ ?_
                    rotate_left
                    · intro w'
                      go_simp
                      with_reducible rfl
                    rotate_left
                    · simp only [Act.put, List.setIfInBounds_toArray, List.set_cons_zero, List.set_cons_succ, i64_w, i32_w]
                      rfl
                    refine pure_ (i := 2) (N := some 11) (v := ?_) (a' := ?_) #[true, true, true, false, false, false, false, false, false, false, false, false, false, false, false, false, false, false] rfl rfl (any_of HT_.out (by kernel_rfl)) (fun _ _ _ h => h) (Or.inl ⟨by rfl, ?_⟩) ?_ ?_
                    rotate_left
                    · intro w'
                      go_simp
                      with_reducible rfl
                    rotate_left
                    · simp only [Act.put, List.setIfInBounds_toArray, List.set_cons_zero, List.set_cons_succ, i64_w, i32_w]
                      rfl
                    refine pure_ (i := 3) (N := some 12) (v := ?_) (a' := ?_) #[true, true, true, true, false, false, false, false, false, false, false, false, false, false, false, false, false, false] rfl rfl (any_of HT_.out (by kernel_rfl)) (fun _ _ _ h => h) (Or.inl ⟨by rfl, ?_⟩) ?_ ?_
                    rotate_left
                    · intro w'
                      go_simp
                      with_reducible rfl
                    rotate_left
                    · simp only [Act.put, List.setIfInBounds_toArray, List.set_cons_zero, List.set_cons_succ, i64_w, i32_w]
                      rfl
                    refine pure_ (i := 4) (N := some 13) (v := ?_) (a' := ?_) #[true, true, true, true, true, false, false, false, false, false, false, false, false, false, false, false, false, false] rfl rfl (any_of HT_.out (by kernel_rfl)) (fun _ _ _ h => h) (Or.inl ⟨by rfl, ?_⟩) ?_ ?_
                    rotate_left
                    · intro w'
                      go_simp
                      with_reducible rfl
                    rotate_left
                    · simp only [Act.put, List.setIfInBounds_toArray, List.set_cons_zero, List.set_cons_succ, i64_w, i32_w]
                      rfl
                    refine pure_ (i := 5) (N := some 14) (v := ?_) (a' := ?_) #[true, true, true, true, true, true, false, false, false, false, false, false, false, false, false, false, false, false] rfl rfl (any_of HT_.out (by kernel_rfl)) (fun _ _ _ h => h) (Or.inl ⟨by rfl, ?_⟩) ?_ ?_
                    rotate_left
                    · intro w'
                      go_simp
                      with_reducible rfl
                    rotate_left
                    · simp only [Act.put, List.setIfInBounds_toArray, List.set_cons_zero, List.set_cons_succ, i64_w, i32_w]
                      rfl
                    refine pure_ (i := 6) (N := some 15) (v := ?_) (a' := ?_) #[true, true, true, true, true, true, true, false, false, false, false, false, false, false, false, false, false, false] rfl rfl (any_of HT_.out (by kernel_rfl)) (fun _ _ _ h => h) (Or.inl ⟨by rfl, ?_⟩) ?_ ?_
                    rotate_left
                    · intro w'
                      go_simp
                      with_reducible rfl
                    rotate_left
                    · simp only [Act.put, List.setIfInBounds_toArray, List.set_cons_zero, List.set_cons_succ, i64_w, i32_w]
                      rfl
                    refine pure_ (i := 10) (N := some 19) (v := ?_) (a' := ?_) #[true, true, true, true, true, true, true, false, false, false, true, false, false, false, false, false, false, false] rfl rfl (any_of HT_.out (by kernel_rfl)) (fun _ _ _ h => h) (Or.inl ⟨by rfl, ?_⟩) ?_ ?_
                    rotate_left
                    · intro w'
                      go_simp
                      with_reducible rfl
                    rotate_left
                    · simp only [Act.put, List.setIfInBounds_toArray, List.set_cons_zero, List.set_cons_succ, i64_w, i32_w]
                      rfl
                    refine pure_ (i := 11) (N := some 20) (v := ?_) (a' := ?_) #[true, true, true, true, true, true, true, false, false, false, true, true, false, false, false, false, false, false] rfl rfl (any_of HT_.out (by kernel_rfl)) (fun _ _ _ h => h) (Or.inl ⟨by rfl, ?_⟩) ?_ ?_
                    rotate_left
                    · intro w'
                      go_simp
                      with_reducible rfl
                    rotate_left
                    · simp only [Act.put, List.setIfInBounds_toArray, List.set_cons_zero, List.set_cons_succ, i64_w, i32_w]
                      rfl
                    refine pure_ (i := 12) (N := some 21) (v := ?_) (a' := ?_) #[true, true, true, true, true, true, true, false, false, false, true, true, true, false, false, false, false, false] rfl rfl (any_of HT_.out (by kernel_rfl)) (fun _ _ _ h => h) (Or.inl ⟨by rfl, ?_⟩) ?_ ?_
                    rotate_left
                    · intro w'
                      go_simp
                      with_reducible rfl
                    rotate_left
                    · simp only [Act.put, List.setIfInBounds_toArray, List.set_cons_zero, List.set_cons_succ, i64_w, i32_w]
                      rfl
                    refine take_ (i := 7) (N := some 16) (v := ?_) (a' := ?_) #[true, true, true, true, true, true, true, true, false, false, true, true, true, false, false, false, false, false] rfl rfl (take_ofW HT_.out HW_.out (by kernel_rfl)) (fun _ _ _ h => h) (Or.inl ⟨by rfl, ?_⟩) hHeld ?_ ?_
                    rotate_left
                    · rintro w' ⟨s0, s1, s2, s3, s4, s5, s6, s7, s8, s9, s10, s11, s12, s13⟩
                      go_simp
                      with_reducible rfl
                    rotate_left
                    · simp only [Act.put, List.setIfInBounds_toArray, List.set_cons_zero, List.set_cons_succ, i64_w, i32_w]
                      rfl
                    refine pure_ (i := 8) (N := some 17) (v := ?_) (a' := ?_) #[true, true, true, true, true, true, true, true, true, false, true, true, true, false, false, false, false, false] rfl rfl (any_of HT_.out (by kernel_rfl)) (fun _ _ _ h => h) (Or.inl ⟨by rfl, ?_⟩) ?_ ?_
                    rotate_left
                    · intro w'
                      go_simp
                      with_reducible rfl
                    rotate_left
                    · simp only [Act.put, List.setIfInBounds_toArray, List.set_cons_zero, List.set_cons_succ, i64_w, i32_w]
                      rfl
                    refine take_ (i := 13) (N := some 22) (v := ?_) (a' := ?_) #[true, true, true, true, true, true, true, true, true, false, true, true, true, true, false, false, false, false] rfl rfl (take_ofW HT_.out HW_.out (by kernel_rfl)) (fun _ _ _ h => h) (Or.inl ⟨by rfl, ?_⟩) hHeld ?_ ?_
                    rotate_left
                    · rintro w' ⟨s0, s1, s2, s3, s4, s5, s6, s7, s8, s9, s10, s11, s12, s13⟩
                      go_simp
                      with_reducible rfl
                    rotate_left
                    · simp only [Act.put, List.setIfInBounds_toArray, List.set_cons_zero, List.set_cons_succ, i64_w, i32_w]
                      rfl
                    refine pure_ (i := 14) (N := some 23) (v := ?_) (a' := ?_) #[true, true, true, true, true, true, true, true, true, false, true, true, true, true, true, false, false, false] rfl rfl (any_of HT_.out (by kernel_rfl)) (fun _ _ _ h => h) (Or.inl ⟨by rfl, ?_⟩) ?_ ?_
                    rotate_left
                    · intro w'
                      go_simp
                      with_reducible rfl
                    rotate_left
                    · simp only [Act.put, List.setIfInBounds_toArray, List.set_cons_zero, List.set_cons_succ, i64_w, i32_w]
                      rfl
                    refine one_ (i := 9) (N := some 18) #[true, true, true, true, true, true, true, true, true, true, true, true, true, true, true, false, false, false] rfl rfl (one_of HT_.out (by kernel_rfl)) (by decide) (fun K hK => ?_)
                    refine call_ 154 #[.agg #[.int .i64 ((rd_T99 l0 (ji4)).f0), .int .i64 ((rd_T99 l0 (ji4)).f1.f0), .int .i64 ((rd_T99 l0 (ji4)).f1.f1), .int .i64 ((rd_T99 l0 (ji4)).f2.f0), .int .i64 ((rd_T99 l0 (ji4)).f2.f1), .int .i64 ((rd_T99 l0 (ji4)).f3.f0), .int .i64 ((rd_T99 l0 (ji4)).f3.f1)]] (by rfl) rfl (exec_invoke (by rfl) (by rfl) (mi79_99 _ _)) ?_
                    with_reducible refine (ware_body_id.calls ((rd_T99 l0 (ji4)).f0) ((rd_T99 l0 (ji4)).f1.f0) ((rd_T99 l0 (ji4)).f1.f1) ((rd_T99 l0 (ji4)).f2.f0) ((rd_T99 l0 (ji4)).f2.f1) ((rd_T99 l0 (ji4)).f3.f0) ((rd_T99 l0 (ji4)).f3.f1) t446 _ A7.out).mono ?_
                    rintro e w16 ⟨rfl, hb⟩
                    refine ⟨_, rfl, ?_⟩
                    have n0_ := Aside0.mk (below_step (by repeat (first | (with_reducible first | exact HB.out | apply below_alloc | apply pw_below_drewN | apply below_drew1) | exact HB.out)) hb)
                    clear HB
                    have HB := n0_
                    clear n0_
                    (try clear hb)
                    (try clear hb2)
                    (try clear hk)
                    (try clear hi)
                    refine hK.out _ _ ⟨((HB.out.cell (World.block_lt_of_cell? w _ hw445_0)).trans hw445_0), ((HB.out.cell (World.block_lt_of_cell? w _ hw445_1)).trans hw445_1), ((HB.out.cell (World.block_lt_of_cell? w _ hw445_2)).trans hw445_2), ((HB.out.cell (World.block_lt_of_cell? w _ hw445_3)).trans hw445_3), ((HB.out.cell (World.block_lt_of_cell? w _ hw445_4)).trans hw445_4), ((HB.out.cell (World.block_lt_of_cell? w _ hw445_5)).trans hw445_5), ((HB.out.cell (World.block_lt_of_cell? w _ hw445_6)).trans hw445_6), ((HB.out.cell (World.block_lt_of_cell? w _ hw447_0)).trans hw447_0), ((HB.out.cell (World.block_lt_of_cell? w _ hw447_1)).trans hw447_1), ((HB.out.cell (World.block_lt_of_cell? w _ hw447_2)).trans hw447_2), ((HB.out.cell (World.block_lt_of_cell? w _ hw447_3)).trans hw447_3), ((HB.out.cell (World.block_lt_of_cell? w _ hw447_4)).trans hw447_4), ((HB.out.cell (World.block_lt_of_cell? w _ hw447_5)).trans hw447_5), ((HB.out.cell (World.block_lt_of_cell? w _ hw447_6)).trans hw447_6)⟩ (fun hHeld => ?_)
                    clear hK K
                    refine norm_ (a' := ?_) ?_ ?_
                    rotate_left
                    · show Act.put _ (some 18) _ = _
                      simp only [Act.put, List.setIfInBounds_toArray, List.set_cons_zero, List.set_cons_succ, i64_w, i32_w]
                      rfl
                    refine one_ (i := 15) (N := some 24) #[true, true, true, true, true, true, true, true, true, true, true, true, true, true, true, true, false, false] rfl rfl (one_of HT_.out (by kernel_rfl)) (by decide) (fun K hK => ?_)
                    refine call_ 154 #[.agg #[.int .i64 ((rd_T99 l0 x6_1).f0), .int .i64 ((rd_T99 l0 x6_1).f1.f0), .int .i64 ((rd_T99 l0 x6_1).f1.f1), .int .i64 ((rd_T99 l0 x6_1).f2.f0), .int .i64 ((rd_T99 l0 x6_1).f2.f1), .int .i64 ((rd_T99 l0 x6_1).f3.f0), .int .i64 ((rd_T99 l0 x6_1).f3.f1)]] (by rfl) rfl (exec_invoke (by rfl) (by rfl) (mi79_99 _ _)) ?_
                    with_reducible refine (ware_body_id.calls ((rd_T99 l0 x6_1).f0) ((rd_T99 l0 x6_1).f1.f0) ((rd_T99 l0 x6_1).f1.f1) ((rd_T99 l0 x6_1).f2.f0) ((rd_T99 l0 x6_1).f2.f1) ((rd_T99 l0 x6_1).f3.f0) ((rd_T99 l0 x6_1).f3.f1) t448 _ A10.out).mono ?_
                    rintro e w17 ⟨rfl, hb⟩
                    refine ⟨_, rfl, ?_⟩
                    have n0_ := Aside0.mk (below_step (by repeat (first | (with_reducible first | exact HB.out | apply below_alloc | apply pw_below_drewN | apply below_drew1) | exact HB.out)) hb)
                    clear HB
                    have HB := n0_
                    clear n0_
                    (try clear hb)
                    (try clear hb2)
                    (try clear hk)
                    (try clear hi)
                    refine hK.out _ _ ⟨((HB.out.cell (World.block_lt_of_cell? w _ hw445_0)).trans hw445_0), ((HB.out.cell (World.block_lt_of_cell? w _ hw445_1)).trans hw445_1), ((HB.out.cell (World.block_lt_of_cell? w _ hw445_2)).trans hw445_2), ((HB.out.cell (World.block_lt_of_cell? w _ hw445_3)).trans hw445_3), ((HB.out.cell (World.block_lt_of_cell? w _ hw445_4)).trans hw445_4), ((HB.out.cell (World.block_lt_of_cell? w _ hw445_5)).trans hw445_5), ((HB.out.cell (World.block_lt_of_cell? w _ hw445_6)).trans hw445_6), ((HB.out.cell (World.block_lt_of_cell? w _ hw447_0)).trans hw447_0), ((HB.out.cell (World.block_lt_of_cell? w _ hw447_1)).trans hw447_1), ((HB.out.cell (World.block_lt_of_cell? w _ hw447_2)).trans hw447_2), ((HB.out.cell (World.block_lt_of_cell? w _ hw447_3)).trans hw447_3), ((HB.out.cell (World.block_lt_of_cell? w _ hw447_4)).trans hw447_4), ((HB.out.cell (World.block_lt_of_cell? w _ hw447_5)).trans hw447_5), ((HB.out.cell (World.block_lt_of_cell? w _ hw447_6)).trans hw447_6)⟩ (fun hHeld => ?_)
                    clear hK K
                    refine norm_ (a' := ?_) ?_ ?_
                    rotate_left
                    · show Act.put _ (some 24) _ = _
                      simp only [Act.put, List.setIfInBounds_toArray, List.set_cons_zero, List.set_cons_succ, i64_w, i32_w]
                      rfl
                    refine pure_ (i := 16) (N := some 25) (v := ?_) (a' := ?_) #[true, true, true, true, true, true, true, true, true, true, true, true, true, true, true, true, true, false] rfl rfl (any_of HT_.out (by kernel_rfl)) (fun _ _ _ h => h) (Or.inl ⟨by rfl, ?_⟩) ?_ ?_
                    rotate_left
                    · intro w'
                      go_simp
                      with_reducible rfl
                    rotate_left
                    · simp only [Act.put, List.setIfInBounds_toArray, List.set_cons_zero, List.set_cons_succ, i64_w, i32_w]
                      rfl
                    refine pure_ (i := 17) (N := some 26) (v := ?_) (a' := ?_) #[true, true, true, true, true, true, true, true, true, true, true, true, true, true, true, true, true, true] rfl rfl (any_of HT_.out (by kernel_rfl)) (fun _ _ _ h => h) (Or.inl ⟨by rfl, ?_⟩) ?_ ?_
                    rotate_left
                    · intro w'
                      go_simp
                      with_reducible rfl
                    rotate_left
                    · simp only [Act.put, List.setIfInBounds_toArray, List.set_cons_zero, List.set_cons_succ, i64_w, i32_w]
                      rfl
                    refine done_ (done_of HT_.out (by kernel_rfl)) ?_
                    try go_wp2
                    go_roundg k1
                    case measure => have := HK1.out; omega
                    case rel => exact ⟨(wrap64 (x6_1 + 1)), (by first | rfl | (simp; done) | (simp [*]; done)), H', ⟨by have := HK1.out; omega⟩, ⟨by repeat (first | (with_reducible first | exact HB.out | apply below_alloc | apply pw_below_drewN | apply below_drew1) | exact HB.out)⟩⟩
                · rw [if_neg c9] at H
                  exact absurd H (by simp)
              · rw [if_neg c8] at H
                exact absurd H (by simp)
            · rw [if_neg c6] at H
              exact absurd H (by simp)
          · rw [if_neg c5] at H
            exact absurd H (by simp)
        · rw [if_neg c3] at H
          have c3b0 : decide (0 < x6_1) = false := decide_eq_false c3
          clear c3
          have H' := Aside0.mk H
          clear H
          try go_wp2
          have n0_ := Aside0.mk (below_drew1 HB.out)
          clear HB
          have HB := n0_
          clear n0_
          refine start_ (n := 18) (S := fun w' => True) (ds := []) #[false, false, false, false, false, false, false, false, false, false, false, false, false, false, false, false, false, false] (by kernel_rfl) rfl rfl trivial (fun hHeld => ?_); refine with_tabW ware_body_79.tab4 ware_body_79.bits4 (fun HT_ HW_ => ?_)
          generalize wr.drew = w18 at HB hHeld ⊢
          refine pure_ (i := 0) (N := some 9) (v := ?_) (a' := ?_) #[true, false, false, false, false, false, false, false, false, false, false, false, false, false, false, false, false, false] rfl rfl (any_of HT_.out (by kernel_rfl)) (fun _ _ _ h => h) (Or.inl ⟨by rfl, ?_⟩) ?_ ?_
          rotate_left
          · intro w'
            go_simp
            with_reducible rfl
          rotate_left
          · simp only [Act.put, List.setIfInBounds_toArray, List.set_cons_zero, List.set_cons_succ, i64_w, i32_w]
            rfl
          refine pure_ (i := 1) (N := some 10) (v := ?_) (a' := ?_) #[true, true, false, false, false, false, false, false, false, false, false, false, false, false, false, false, false, false] rfl rfl (any_of HT_.out (by kernel_rfl)) (fun _ _ _ h => h) (Or.inl ⟨by rfl, ?_⟩) ?_ ?_
          rotate_left
          · intro w'
            go_simp
            with_reducible rfl
          rotate_left
          · simp only [Act.put, List.setIfInBounds_toArray, List.set_cons_zero, List.set_cons_succ, i64_w, i32_w]
            rfl
          refine pure_ (i := 2) (N := some 11) (v := ?_) (a' := ?_) #[true, true, true, false, false, false, false, false, false, false, false, false, false, false, false, false, false, false] rfl rfl (any_of HT_.out (by kernel_rfl)) (fun _ _ _ h => h) (Or.inl ⟨by rfl, ?_⟩) ?_ ?_
          rotate_left
          · intro w'
            go_simp
            with_reducible rfl
          rotate_left
          · simp only [Act.put, List.setIfInBounds_toArray, List.set_cons_zero, List.set_cons_succ, i64_w, i32_w]
            rfl
          refine pure_ (i := 3) (N := some 12) (v := undef) (a' := ?_) #[true, true, true, true, false, false, false, false, false, false, false, false, false, false, false, false, false, false] rfl rfl (any_of HT_.out (by kernel_rfl)) (fun _ _ _ h => h) (Or.inr ⟨by rfl, rfl⟩) ?_ ?_
          rotate_left
          · simp only [Act.put, List.setIfInBounds_toArray, List.set_cons_zero, List.set_cons_succ, i64_w, i32_w]
            rfl
          refine pure_ (i := 4) (N := some 13) (v := undef) (a' := ?_) #[true, true, true, true, true, false, false, false, false, false, false, false, false, false, false, false, false, false] rfl rfl (any_of HT_.out (by kernel_rfl)) (fun _ _ _ h => h) (Or.inr ⟨by rfl, rfl⟩) ?_ ?_
          rotate_left
          · simp only [Act.put, List.setIfInBounds_toArray, List.set_cons_zero, List.set_cons_succ, i64_w, i32_w]
            rfl
          refine pure_ (i := 5) (N := some 14) (v := undef) (a' := ?_) #[true, true, true, true, true, true, false, false, false, false, false, false, false, false, false, false, false, false] rfl rfl (any_of HT_.out (by kernel_rfl)) (fun _ _ _ h => h) (Or.inr ⟨by rfl, rfl⟩) ?_ ?_
          rotate_left
          · simp only [Act.put, List.setIfInBounds_toArray, List.set_cons_zero, List.set_cons_succ, i64_w, i32_w]
            rfl
          refine pure_ (i := 6) (N := some 15) (v := undef) (a' := ?_) #[true, true, true, true, true, true, true, false, false, false, false, false, false, false, false, false, false, false] rfl rfl (any_of HT_.out (by kernel_rfl)) (fun _ _ _ h => h) (Or.inr ⟨by rfl, rfl⟩) ?_ ?_
          rotate_left
          · simp only [Act.put, List.setIfInBounds_toArray, List.set_cons_zero, List.set_cons_succ, i64_w, i32_w]
            rfl
          refine pure_ (i := 7) (N := some 16) (v := undef) (a' := ?_) #[true, true, true, true, true, true, true, true, false, false, false, false, false, false, false, false, false, false] rfl rfl (any_of HT_.out (by kernel_rfl)) (fun _ _ _ h => h) (Or.inr ⟨by rfl, rfl⟩) ?_ ?_
          rotate_left
          · simp only [Act.put, List.setIfInBounds_toArray, List.set_cons_zero, List.set_cons_succ, i64_w, i32_w]
            rfl
          refine pure_ (i := 8) (N := some 17) (v := undef) (a' := ?_) #[true, true, true, true, true, true, true, true, true, false, false, false, false, false, false, false, false, false] rfl rfl (any_of HT_.out (by kernel_rfl)) (fun _ _ _ h => h) (Or.inr ⟨by rfl, rfl⟩) ?_ ?_
          rotate_left
          · simp only [Act.put, List.setIfInBounds_toArray, List.set_cons_zero, List.set_cons_succ, i64_w, i32_w]
            rfl
          refine pure_ (i := 9) (N := some 18) (v := undef) (a' := ?_) #[true, true, true, true, true, true, true, true, true, true, false, false, false, false, false, false, false, false] rfl rfl (any_of HT_.out (by kernel_rfl)) (fun _ _ _ h => h) (Or.inr ⟨by rfl, rfl⟩) ?_ ?_
          rotate_left
          · simp only [Act.put, List.setIfInBounds_toArray, List.set_cons_zero, List.set_cons_succ, i64_w, i32_w]
            rfl
          refine pure_ (i := 10) (N := some 19) (v := undef) (a' := ?_) #[true, true, true, true, true, true, true, true, true, true, true, false, false, false, false, false, false, false] rfl rfl (any_of HT_.out (by kernel_rfl)) (fun _ _ _ h => h) (Or.inr ⟨by rfl, rfl⟩) ?_ ?_
          rotate_left
          · simp only [Act.put, List.setIfInBounds_toArray, List.set_cons_zero, List.set_cons_succ, i64_w, i32_w]
            rfl
          refine pure_ (i := 11) (N := some 20) (v := undef) (a' := ?_) #[true, true, true, true, true, true, true, true, true, true, true, true, false, false, false, false, false, false] rfl rfl (any_of HT_.out (by kernel_rfl)) (fun _ _ _ h => h) (Or.inr ⟨by rfl, rfl⟩) ?_ ?_
          rotate_left
          · simp only [Act.put, List.setIfInBounds_toArray, List.set_cons_zero, List.set_cons_succ, i64_w, i32_w]
            rfl
          refine pure_ (i := 12) (N := some 21) (v := undef) (a' := ?_) #[true, true, true, true, true, true, true, true, true, true, true, true, true, false, false, false, false, false] rfl rfl (any_of HT_.out (by kernel_rfl)) (fun _ _ _ h => h) (Or.inr ⟨by rfl, rfl⟩) ?_ ?_
          rotate_left
          · simp only [Act.put, List.setIfInBounds_toArray, List.set_cons_zero, List.set_cons_succ, i64_w, i32_w]
            rfl
          refine pure_ (i := 13) (N := some 22) (v := undef) (a' := ?_) #[true, true, true, true, true, true, true, true, true, true, true, true, true, true, false, false, false, false] rfl rfl (any_of HT_.out (by kernel_rfl)) (fun _ _ _ h => h) (Or.inr ⟨by rfl, rfl⟩) ?_ ?_
          rotate_left
          · simp only [Act.put, List.setIfInBounds_toArray, List.set_cons_zero, List.set_cons_succ, i64_w, i32_w]
            rfl
          refine pure_ (i := 14) (N := some 23) (v := undef) (a' := ?_) #[true, true, true, true, true, true, true, true, true, true, true, true, true, true, true, false, false, false] rfl rfl (any_of HT_.out (by kernel_rfl)) (fun _ _ _ h => h) (Or.inr ⟨by rfl, rfl⟩) ?_ ?_
          rotate_left
          · simp only [Act.put, List.setIfInBounds_toArray, List.set_cons_zero, List.set_cons_succ, i64_w, i32_w]
            rfl
          refine pure_ (i := 15) (N := some 24) (v := undef) (a' := ?_) #[true, true, true, true, true, true, true, true, true, true, true, true, true, true, true, true, false, false] rfl rfl (any_of HT_.out (by kernel_rfl)) (fun _ _ _ h => h) (Or.inr ⟨by rfl, rfl⟩) ?_ ?_
          rotate_left
          · simp only [Act.put, List.setIfInBounds_toArray, List.set_cons_zero, List.set_cons_succ, i64_w, i32_w]
            rfl
          refine pure_ (i := 16) (N := some 25) (v := undef) (a' := ?_) #[true, true, true, true, true, true, true, true, true, true, true, true, true, true, true, true, true, false] rfl rfl (any_of HT_.out (by kernel_rfl)) (fun _ _ _ h => h) (Or.inr ⟨by rfl, rfl⟩) ?_ ?_
          rotate_left
          · simp only [Act.put, List.setIfInBounds_toArray, List.set_cons_zero, List.set_cons_succ, i64_w, i32_w]
            rfl
          refine pure_ (i := 17) (N := some 26) (v := ?_) (a' := ?_) #[true, true, true, true, true, true, true, true, true, true, true, true, true, true, true, true, true, true] rfl rfl (any_of HT_.out (by kernel_rfl)) (fun _ _ _ h => h) (Or.inl ⟨by rfl, ?_⟩) ?_ ?_
          rotate_left
          · intro w'
            go_simp
            with_reducible rfl
          rotate_left
          · simp only [Act.put, List.setIfInBounds_toArray, List.set_cons_zero, List.set_cons_succ, i64_w, i32_w]
            rfl
          refine done_ (done_of HT_.out (by kernel_rfl)) ?_
          try go_wp2
          go_roundg k1
          case measure => have := HK1.out; omega
          case rel => exact ⟨(wrap64 (x6_1 + 1)), (by first | rfl | (simp; done) | (simp [*]; done)), H', ⟨by have := HK1.out; omega⟩, ⟨by repeat (first | (with_reducible first | exact HB.out | apply below_alloc | apply pw_below_drewN | apply below_drew1) | exact HB.out)⟩⟩
      · rw [if_neg c2] at H
        have c2b0 : decide (x6_1 < (l0.length : Int)) = false := decide_eq_false c2
        clear c2
        obtain rfl := Option.some.inj H
        go_wp2
        go_ret
        exact ⟨by first | rfl | (simp [errW_none, errW_some] <;> rfl) | (simp [*, errW_none, errW_some] <;> rfl), by repeat (first | (with_reducible first | exact HB.out | apply below_alloc | apply pw_below_drewN | apply below_drew1) | exact HB.out)⟩

end Go.Proofs.Ytcgokimagimamaa.F
/- Written by a program of mine out of the translation: what functions answer; Lean checks it. -/
namespace Go.Proofs.Ytcgokimagimamaa.F
open Go.RowKit Go.Proofs.YtcgokimagimamaaW.PrintWords Go.Proofs.YtcgokimagimamaaW.PrintLast Go.Proofs.YtcgokimagimamaaW.PrintMore
attribute [local go_sem] max2_int min2_int max_two min_two max_three min_three max_four min_four   -- for this text's walks alone
set_option linter.unusedVariables false
set_option linter.unusedSimpArgs false
/-! ### ware_Check: function 43 -/
def ware_Check.j0 : Nat → Bool → List (S25) → List (S43) → Option (Int)
  | 0, _, _, _ => none
  | k + 1, x3, x450000, x450001 => if x3 = true then (some 12) else ((ware_shapes.f x450000 x450001).bind fun t452 => ((ware_shape_78.f k t452).bind fun t455 => (if t455 = true then ((ware_bodies.f x450000 x450001).bind fun t456 => ((ware_body_79.f k t456).bind fun t459 => (if t459 = true then (some 0) else (some 12)))) else (some 12))))
def ware_Check.f (k : Nat) (l0_0 : List (S25)) (l0_1 : List (S43)) : Option (Int) := if (l0_0.length : Int) > 40 then (ware_Check.j0 k true l0_0 l0_1) else (if (l0_1.length : Int) > 12 then (ware_Check.j0 k true l0_0 l0_1) else ((api_Shape_74.f l0_0).bind fun t450 => (if t450 = true then (ware_Check.j0 k true l0_0 l0_1) else ((api_Body_76.f l0_1).bind fun t451 => (ware_Check.j0 k t451 l0_0 l0_1)))))
theorem ware_Check.mono_l : ∀ k, (∀ y0 y1 y2, LeO (ware_Check.j0 k y0 y1 y2) (ware_Check.j0 (k + 1) y0 y1 y2))
  | 0 => fun _ _ _ r h => by simp [ware_Check.j0] at h
  | k + 1 => by
    have ih0 := ware_Check.mono_l k
    · intro y0 y1 y2
      unfold ware_Check.j0
      repeat' first
      | (with_reducible exact ih0 _ _ _)
      | (with_reducible exact ware_body_79.mono _ _)
      | (with_reducible exact ware_shape_78.mono _ _)
      | (with_reducible exact LeO.refl _)
      | (with_reducible exact LeO.none _)
      | (with_reducible refine LeO.ite ?_ ?_)
      | (with_reducible refine LeO.bind ?_ (fun _ => ?_))
      | exact ih0 _ _ _
      | exact ware_body_79.mono _ _
      | exact ware_shape_78.mono _ _
      | exact LeO.none _
      | refine LeO.ite ?_ ?_
      | refine LeO.bind ?_ (fun _ => ?_)
theorem ware_Check.mono : ∀ a0 a1 k, LeO (ware_Check.f k a0 a1) (ware_Check.f (k + 1) a0 a1) := by
  intro a0 a1 k
  have ih0 := ware_Check.mono_l k
  unfold ware_Check.f
  repeat' first
      | (with_reducible exact ih0 _ _ _)
      | (with_reducible exact ware_body_79.mono _ _)
      | (with_reducible exact ware_shape_78.mono _ _)
      | (with_reducible exact LeO.refl _)
      | (with_reducible exact LeO.none _)
      | (with_reducible refine LeO.ite ?_ ?_)
      | (with_reducible refine LeO.bind ?_ (fun _ => ?_))
      | exact ih0 _ _ _
      | exact ware_body_79.mono _ _
      | exact ware_shape_78.mono _ _
      | exact LeO.none _
      | refine LeO.ite ?_ ?_
      | refine LeO.bind ?_ (fun _ => ?_)
set_option maxHeartbeats 8000000 in
set_option maxRecDepth 100000 in
theorem ware_Check.calls (k : Nat) (A0_0 : Option Addr) (c0_0 : Nat) (l0_0 : List (S25)) (A0_1 : Option Addr) (c0_1 : Nat) (l0_1 : List (S43)) (r : Int) (w : World) (hr0_0 : Kd.C k25 w A0_0 l0_0.length l0_0) (hc0_0 : l0_0.length ≤ c0_0) (hr0_1 : Kd.C k43 w A0_1 l0_1.length l0_1) (hc0_1 : l0_1.length ≤ c0_1) (h : ware_Check.f k l0_0 l0_1 = some r) :
    Calls Try.prog 43 #[.agg #[.slice A0_0 l0_0.length c0_0, .slice A0_1 l0_1.length c0_1]] w fun e w' => e = .returned (.int .i64 r) ∧ Below w.heap.size w w' := by
  have hu66 := Try.underlying66
  have HR0_0 := Aside0.mk hr0_0
  have HC0_0 := Aside0.mk hc0_0
  clear hr0_0 hc0_0
  have HR0_1 := Aside0.mk hr0_1
  have HC0_1 := Aside0.mk hc0_1
  clear hr0_1 hc0_1
  have HB := Aside0.mk (Below.refl w.heap.size w)
  have H : (if (l0_0.length : Int) > 40 then (ware_Check.j0 k true l0_0 l0_1) else (if (l0_1.length : Int) > 12 then (ware_Check.j0 k true l0_0 l0_1) else ((api_Shape_74.f l0_0).bind fun t450 => (if t450 = true then (ware_Check.j0 k true l0_0 l0_1) else ((api_Body_76.f l0_1).bind fun t451 => (ware_Check.j0 k t451 l0_0 l0_1)))))) = some r := h
  clear h
  have HC2 := Aside0.mk H
  clear H
  go_enter Try.func43, Try.ntmps43
  go_upto_region 1 with (first | ((with_reducible refine gate_dst (N := 1) rfl ?_); (try (refine gate_guard (by rfl) ?_; dsimp only)); refine box_event ?hg (N := 1) ?hd (cs := #[.slice A0_0 l0_0.length c0_0, .slice A0_1 l0_1.length c0_1]) (t := 66) ?hr ?_; (case hd => rfl); (case hg => rfl); (case hr => first | (go_simp; done) | (go_simp; rfl)); intro gb449 hg w3 hbox hb; have BK449 := Aside0.mk (hbox); have GW449 := Aside0.mk ((by rw [hg]; exact (below_size (by repeat (first | (with_reducible first | exact HB.out | apply below_alloc | apply pw_below_drewN | apply below_drew1) | exact HB.out))) : w.heap.size ≤ gb449)); have GE449 := Aside0.mk ((by rw [hg]; exact (below_size (by repeat (first | (with_reducible first | exact HB.out | apply below_alloc | apply pw_below_drewN | apply below_drew1) | exact HB.out))) : w.heap.size ≤ gb449)); replace HB := Aside0.mk (below_step (by repeat (first | (with_reducible first | exact HB.out | apply below_alloc | apply pw_below_drewN | apply below_drew1) | exact HB.out)) hb); clear hb hbox hg))
  (try simp only [Act.put, List.setIfInBounds_toArray, List.set_cons_zero, List.set_cons_succ])
  go_cut [3] (fun v3 wc => ∃ (kq : Nat) (x3_1 : Bool), v3 = .bool x3_1 ∧ Aside0 (ware_Check.j0 kq x3_1 l0_0 l0_1 = some r) ∧ Aside0 (kq ≤ k) ∧ Aside0 (wc.heap[gb449]? = some (.cells #[(.slice A0_0 l0_0.length c0_0), (.slice A0_1 l0_1.length c0_1)] 66 (0, 0))) ∧ Aside0 (Below w.heap.size w wc))
  case first =>
    have H := HC2.out
    clear HC2
    by_cases c4 : (l0_0.length : Int) > 40
    · rw [if_pos c4] at H
      have c4b0 : decide (40 < (l0_0.length : Int)) = true := decide_eq_true c4
      have c4b1 : decide (40 < l0_0.length) = true := decide_eq_true (by omega)
      clear c4
      (first | rw [c4b0] | (simp only [i64_w, i32_w]; rw [c4b0]) | skip)
      have H' := Aside0.mk H
      clear H
      have hcz5_0 : w3.cell? ⟨gb449, 0, none⟩ = some (.slice A0_0 l0_0.length c0_0) := (blk_cell BK449.out 0).trans rfl
      have hcz5_1 : w3.cell? ⟨gb449, 1, none⟩ = some (.slice A0_1 l0_1.length c0_1) := (blk_cell BK449.out 1).trans rfl
      have hfz5_0 := blk_frozen BK449.out 0
      have hfz5_1 := blk_frozen BK449.out 1
      go_wp2
      go_meet
      case rel => exact ⟨_, (true), (by first | rfl | (simp; done) | (simp [*]; done)), H', ⟨by first | omega | exact Nat.le_refl _⟩, ⟨by (with_reducible repeat first | apply blk_drewN | apply blk_drew | apply blk_alloc); exact BK449.out⟩, ⟨by repeat (first | (with_reducible first | exact HB.out | apply below_alloc | apply pw_below_drewN | apply below_drew1 | refine below_set ?_ GE449.out) | exact HB.out)⟩⟩
    · rw [if_neg c4] at H
      have c4b0 : decide (40 < (l0_0.length : Int)) = false := decide_eq_false c4
      have c4b1 : decide (40 < l0_0.length) = false := decide_eq_false (by omega)
      clear c4
      (first | rw [c4b0] | (simp only [i64_w, i32_w]; rw [c4b0]) | skip)
      by_cases c6 : (l0_1.length : Int) > 12
      · rw [if_pos c6] at H
        have c6b0 : decide (12 < (l0_1.length : Int)) = true := decide_eq_true c6
        have c6b1 : decide (12 < l0_1.length) = true := decide_eq_true (by omega)
        clear c6
        have H' := Aside0.mk H
        clear H
        have hcz7_0 : w3.cell? ⟨gb449, 0, none⟩ = some (.slice A0_0 l0_0.length c0_0) := (blk_cell BK449.out 0).trans rfl
        have hcz7_1 : w3.cell? ⟨gb449, 1, none⟩ = some (.slice A0_1 l0_1.length c0_1) := (blk_cell BK449.out 1).trans rfl
        have hfz7_0 := blk_frozen BK449.out 0
        have hfz7_1 := blk_frozen BK449.out 1
        go_wp2
        go_meet
        case rel => exact ⟨_, (true), (by first | rfl | (simp; done) | (simp [*]; done)), H', ⟨by first | omega | exact Nat.le_refl _⟩, ⟨by (with_reducible repeat first | apply blk_drewN | apply blk_drew | apply blk_alloc); exact BK449.out⟩, ⟨by repeat (first | (with_reducible first | exact HB.out | apply below_alloc | apply pw_below_drewN | apply below_drew1 | refine below_set ?_ GE449.out) | exact HB.out)⟩⟩
      · rw [if_neg c6] at H
        have c6b0 : decide (12 < (l0_1.length : Int)) = false := decide_eq_false c6
        have c6b1 : decide (12 < l0_1.length) = false := decide_eq_false (by omega)
        clear c6
        replace H := Option.bind_eq_some_iff.mp H
        obtain ⟨t450, A80, H⟩ := H
        replace H : (if t450 = true then (ware_Check.j0 k true l0_0 l0_1) else ((api_Body_76.f l0_1).bind fun t451 => (ware_Check.j0 k t451 l0_0 l0_1))) = some r := H
        have A8 := Aside0.mk A80
        clear A80
        by_cases c9 : t450 = true
        · subst c9
          have H1 : (ware_Check.j0 k true l0_0 l0_1) = some r := by rw [if_pos rfl] at H; exact H
          clear H
          have H := H1
          clear H1
          have H' := Aside0.mk H
          clear H
          have hcz10_0 : w3.cell? ⟨gb449, 0, none⟩ = some (.slice A0_0 l0_0.length c0_0) := (blk_cell BK449.out 0).trans rfl
          have hcz10_1 : w3.cell? ⟨gb449, 1, none⟩ = some (.slice A0_1 l0_1.length c0_1) := (blk_cell BK449.out 1).trans rfl
          have hfz10_0 := blk_frozen BK449.out 0
          have hfz10_1 := blk_frozen BK449.out 1
          go_wp2_with (first | (go_at_call 74; (with_reducible refine (api_Shape_74.calls _ _ l0_0 true _ ?side1 ?side2 A8.out).mono ?_); (case side1 => repeat (first | exact (Kd.C_below HR0_0.out HB.out) | (with_reducible refine Kd.C_alloc ?_ _) | (with_reducible refine Kd.C_drewN ?_ _) | (with_reducible refine Kd.C_drew ?_))); (case side2 => exact HC0_0.out); rintro e w11 ⟨rfl, hb⟩; replace BK449 := blkE BK449 hb; replace HB := Aside0.mk (below_step (by repeat (first | (with_reducible first | exact HB.out | apply below_alloc | apply pw_below_drewN | apply below_drew1 | refine below_set ?_ GE449.out) | exact HB.out)) hb); (try clear hb); (try clear hb2); (try clear hk); (try clear hi)))
          go_meet
          case rel => exact ⟨_, (true), (by first | rfl | (simp; done) | (simp [*]; done)), H', ⟨by first | omega | exact Nat.le_refl _⟩, ⟨by (with_reducible repeat first | apply blk_drewN | apply blk_drew | apply blk_alloc); exact BK449.out⟩, ⟨by repeat (first | (with_reducible first | exact HB.out | apply below_alloc | apply pw_below_drewN | apply below_drew1 | refine below_set ?_ GE449.out) | exact HB.out)⟩⟩
        · replace c9 := Bool.eq_false_iff.mpr c9
          subst c9
          have H1 : ((api_Body_76.f l0_1).bind fun t451 => (ware_Check.j0 k t451 l0_0 l0_1)) = some r := by rw [if_neg (show ¬ (false = true) by decide)] at H; exact H
          clear H
          have H := H1
          clear H1
          replace H := Option.bind_eq_some_iff.mp H
          obtain ⟨t451, A120, H⟩ := H
          replace H : (ware_Check.j0 k t451 l0_0 l0_1) = some r := H
          have A12 := Aside0.mk A120
          clear A120
          have H' := Aside0.mk H
          clear H
          have hcz13_0 : w3.cell? ⟨gb449, 0, none⟩ = some (.slice A0_0 l0_0.length c0_0) := (blk_cell BK449.out 0).trans rfl
          have hcz13_1 : w3.cell? ⟨gb449, 1, none⟩ = some (.slice A0_1 l0_1.length c0_1) := (blk_cell BK449.out 1).trans rfl
          have hfz13_0 := blk_frozen BK449.out 0
          have hfz13_1 := blk_frozen BK449.out 1
          go_wp2_with (first | (go_at_call 74; (with_reducible refine (api_Shape_74.calls _ _ l0_0 false _ ?side1 ?side2 A8.out).mono ?_); (case side1 => repeat (first | exact (Kd.C_below HR0_0.out HB.out) | (with_reducible refine Kd.C_alloc ?_ _) | (with_reducible refine Kd.C_drewN ?_ _) | (with_reducible refine Kd.C_drew ?_))); (case side2 => exact HC0_0.out); rintro e w14 ⟨rfl, hb⟩; replace BK449 := blkE BK449 hb; replace HB := Aside0.mk (below_step (by repeat (first | (with_reducible first | exact HB.out | apply below_alloc | apply pw_below_drewN | apply below_drew1 | refine below_set ?_ GE449.out) | exact HB.out)) hb); (try clear hb); (try clear hb2); (try clear hk); (try clear hi); obtain ⟨hcz15_0, hcz15_1⟩ := cells2 BK449.out; obtain ⟨hfz15_0, hfz15_1⟩ := froz2 BK449.out) | (go_at_call 76; (with_reducible refine (api_Body_76.calls _ _ l0_1 t451 _ ?side1 ?side2 A12.out).mono ?_); (case side1 => repeat (first | exact (Kd.C_below HR0_1.out HB.out) | (with_reducible refine Kd.C_alloc ?_ _) | (with_reducible refine Kd.C_drewN ?_ _) | (with_reducible refine Kd.C_drew ?_))); (case side2 => exact HC0_1.out); rintro e w16 ⟨rfl, hb⟩; replace BK449 := blkE BK449 hb; replace HB := Aside0.mk (below_step (by repeat (first | (with_reducible first | exact HB.out | apply below_alloc | apply pw_below_drewN | apply below_drew1 | refine below_set ?_ GE449.out) | exact HB.out)) hb); (try clear hb); (try clear hb2); (try clear hk); (try clear hi)))
          go_meet
          case rel => exact ⟨_, (t451), (by first | rfl | (simp; done) | (simp [*]; done)), H', ⟨by first | omega | exact Nat.le_refl _⟩, ⟨by (with_reducible repeat first | apply blk_drewN | apply blk_drew | apply blk_alloc); exact BK449.out⟩, ⟨by repeat (first | (with_reducible first | exact HB.out | apply below_alloc | apply pw_below_drewN | apply below_drew1 | refine below_set ?_ GE449.out) | exact HB.out)⟩⟩
  case rest =>
    clear HC2
    try clear p2
    try clear c4
    try clear c4b0
    try clear c4b1
    try clear c6
    try clear c6b0
    try clear c6b1
    try clear c9
    try clear hcz10_0
    try clear hcz10_1
    try clear hcz13_0
    try clear hcz13_1
    try clear hcz15_0
    try clear hcz15_1
    try clear hcz5_0
    try clear hcz5_1
    try clear hcz7_0
    try clear hcz7_1
    try clear hfz10_0
    try clear hfz10_1
    try clear hfz13_0
    try clear hfz13_1
    try clear hfz15_0
    try clear hfz15_1
    try clear hfz5_0
    try clear hfz5_1
    try clear hfz7_0
    try clear hfz7_1
    obtain ⟨kq, x3_1, rfl, HA, HJ1, BK449, HB⟩ := hcut
    cases kq with
    | zero => exact absurd HA.out (by simp [ware_Check.j0])
    | succ kj1 =>
      have H := HA.out
      clear HA
      simp only [ware_Check.j0] at H
      by_cases c17 : x3_1 = true
      · subst c17
        have H1 : (some 12) = some r := by rw [if_pos rfl] at H; exact H
        clear H
        have H := H1
        clear H1
        obtain rfl := Option.some.inj H
        go_wp2
        go_ret
        exact ⟨by first | rfl | (simp [errW_none, errW_some] <;> rfl) | (simp [*, errW_none, errW_some] <;> rfl), by repeat (first | (with_reducible first | exact HB.out | apply below_alloc | apply pw_below_drewN | apply below_drew1 | refine below_set ?_ GE449.out) | exact HB.out)⟩
      · replace c17 := Bool.eq_false_iff.mpr c17
        subst c17
        have H1 : ((ware_shapes.f l0_0 l0_1).bind fun t452 => ((ware_shape_78.f kj1 t452).bind fun t455 => (if t455 = true then ((ware_bodies.f l0_0 l0_1).bind fun t456 => ((ware_body_79.f kj1 t456).bind fun t459 => (if t459 = true then (some 0) else (some 12)))) else (some 12)))) = some r := by rw [if_neg (show ¬ (false = true) by decide)] at H; exact H
        clear H
        have H := H1
        clear H1
        replace H := Option.bind_eq_some_iff.mp H
        obtain ⟨t452, A180, H⟩ := H
        replace H : ((ware_shape_78.f kj1 t452).bind fun t455 => (if t455 = true then ((ware_bodies.f l0_0 l0_1).bind fun t456 => ((ware_body_79.f kj1 t456).bind fun t459 => (if t459 = true then (some 0) else (some 12)))) else (some 12))) = some r := H
        have A18 := Aside0.mk A180
        clear A180
        replace H := Option.bind_eq_some_iff.mp H
        obtain ⟨t455, A190, H⟩ := H
        replace H : (if t455 = true then ((ware_bodies.f l0_0 l0_1).bind fun t456 => ((ware_body_79.f kj1 t456).bind fun t459 => (if t459 = true then (some 0) else (some 12)))) else (some 12)) = some r := H
        have A19 := Aside0.mk A190
        clear A190
        by_cases c20 : t455 = true
        · subst c20
          have H1 : ((ware_bodies.f l0_0 l0_1).bind fun t456 => ((ware_body_79.f kj1 t456).bind fun t459 => (if t459 = true then (some 0) else (some 12)))) = some r := by rw [if_pos rfl] at H; exact H
          clear H
          have H := H1
          clear H1
          replace H := Option.bind_eq_some_iff.mp H
          obtain ⟨t456, A210, H⟩ := H
          replace H : ((ware_body_79.f kj1 t456).bind fun t459 => (if t459 = true then (some 0) else (some 12))) = some r := H
          have A21 := Aside0.mk A210
          clear A210
          replace H := Option.bind_eq_some_iff.mp H
          obtain ⟨t459, A220, H⟩ := H
          replace H : (if t459 = true then (some 0) else (some 12)) = some r := H
          have A22 := Aside0.mk A220
          clear A220
          by_cases c23 : t459 = true
          · subst c23
            have H1 : (some 0) = some r := by rw [if_pos rfl] at H; exact H
            clear H
            have H := H1
            clear H1
            obtain rfl := Option.some.inj H
            have hcz24_0 : wc.cell? ⟨gb449, 0, none⟩ = some (.slice A0_0 l0_0.length c0_0) := (blk_cell BK449.out 0).trans rfl
            have hcz24_1 : wc.cell? ⟨gb449, 1, none⟩ = some (.slice A0_1 l0_1.length c0_1) := (blk_cell BK449.out 1).trans rfl
            have hfz24_0 := blk_frozen BK449.out 0
            have hfz24_1 := blk_frozen BK449.out 1
            go_wp2_with (first | (go_at_call 71; (with_reducible refine (ware_shapes.calls _ _ l0_0 _ _ l0_1 t452 _ ?side1 ?side2 ?side3 ?side4 A18.out).mono ?_); (case side1 => repeat (first | exact (Kd.C_below HR0_0.out HB.out) | (with_reducible refine Kd.C_alloc ?_ _) | (with_reducible refine Kd.C_drewN ?_ _) | (with_reducible refine Kd.C_drew ?_))); (case side2 => exact HC0_0.out); (case side3 => repeat (first | exact (Kd.C_below HR0_1.out HB.out) | (with_reducible refine Kd.C_alloc ?_ _) | (with_reducible refine Kd.C_drewN ?_ _) | (with_reducible refine Kd.C_drew ?_))); (case side4 => exact HC0_1.out); rintro e w25 ⟨v453, rfl, ho0, hb⟩; have HO454 := Aside0.mk (Kd.R_lower ho0 (below_size (by repeat (first | (with_reducible first | exact HB.out | apply below_alloc | apply pw_below_drewN | apply below_drew1 | refine below_set ?_ GE449.out) | exact HB.out)))); replace BK449 := blkE BK449 hb; replace HB := Aside0.mk (below_step (by repeat (first | (with_reducible first | exact HB.out | apply below_alloc | apply pw_below_drewN | apply below_drew1 | refine below_set ?_ GE449.out) | exact HB.out)) hb); (try clear hb); (try clear hb2); (try clear hk); (try clear hi); (try clear ho0); obtain ⟨Ao26, co26, eo26⟩ := Kd.R_slice HO454.out; subst eo26) | (go_at_call 78; (with_reducible refine (ware_shape_78.calls kj1 _ _ t452 true _ ?side1 ?side2 A19.out).mono ?_); (case side1 => repeat (first | exact (Kd.R_reads' HO454.out).2.2 | (with_reducible refine Kd.C_alloc ?_ _) | (with_reducible refine Kd.C_drewN ?_ _) | (with_reducible refine Kd.C_drew ?_))); (case side2 => exact (Kd.R_reads' HO454.out).2.1); rintro e w27 ⟨rfl, hb⟩; replace HO454 := Aside0.mk (Kd.R_below (by (with_reducible repeat (first | apply Kd.R_alloc | apply Kd.R_drewN | apply Kd.R_drew)); exact HO454.out) hb); replace BK449 := blkE BK449 hb; replace HB := Aside0.mk (below_step (by repeat (first | (with_reducible first | exact HB.out | apply below_alloc | apply pw_below_drewN | apply below_drew1 | refine below_set ?_ GE449.out) | exact HB.out)) hb); (try clear hb); (try clear hb2); (try clear hk); (try clear hi); obtain ⟨hcz28_0, hcz28_1⟩ := cells2 BK449.out; obtain ⟨hfz28_0, hfz28_1⟩ := froz2 BK449.out) | (go_at_call 73; (with_reducible refine (ware_bodies.calls _ _ l0_0 _ _ l0_1 t456 _ ?side1 ?side2 ?side3 ?side4 A21.out).mono ?_); (case side1 => repeat (first | exact (Kd.C_below HR0_0.out HB.out) | (with_reducible refine Kd.C_alloc ?_ _) | (with_reducible refine Kd.C_drewN ?_ _) | (with_reducible refine Kd.C_drew ?_))); (case side2 => exact HC0_0.out); (case side3 => repeat (first | exact (Kd.C_below HR0_1.out HB.out) | (with_reducible refine Kd.C_alloc ?_ _) | (with_reducible refine Kd.C_drewN ?_ _) | (with_reducible refine Kd.C_drew ?_))); (case side4 => exact HC0_1.out); rintro e w29 ⟨v457, rfl, ho0, hb⟩; replace HO454 := Aside0.mk (Kd.R_below (by (with_reducible repeat (first | apply Kd.R_alloc | apply Kd.R_drewN | apply Kd.R_drew)); exact HO454.out) hb); have HO458 := Aside0.mk (Kd.R_lower ho0 (below_size (by repeat (first | (with_reducible first | exact HB.out | apply below_alloc | apply pw_below_drewN | apply below_drew1 | refine below_set ?_ GE449.out) | exact HB.out)))); replace BK449 := blkE BK449 hb; replace HB := Aside0.mk (below_step (by repeat (first | (with_reducible first | exact HB.out | apply below_alloc | apply pw_below_drewN | apply below_drew1 | refine below_set ?_ GE449.out) | exact HB.out)) hb); (try clear hb); (try clear hb2); (try clear hk); (try clear hi); (try clear ho0); obtain ⟨Ao30, co30, eo30⟩ := Kd.R_slice HO458.out; subst eo30) | (go_at_call 79; (with_reducible refine (ware_body_79.calls kj1 _ _ t456 true _ ?side1 ?side2 A22.out).mono ?_); (case side1 => repeat (first | exact (Kd.R_reads' HO458.out).2.2 | (with_reducible refine Kd.C_alloc ?_ _) | (with_reducible refine Kd.C_drewN ?_ _) | (with_reducible refine Kd.C_drew ?_))); (case side2 => exact (Kd.R_reads' HO458.out).2.1); rintro e w31 ⟨rfl, hb⟩; replace HO454 := Aside0.mk (Kd.R_below (by (with_reducible repeat (first | apply Kd.R_alloc | apply Kd.R_drewN | apply Kd.R_drew)); exact HO454.out) hb); replace HO458 := Aside0.mk (Kd.R_below (by (with_reducible repeat (first | apply Kd.R_alloc | apply Kd.R_drewN | apply Kd.R_drew)); exact HO458.out) hb); replace BK449 := blkE BK449 hb; replace HB := Aside0.mk (below_step (by repeat (first | (with_reducible first | exact HB.out | apply below_alloc | apply pw_below_drewN | apply below_drew1 | refine below_set ?_ GE449.out) | exact HB.out)) hb); (try clear hb); (try clear hb2); (try clear hk); (try clear hi)))
            go_ret
            exact ⟨by first | rfl | (simp [errW_none, errW_some] <;> rfl) | (simp [*, errW_none, errW_some] <;> rfl), by repeat (first | (with_reducible first | exact HB.out | apply below_alloc | apply pw_below_drewN | apply below_drew1 | refine below_set ?_ GE449.out) | exact HB.out)⟩
          · replace c23 := Bool.eq_false_iff.mpr c23
            subst c23
            have H1 : (some 12) = some r := by rw [if_neg (show ¬ (false = true) by decide)] at H; exact H
            clear H
            have H := H1
            clear H1
            obtain rfl := Option.some.inj H
            have hcz32_0 : wc.cell? ⟨gb449, 0, none⟩ = some (.slice A0_0 l0_0.length c0_0) := (blk_cell BK449.out 0).trans rfl
            have hcz32_1 : wc.cell? ⟨gb449, 1, none⟩ = some (.slice A0_1 l0_1.length c0_1) := (blk_cell BK449.out 1).trans rfl
            have hfz32_0 := blk_frozen BK449.out 0
            have hfz32_1 := blk_frozen BK449.out 1
            go_wp2_with (first | (go_at_call 71; (with_reducible refine (ware_shapes.calls _ _ l0_0 _ _ l0_1 t452 _ ?side1 ?side2 ?side3 ?side4 A18.out).mono ?_); (case side1 => repeat (first | exact (Kd.C_below HR0_0.out HB.out) | (with_reducible refine Kd.C_alloc ?_ _) | (with_reducible refine Kd.C_drewN ?_ _) | (with_reducible refine Kd.C_drew ?_))); (case side2 => exact HC0_0.out); (case side3 => repeat (first | exact (Kd.C_below HR0_1.out HB.out) | (with_reducible refine Kd.C_alloc ?_ _) | (with_reducible refine Kd.C_drewN ?_ _) | (with_reducible refine Kd.C_drew ?_))); (case side4 => exact HC0_1.out); rintro e w33 ⟨v453, rfl, ho0, hb⟩; have HO454 := Aside0.mk (Kd.R_lower ho0 (below_size (by repeat (first | (with_reducible first | exact HB.out | apply below_alloc | apply pw_below_drewN | apply below_drew1 | refine below_set ?_ GE449.out) | exact HB.out)))); replace BK449 := blkE BK449 hb; replace HB := Aside0.mk (below_step (by repeat (first | (with_reducible first | exact HB.out | apply below_alloc | apply pw_below_drewN | apply below_drew1 | refine below_set ?_ GE449.out) | exact HB.out)) hb); (try clear hb); (try clear hb2); (try clear hk); (try clear hi); (try clear ho0); obtain ⟨Ao34, co34, eo34⟩ := Kd.R_slice HO454.out; subst eo34) | (go_at_call 78; (with_reducible refine (ware_shape_78.calls kj1 _ _ t452 true _ ?side1 ?side2 A19.out).mono ?_); (case side1 => repeat (first | exact (Kd.R_reads' HO454.out).2.2 | (with_reducible refine Kd.C_alloc ?_ _) | (with_reducible refine Kd.C_drewN ?_ _) | (with_reducible refine Kd.C_drew ?_))); (case side2 => exact (Kd.R_reads' HO454.out).2.1); rintro e w35 ⟨rfl, hb⟩; replace HO454 := Aside0.mk (Kd.R_below (by (with_reducible repeat (first | apply Kd.R_alloc | apply Kd.R_drewN | apply Kd.R_drew)); exact HO454.out) hb); replace BK449 := blkE BK449 hb; replace HB := Aside0.mk (below_step (by repeat (first | (with_reducible first | exact HB.out | apply below_alloc | apply pw_below_drewN | apply below_drew1 | refine below_set ?_ GE449.out) | exact HB.out)) hb); (try clear hb); (try clear hb2); (try clear hk); (try clear hi); obtain ⟨hcz36_0, hcz36_1⟩ := cells2 BK449.out; obtain ⟨hfz36_0, hfz36_1⟩ := froz2 BK449.out) | (go_at_call 73; (with_reducible refine (ware_bodies.calls _ _ l0_0 _ _ l0_1 t456 _ ?side1 ?side2 ?side3 ?side4 A21.out).mono ?_); (case side1 => repeat (first | exact (Kd.C_below HR0_0.out HB.out) | (with_reducible refine Kd.C_alloc ?_ _) | (with_reducible refine Kd.C_drewN ?_ _) | (with_reducible refine Kd.C_drew ?_))); (case side2 => exact HC0_0.out); (case side3 => repeat (first | exact (Kd.C_below HR0_1.out HB.out) | (with_reducible refine Kd.C_alloc ?_ _) | (with_reducible refine Kd.C_drewN ?_ _) | (with_reducible refine Kd.C_drew ?_))); (case side4 => exact HC0_1.out); rintro e w37 ⟨v457, rfl, ho0, hb⟩; replace HO454 := Aside0.mk (Kd.R_below (by (with_reducible repeat (first | apply Kd.R_alloc | apply Kd.R_drewN | apply Kd.R_drew)); exact HO454.out) hb); have HO458 := Aside0.mk (Kd.R_lower ho0 (below_size (by repeat (first | (with_reducible first | exact HB.out | apply below_alloc | apply pw_below_drewN | apply below_drew1 | refine below_set ?_ GE449.out) | exact HB.out)))); replace BK449 := blkE BK449 hb; replace HB := Aside0.mk (below_step (by repeat (first | (with_reducible first | exact HB.out | apply below_alloc | apply pw_below_drewN | apply below_drew1 | refine below_set ?_ GE449.out) | exact HB.out)) hb); (try clear hb); (try clear hb2); (try clear hk); (try clear hi); (try clear ho0); obtain ⟨Ao38, co38, eo38⟩ := Kd.R_slice HO458.out; subst eo38) | (go_at_call 79; (with_reducible refine (ware_body_79.calls kj1 _ _ t456 false _ ?side1 ?side2 A22.out).mono ?_); (case side1 => repeat (first | exact (Kd.R_reads' HO458.out).2.2 | (with_reducible refine Kd.C_alloc ?_ _) | (with_reducible refine Kd.C_drewN ?_ _) | (with_reducible refine Kd.C_drew ?_))); (case side2 => exact (Kd.R_reads' HO458.out).2.1); rintro e w39 ⟨rfl, hb⟩; replace HO454 := Aside0.mk (Kd.R_below (by (with_reducible repeat (first | apply Kd.R_alloc | apply Kd.R_drewN | apply Kd.R_drew)); exact HO454.out) hb); replace HO458 := Aside0.mk (Kd.R_below (by (with_reducible repeat (first | apply Kd.R_alloc | apply Kd.R_drewN | apply Kd.R_drew)); exact HO458.out) hb); replace BK449 := blkE BK449 hb; replace HB := Aside0.mk (below_step (by repeat (first | (with_reducible first | exact HB.out | apply below_alloc | apply pw_below_drewN | apply below_drew1 | refine below_set ?_ GE449.out) | exact HB.out)) hb); (try clear hb); (try clear hb2); (try clear hk); (try clear hi)))
            go_ret
            exact ⟨by first | rfl | (simp [errW_none, errW_some] <;> rfl) | (simp [*, errW_none, errW_some] <;> rfl), by repeat (first | (with_reducible first | exact HB.out | apply below_alloc | apply pw_below_drewN | apply below_drew1 | refine below_set ?_ GE449.out) | exact HB.out)⟩
        · replace c20 := Bool.eq_false_iff.mpr c20
          subst c20
          have H1 : (some 12) = some r := by rw [if_neg (show ¬ (false = true) by decide)] at H; exact H
          clear H
          have H := H1
          clear H1
          obtain rfl := Option.some.inj H
          have hcz40_0 : wc.cell? ⟨gb449, 0, none⟩ = some (.slice A0_0 l0_0.length c0_0) := (blk_cell BK449.out 0).trans rfl
          have hcz40_1 : wc.cell? ⟨gb449, 1, none⟩ = some (.slice A0_1 l0_1.length c0_1) := (blk_cell BK449.out 1).trans rfl
          have hfz40_0 := blk_frozen BK449.out 0
          have hfz40_1 := blk_frozen BK449.out 1
          go_wp2_with (first | (go_at_call 71; (with_reducible refine (ware_shapes.calls _ _ l0_0 _ _ l0_1 t452 _ ?side1 ?side2 ?side3 ?side4 A18.out).mono ?_); (case side1 => repeat (first | exact (Kd.C_below HR0_0.out HB.out) | (with_reducible refine Kd.C_alloc ?_ _) | (with_reducible refine Kd.C_drewN ?_ _) | (with_reducible refine Kd.C_drew ?_))); (case side2 => exact HC0_0.out); (case side3 => repeat (first | exact (Kd.C_below HR0_1.out HB.out) | (with_reducible refine Kd.C_alloc ?_ _) | (with_reducible refine Kd.C_drewN ?_ _) | (with_reducible refine Kd.C_drew ?_))); (case side4 => exact HC0_1.out); rintro e w41 ⟨v453, rfl, ho0, hb⟩; have HO454 := Aside0.mk (Kd.R_lower ho0 (below_size (by repeat (first | (with_reducible first | exact HB.out | apply below_alloc | apply pw_below_drewN | apply below_drew1 | refine below_set ?_ GE449.out) | exact HB.out)))); replace BK449 := blkE BK449 hb; replace HB := Aside0.mk (below_step (by repeat (first | (with_reducible first | exact HB.out | apply below_alloc | apply pw_below_drewN | apply below_drew1 | refine below_set ?_ GE449.out) | exact HB.out)) hb); (try clear hb); (try clear hb2); (try clear hk); (try clear hi); (try clear ho0); obtain ⟨Ao42, co42, eo42⟩ := Kd.R_slice HO454.out; subst eo42) | (go_at_call 78; (with_reducible refine (ware_shape_78.calls kj1 _ _ t452 false _ ?side1 ?side2 A19.out).mono ?_); (case side1 => repeat (first | exact (Kd.R_reads' HO454.out).2.2 | (with_reducible refine Kd.C_alloc ?_ _) | (with_reducible refine Kd.C_drewN ?_ _) | (with_reducible refine Kd.C_drew ?_))); (case side2 => exact (Kd.R_reads' HO454.out).2.1); rintro e w43 ⟨rfl, hb⟩; replace HO454 := Aside0.mk (Kd.R_below (by (with_reducible repeat (first | apply Kd.R_alloc | apply Kd.R_drewN | apply Kd.R_drew)); exact HO454.out) hb); replace BK449 := blkE BK449 hb; replace HB := Aside0.mk (below_step (by repeat (first | (with_reducible first | exact HB.out | apply below_alloc | apply pw_below_drewN | apply below_drew1 | refine below_set ?_ GE449.out) | exact HB.out)) hb); (try clear hb); (try clear hb2); (try clear hk); (try clear hi)))
          go_ret
          exact ⟨by first | rfl | (simp [errW_none, errW_some] <;> rfl) | (simp [*, errW_none, errW_some] <;> rfl), by repeat (first | (with_reducible first | exact HB.out | apply below_alloc | apply pw_below_drewN | apply below_drew1 | refine below_set ?_ GE449.out) | exact HB.out)⟩

end Go.Proofs.Ytcgokimagimamaa.F
/- Written by a program of mine out of the translation: what functions answer; Lean checks it. -/
namespace Go.Proofs.Ytcgokimagimamaa.F
open Go.RowKit Go.Proofs.YtcgokimagimamaaW.PrintWords Go.Proofs.YtcgokimagimamaaW.PrintLast Go.Proofs.YtcgokimagimamaaW.PrintMore
attribute [local go_sem] max2_int min2_int max_two min_two max_three min_three max_four min_four   -- for this text's walks alone
set_option linter.unusedVariables false
set_option linter.unusedSimpArgs false
theorem mc70_94 : Try.prog.concrete 94 = true := by kernel_rfl
theorem mm70_94 (x : Value) (w : World) : (method 281 94 x "potbank/ware.id").run Try.prog w = .ok (153, x) w := by kernel_rfl
theorem mi70_94 (x : Value) (w : World) : (invoke (.fn (.method "potbank/ware.id") #[]) #[.iface 94 x]).run Try.prog w = .ok (.enter 153 #[x]) w := by kernel_rfl
attribute [local go_sem] mc70_94 mm70_94
/-! ### ware_shape_70: function 70 -/
def ware_shape_70.l0 : Nat → Int → List (S94) → Int → Int → Option (Int × Int × Int × Int × Int × Int × Int × Int × Int × Int × Int × Int)
  | 0, _, _, _, _ => none
  | k + 1, x1, x9, x10, x11 => if x11 < x10 then (if 0 ≤ x11 then (if x11 < (x9.length : Int) then ((ware_shape_id.f ((rd_T94 x9 x11).f0) ((rd_T94 x9 x11).f1.f0) ((rd_T94 x9 x11).f1.f1) ((rd_T94 x9 x11).f2.f0) ((rd_T94 x9 x11).f2.f1) ((rd_T94 x9 x11).f3.f0) ((rd_T94 x9 x11).f3.f1) ((rd_T94 x9 x11).f4) ((rd_T94 x9 x11).f5.f0) ((rd_T94 x9 x11).f5.f1) ((rd_T94 x9 x11).f6)).bind fun t463 => (if t463 = x1 then (some ((rd_T94 x9 x11).f0, (rd_T94 x9 x11).f1.f0, (rd_T94 x9 x11).f1.f1, (rd_T94 x9 x11).f2.f0, (rd_T94 x9 x11).f2.f1, (rd_T94 x9 x11).f3.f0, (rd_T94 x9 x11).f3.f1, (rd_T94 x9 x11).f4, (rd_T94 x9 x11).f5.f0, (rd_T94 x9 x11).f5.f1, (rd_T94 x9 x11).f6, 0)) else (ware_shape_70.l0 k x1 x9 x10 (wrap64 (x11 + 1))))) else (none)) else (none)) else (some (0, 0, 0, 0, 0, 0, 0, 0, 0, 0, 0, 3))
def ware_shape_70.f (k : Nat) (l0 : List (S94)) (a1 : Int) : Option (Int × Int × Int × Int × Int × Int × Int × Int × Int × Int × Int × Int) := ware_shape_70.l0 k a1 l0 (l0.length : Int) 0
theorem ware_shape_70.mono_l : ∀ k, (∀ y0 y1 y2 y3, LeO (ware_shape_70.l0 k y0 y1 y2 y3) (ware_shape_70.l0 (k + 1) y0 y1 y2 y3))
  | 0 => fun _ _ _ _ r h => by simp [ware_shape_70.l0] at h
  | k + 1 => by
    have ih0 := ware_shape_70.mono_l k
    · intro y0 y1 y2 y3
      unfold ware_shape_70.l0
      repeat' first
      | (with_reducible exact ih0 _ _ _ _)
      | (with_reducible exact LeO.refl _)
      | (with_reducible exact LeO.none _)
      | (with_reducible refine LeO.ite ?_ ?_)
      | (with_reducible refine LeO.bind ?_ (fun _ => ?_))
      | exact ih0 _ _ _ _
      | exact LeO.none _
      | refine LeO.ite ?_ ?_
      | refine LeO.bind ?_ (fun _ => ?_)
theorem ware_shape_70.mono : ∀ a0 a1 k, LeO (ware_shape_70.f k a0 a1) (ware_shape_70.f (k + 1) a0 a1) := by
  intro a0 a1 k
  have ih0 := ware_shape_70.mono_l k
  unfold ware_shape_70.f
  repeat' first
      | (with_reducible exact ih0 _ _ _ _)
      | (with_reducible exact LeO.refl _)
      | (with_reducible exact LeO.none _)
      | (with_reducible refine LeO.ite ?_ ?_)
      | (with_reducible refine LeO.bind ?_ (fun _ => ?_))
      | exact ih0 _ _ _ _
      | exact LeO.none _
      | refine LeO.ite ?_ ?_
      | refine LeO.bind ?_ (fun _ => ?_)
set_option maxHeartbeats 8000000 in
set_option maxRecDepth 100000 in
theorem ware_shape_70.calls (k : Nat) (A0 : Option Addr) (c0 : Nat) (l0 : List (S94)) (a1 : Int) (r1 : Int) (r2 : Int) (r3 : Int) (r4 : Int) (r5 : Int) (r6 : Int) (r7 : Int) (r8 : Int) (r9 : Int) (r10 : Int) (r11 : Int) (r12 : Int) (w : World) (hr0 : Kd.C k94 w A0 l0.length l0) (hc0 : l0.length ≤ c0) (h : ware_shape_70.f k l0 a1 = some (r1, r2, r3, r4, r5, r6, r7, r8, r9, r10, r11, r12)) :
    Calls Try.prog 70 #[.slice A0 l0.length c0, .int .i64 a1] w fun e w' => e = .returned (.tuple #[.agg #[.int .i64 r1, .int .i64 r2, .int .i64 r3, .int .i64 r4, .int .i64 r5, .int .i64 r6, .int .i64 r7, .int .i64 r8, .int .i64 r9, .int .i64 r10, .int .i64 r11], .int .i64 r12]) ∧ Below w.heap.size w w' := by
  have hu94 := Try.underlying94
  have HR0 := Aside0.mk hr0
  have HC0 := Aside0.mk hc0
  clear hr0 hc0
  have HB := Aside0.mk (Below.refl w.heap.size w)
  have H : (ware_shape_70.l0 k a1 l0 (l0.length : Int) 0) = some (r1, r2, r3, r4, r5, r6, r7, r8, r9, r10, r11, r12) := h
  clear h
  have H' := Aside0.mk H
  clear H
  go_enter Try.func70, Try.ntmps70
  go_wp2_with (first | ((with_reducible refine gate_dst (N := 4) rfl ?_); refine box_event ?hg (N := 4) ?hd (cs := #[.int .i64 0, .int .i64 0, .int .i64 0, .int .i64 0, .int .i64 0, .int .i64 0, .int .i64 0, .int .i64 0, .int .i64 0, .int .i64 0, .int .i64 0]) (t := 94) ?hr ?_; (case hd => rfl); (case hg => rfl); (case hr => first | (go_simp; done) | (go_simp; rfl)); intro gb460 hg w3 hbox hb; have BK460 := Aside0.mk (hbox); have GW460 := Aside0.mk ((by rw [hg]; exact (below_size (by repeat (first | (with_reducible first | exact HB.out | apply below_alloc | apply pw_below_drewN | apply below_drew1) | exact HB.out))) : w.heap.size ≤ gb460)); have GE460 := Aside0.mk ((by rw [hg]; exact (below_size (by repeat (first | (with_reducible first | exact HB.out | apply below_alloc | apply pw_below_drewN | apply below_drew1) | exact HB.out))) : w.heap.size ≤ gb460)); replace HB := Aside0.mk (below_step (by repeat (first | (with_reducible first | exact HB.out | apply below_alloc | apply pw_below_drewN | apply below_drew1) | exact HB.out)) hb); clear hb hbox hg))
  go_loopg [11] k (fun kq v11 w' => ∃ (x11_1 : Int) (x461000_1 : Int) (x461001_1 : Int) (x461002_1 : Int) (x461003_1 : Int) (x461004_1 : Int) (x461005_1 : Int) (x461006_1 : Int) (x461007_1 : Int) (x461008_1 : Int) (x461009_1 : Int) (x461010_1 : Int), v11 = .int .i64 x11_1 ∧ Aside0 (ware_shape_70.l0 kq a1 l0 (l0.length : Int) x11_1 = some (r1, r2, r3, r4, r5, r6, r7, r8, r9, r10, r11, r12)) ∧ Aside0 (kq ≤ k) ∧ Aside0 (w'.heap[gb460]? = some (.cells #[.int .i64 x461000_1, .int .i64 x461001_1, .int .i64 x461002_1, .int .i64 x461003_1, .int .i64 x461004_1, .int .i64 x461005_1, .int .i64 x461006_1, .int .i64 x461007_1, .int .i64 x461008_1, .int .i64 x461009_1, .int .i64 x461010_1] 94 (0, 0))) ∧ Aside0 (Below w.heap.size w w'))
  case atStart => exact ⟨(0), (0), (0), (0), (0), (0), (0), (0), (0), (0), (0), (0), (by first | rfl | (simp; done) | (simp [*]; done)), H', ⟨Nat.le_refl _⟩, ⟨by (with_reducible repeat first | apply blk_drewN | apply blk_drew | apply blk_alloc); exact BK460.out⟩, ⟨by repeat (first | (with_reducible first | exact HB.out | apply below_alloc | apply pw_below_drewN | apply below_drew1 | refine below_set ?_ GE460.out) | exact HB.out)⟩⟩
  case round =>
    clear H'
    try clear p2
    obtain ⟨x11_1, x461000_1, x461001_1, x461002_1, x461003_1, x461004_1, x461005_1, x461006_1, x461007_1, x461008_1, x461009_1, x461010_1, rfl, HA, HK1, BK460, HB⟩ := hrel
    cases gk with
    | zero => exact absurd HA.out (by simp [ware_shape_70.l0])
    | succ k1 =>
      have H := HA.out
      clear HA
      simp only [ware_shape_70.l0] at H
      by_cases c4 : x11_1 < (l0.length : Int)
      · rw [if_pos c4] at H
        have c4b0 : decide (x11_1 < (l0.length : Int)) = true := decide_eq_true c4
        clear c4
        by_cases c5 : 0 ≤ x11_1
        · rw [if_pos c5] at H
          have c5b0 : decide (0 ≤ x11_1) = true := decide_eq_true c5
          clear c5
          by_cases c6 : x11_1 < (l0.length : Int)
          · rw [if_pos c6] at H
            have c6b0 : decide (x11_1 < (l0.length : Int)) = true := decide_eq_true c6
            clear c6
            replace H := Option.bind_eq_some_iff.mp H
            obtain ⟨t463, A70, H⟩ := H
            replace H : (if t463 = a1 then (some ((rd_T94 l0 x11_1).f0, (rd_T94 l0 x11_1).f1.f0, (rd_T94 l0 x11_1).f1.f1, (rd_T94 l0 x11_1).f2.f0, (rd_T94 l0 x11_1).f2.f1, (rd_T94 l0 x11_1).f3.f0, (rd_T94 l0 x11_1).f3.f1, (rd_T94 l0 x11_1).f4, (rd_T94 l0 x11_1).f5.f0, (rd_T94 l0 x11_1).f5.f1, (rd_T94 l0 x11_1).f6, 0)) else (ware_shape_70.l0 k1 a1 l0 (l0.length : Int) (wrap64 (x11_1 + 1)))) = some (r1, r2, r3, r4, r5, r6, r7, r8, r9, r10, r11, r12) := H
            have A7 := Aside0.mk A70
            clear A70
            by_cases c8 : t463 = a1
            · rw [if_pos c8] at H
              have c8b0 : (t463 == a1) = true := beq_iff_eq.mpr c8
              have c8b1 : (t463 != a1) = false := bne_eq_false_iff_eq.mpr c8
              clear c8
              simp only [Option.some.injEq, Prod.mk.injEq] at H
              obtain ⟨rfl, rfl, rfl, rfl, rfl, rfl, rfl, rfl, rfl, rfl, rfl, rfl⟩ := H
              have p461 : 0 ≤ (x11_1 : Int) := of_decide_eq_true (by first | (with_reducible assumption) | assumption)
              have q461 : x11_1 < (l0.length : Int) := of_decide_eq_true (by first | (with_reducible assumption) | assumption)
              obtain ⟨ad461, e461, hx461_0, hx461_1, hx461_2, hx461_3, hx461_4, hx461_5, hx461_6, hx461_7, hx461_8, hx461_9, hx461_10⟩ := at_T94 HR0.out x11_1 p461 q461
              cases e461
              replace hx461_0 := (HB.out.cell (World.block_lt_of_cell? w _ hx461_0)).trans hx461_0
              replace hx461_1 := (HB.out.cell (World.block_lt_of_cell? w _ hx461_1)).trans hx461_1
              replace hx461_2 := (HB.out.cell (World.block_lt_of_cell? w _ hx461_2)).trans hx461_2
              replace hx461_3 := (HB.out.cell (World.block_lt_of_cell? w _ hx461_3)).trans hx461_3
              replace hx461_4 := (HB.out.cell (World.block_lt_of_cell? w _ hx461_4)).trans hx461_4
              replace hx461_5 := (HB.out.cell (World.block_lt_of_cell? w _ hx461_5)).trans hx461_5
              replace hx461_6 := (HB.out.cell (World.block_lt_of_cell? w _ hx461_6)).trans hx461_6
              replace hx461_7 := (HB.out.cell (World.block_lt_of_cell? w _ hx461_7)).trans hx461_7
              replace hx461_8 := (HB.out.cell (World.block_lt_of_cell? w _ hx461_8)).trans hx461_8
              replace hx461_9 := (HB.out.cell (World.block_lt_of_cell? w _ hx461_9)).trans hx461_9
              replace hx461_10 := (HB.out.cell (World.block_lt_of_cell? w _ hx461_10)).trans hx461_10
              replace p461 := eq_true p461
              replace q461 := eq_true q461
              go_wp2_with (first | ((with_reducible refine gate_dst (N := 7) rfl ?_); refine box_event ?hg (N := 7) ?hd (cs := #[.int .i64 0, .int .i64 0, .int .i64 0, .int .i64 0, .int .i64 0, .int .i64 0, .int .i64 0, .int .i64 0, .int .i64 0, .int .i64 0, .int .i64 0]) (t := 94) ?hr ?_; (case hd => rfl); (case hg => rfl); (case hr => first | (go_simp; done) | (go_simp; rfl)); intro gb462 hg w9 hbox hb; have BK462 := Aside0.mk (hbox); have GW462 := Aside0.mk ((by rw [hg]; exact (below_size (by repeat (first | (with_reducible first | exact HB.out | apply below_alloc | apply pw_below_drewN | apply below_drew1 | refine below_set ?_ GE460.out) | exact HB.out))) : w.heap.size ≤ gb462)); have GE462 := Aside0.mk ((by rw [hg]; exact (below_size (by repeat (first | (with_reducible first | exact HB.out | apply below_alloc | apply pw_below_drewN | apply below_drew1 | refine below_set ?_ GE460.out) | exact HB.out))) : w.heap.size ≤ gb462)); replace HB := Aside0.mk (below_step (by repeat (first | (with_reducible first | exact HB.out | apply below_alloc | apply pw_below_drewN | apply below_drew1 | refine below_set ?_ GE460.out) | exact HB.out)) hb); have NB460_462 := Aside0.mk ((by rw [hg]; exact Nat.ne_of_lt (blk_lt (g := gb460) (o := .cells #[.int .i64 x461000_1, .int .i64 x461001_1, .int .i64 x461002_1, .int .i64 x461003_1, .int .i64 x461004_1, .int .i64 x461005_1, .int .i64 x461006_1, .int .i64 x461007_1, .int .i64 x461008_1, .int .i64 x461009_1, .int .i64 x461010_1] 94 (0, 0)) (by (with_reducible repeat first | apply blk_drewN | apply blk_drew | apply blk_alloc); exact BK460.out)) : gb460 ≠ gb462)); have NB462_460 := Aside0.mk ((by rw [hg]; exact Nat.ne_of_gt (blk_lt (g := gb460) (o := .cells #[.int .i64 x461000_1, .int .i64 x461001_1, .int .i64 x461002_1, .int .i64 x461003_1, .int .i64 x461004_1, .int .i64 x461005_1, .int .i64 x461006_1, .int .i64 x461007_1, .int .i64 x461008_1, .int .i64 x461009_1, .int .i64 x461010_1] 94 (0, 0)) (by (with_reducible repeat first | apply blk_drewN | apply blk_drew | apply blk_alloc); exact BK460.out)) : gb462 ≠ gb460)); replace BK460 := blkE BK460 hb; clear hb hbox hg; have hnb10 := NB462_460.out; have hnc10 := NB460_462.out; obtain ⟨hcz11_0, hcz11_1, hcz11_2, hcz11_3, hcz11_4, hcz11_5, hcz11_6, hcz11_7, hcz11_8, hcz11_9, hcz11_10⟩ := cells11 BK462.out; obtain ⟨hfz11_0, hfz11_1, hfz11_2, hfz11_3, hfz11_4, hfz11_5, hfz11_6, hfz11_7, hfz11_8, hfz11_9, hfz11_10⟩ := froz11 BK462.out) | ((with_reducible refine gate_invoke (name := "potbank/ware.id") rfl ?_); refine invL_ (some 17) rfl rfl 153 #[.agg #[.int .i64 ((rd_T94 l0 x11_1).f0), .int .i64 ((rd_T94 l0 x11_1).f1.f0), .int .i64 ((rd_T94 l0 x11_1).f1.f1), .int .i64 ((rd_T94 l0 x11_1).f2.f0), .int .i64 ((rd_T94 l0 x11_1).f2.f1), .int .i64 ((rd_T94 l0 x11_1).f3.f0), .int .i64 ((rd_T94 l0 x11_1).f3.f1), .int .i64 ((rd_T94 l0 x11_1).f4), .int .i64 ((rd_T94 l0 x11_1).f5.f0), .int .i64 ((rd_T94 l0 x11_1).f5.f1), .int .i64 ((rd_T94 l0 x11_1).f6)]] (exec_invoke rfl rfl (mi70_94 _ _)) ?_; (with_reducible refine (ware_shape_id.calls ((rd_T94 l0 x11_1).f0) ((rd_T94 l0 x11_1).f1.f0) ((rd_T94 l0 x11_1).f1.f1) ((rd_T94 l0 x11_1).f2.f0) ((rd_T94 l0 x11_1).f2.f1) ((rd_T94 l0 x11_1).f3.f0) ((rd_T94 l0 x11_1).f3.f1) ((rd_T94 l0 x11_1).f4) ((rd_T94 l0 x11_1).f5.f0) ((rd_T94 l0 x11_1).f5.f1) ((rd_T94 l0 x11_1).f6) t463 _ A7.out).mono ?_); rintro e w12 ⟨rfl, hb⟩; refine ⟨_, rfl, ?_⟩; replace BK460 := Aside0.mk (blk_below (g := gb460) (o := .cells #[.int .i64 x461000_1, .int .i64 x461001_1, .int .i64 x461002_1, .int .i64 x461003_1, .int .i64 x461004_1, .int .i64 x461005_1, .int .i64 x461006_1, .int .i64 x461007_1, .int .i64 x461008_1, .int .i64 x461009_1, .int .i64 x461010_1] 94 (0, 0)) (by (with_reducible repeat first | apply blk_drewN | apply blk_drew | apply blk_alloc); refine blk_far ?_ NB460_462.out _; (with_reducible repeat first | apply blk_drewN | apply blk_drew | apply blk_alloc); refine blk_far ?_ NB460_462.out _; (with_reducible repeat first | apply blk_drewN | apply blk_drew | apply blk_alloc); refine blk_far ?_ NB460_462.out _; (with_reducible repeat first | apply blk_drewN | apply blk_drew | apply blk_alloc); refine blk_far ?_ NB460_462.out _; (with_reducible repeat first | apply blk_drewN | apply blk_drew | apply blk_alloc); refine blk_far ?_ NB460_462.out _; (with_reducible repeat first | apply blk_drewN | apply blk_drew | apply blk_alloc); refine blk_far ?_ NB460_462.out _; (with_reducible repeat first | apply blk_drewN | apply blk_drew | apply blk_alloc); refine blk_far ?_ NB460_462.out _; (with_reducible repeat first | apply blk_drewN | apply blk_drew | apply blk_alloc); refine blk_far ?_ NB460_462.out _; (with_reducible repeat first | apply blk_drewN | apply blk_drew | apply blk_alloc); refine blk_far ?_ NB460_462.out _; (with_reducible repeat first | apply blk_drewN | apply blk_drew | apply blk_alloc); refine blk_far ?_ NB460_462.out _; (with_reducible repeat first | apply blk_drewN | apply blk_drew | apply blk_alloc); refine blk_far ?_ NB460_462.out _; (with_reducible repeat first | apply blk_drewN | apply blk_drew | apply blk_alloc); exact BK460.out) hb); replace BK462 := Aside0.mk (blk_below (g := gb462) (o := .cells #[.int .i64 ((rd_T94 l0 x11_1).f0), .int .i64 ((rd_T94 l0 x11_1).f1.f0), .int .i64 ((rd_T94 l0 x11_1).f1.f1), .int .i64 ((rd_T94 l0 x11_1).f2.f0), .int .i64 ((rd_T94 l0 x11_1).f2.f1), .int .i64 ((rd_T94 l0 x11_1).f3.f0), .int .i64 ((rd_T94 l0 x11_1).f3.f1), .int .i64 ((rd_T94 l0 x11_1).f4), .int .i64 ((rd_T94 l0 x11_1).f5.f0), .int .i64 ((rd_T94 l0 x11_1).f5.f1), .int .i64 ((rd_T94 l0 x11_1).f6)] 94 (0, 0)) (by (with_reducible repeat first | apply blk_drewN | apply blk_drew | apply blk_alloc); refine blk_put (cs := #[.int .i64 ((rd_T94 l0 x11_1).f0), .int .i64 ((rd_T94 l0 x11_1).f1.f0), .int .i64 ((rd_T94 l0 x11_1).f1.f1), .int .i64 ((rd_T94 l0 x11_1).f2.f0), .int .i64 ((rd_T94 l0 x11_1).f2.f1), .int .i64 ((rd_T94 l0 x11_1).f3.f0), .int .i64 ((rd_T94 l0 x11_1).f3.f1), .int .i64 ((rd_T94 l0 x11_1).f4), .int .i64 ((rd_T94 l0 x11_1).f5.f0), .int .i64 ((rd_T94 l0 x11_1).f5.f1), .int .i64 0]) ?_ 10 _ rfl; (with_reducible repeat first | apply blk_drewN | apply blk_drew | apply blk_alloc); refine blk_put (cs := #[.int .i64 ((rd_T94 l0 x11_1).f0), .int .i64 ((rd_T94 l0 x11_1).f1.f0), .int .i64 ((rd_T94 l0 x11_1).f1.f1), .int .i64 ((rd_T94 l0 x11_1).f2.f0), .int .i64 ((rd_T94 l0 x11_1).f2.f1), .int .i64 ((rd_T94 l0 x11_1).f3.f0), .int .i64 ((rd_T94 l0 x11_1).f3.f1), .int .i64 ((rd_T94 l0 x11_1).f4), .int .i64 ((rd_T94 l0 x11_1).f5.f0), .int .i64 0, .int .i64 0]) ?_ 9 _ rfl; (with_reducible repeat first | apply blk_drewN | apply blk_drew | apply blk_alloc); refine blk_put (cs := #[.int .i64 ((rd_T94 l0 x11_1).f0), .int .i64 ((rd_T94 l0 x11_1).f1.f0), .int .i64 ((rd_T94 l0 x11_1).f1.f1), .int .i64 ((rd_T94 l0 x11_1).f2.f0), .int .i64 ((rd_T94 l0 x11_1).f2.f1), .int .i64 ((rd_T94 l0 x11_1).f3.f0), .int .i64 ((rd_T94 l0 x11_1).f3.f1), .int .i64 ((rd_T94 l0 x11_1).f4), .int .i64 0, .int .i64 0, .int .i64 0]) ?_ 8 _ rfl; (with_reducible repeat first | apply blk_drewN | apply blk_drew | apply blk_alloc); refine blk_put (cs := #[.int .i64 ((rd_T94 l0 x11_1).f0), .int .i64 ((rd_T94 l0 x11_1).f1.f0), .int .i64 ((rd_T94 l0 x11_1).f1.f1), .int .i64 ((rd_T94 l0 x11_1).f2.f0), .int .i64 ((rd_T94 l0 x11_1).f2.f1), .int .i64 ((rd_T94 l0 x11_1).f3.f0), .int .i64 ((rd_T94 l0 x11_1).f3.f1), .int .i64 0, .int .i64 0, .int .i64 0, .int .i64 0]) ?_ 7 _ rfl; (with_reducible repeat first | apply blk_drewN | apply blk_drew | apply blk_alloc); refine blk_put (cs := #[.int .i64 ((rd_T94 l0 x11_1).f0), .int .i64 ((rd_T94 l0 x11_1).f1.f0), .int .i64 ((rd_T94 l0 x11_1).f1.f1), .int .i64 ((rd_T94 l0 x11_1).f2.f0), .int .i64 ((rd_T94 l0 x11_1).f2.f1), .int .i64 ((rd_T94 l0 x11_1).f3.f0), .int .i64 0, .int .i64 0, .int .i64 0, .int .i64 0, .int .i64 0]) ?_ 6 _ rfl; (with_reducible repeat first | apply blk_drewN | apply blk_drew | apply blk_alloc); refine blk_put (cs := #[.int .i64 ((rd_T94 l0 x11_1).f0), .int .i64 ((rd_T94 l0 x11_1).f1.f0), .int .i64 ((rd_T94 l0 x11_1).f1.f1), .int .i64 ((rd_T94 l0 x11_1).f2.f0), .int .i64 ((rd_T94 l0 x11_1).f2.f1), .int .i64 0, .int .i64 0, .int .i64 0, .int .i64 0, .int .i64 0, .int .i64 0]) ?_ 5 _ rfl; (with_reducible repeat first | apply blk_drewN | apply blk_drew | apply blk_alloc); refine blk_put (cs := #[.int .i64 ((rd_T94 l0 x11_1).f0), .int .i64 ((rd_T94 l0 x11_1).f1.f0), .int .i64 ((rd_T94 l0 x11_1).f1.f1), .int .i64 ((rd_T94 l0 x11_1).f2.f0), .int .i64 0, .int .i64 0, .int .i64 0, .int .i64 0, .int .i64 0, .int .i64 0, .int .i64 0]) ?_ 4 _ rfl; (with_reducible repeat first | apply blk_drewN | apply blk_drew | apply blk_alloc); refine blk_put (cs := #[.int .i64 ((rd_T94 l0 x11_1).f0), .int .i64 ((rd_T94 l0 x11_1).f1.f0), .int .i64 ((rd_T94 l0 x11_1).f1.f1), .int .i64 0, .int .i64 0, .int .i64 0, .int .i64 0, .int .i64 0, .int .i64 0, .int .i64 0, .int .i64 0]) ?_ 3 _ rfl; (with_reducible repeat first | apply blk_drewN | apply blk_drew | apply blk_alloc); refine blk_put (cs := #[.int .i64 ((rd_T94 l0 x11_1).f0), .int .i64 ((rd_T94 l0 x11_1).f1.f0), .int .i64 0, .int .i64 0, .int .i64 0, .int .i64 0, .int .i64 0, .int .i64 0, .int .i64 0, .int .i64 0, .int .i64 0]) ?_ 2 _ rfl; (with_reducible repeat first | apply blk_drewN | apply blk_drew | apply blk_alloc); refine blk_put (cs := #[.int .i64 ((rd_T94 l0 x11_1).f0), .int .i64 0, .int .i64 0, .int .i64 0, .int .i64 0, .int .i64 0, .int .i64 0, .int .i64 0, .int .i64 0, .int .i64 0, .int .i64 0]) ?_ 1 _ rfl; (with_reducible repeat first | apply blk_drewN | apply blk_drew | apply blk_alloc); refine blk_put (cs := #[.int .i64 0, .int .i64 0, .int .i64 0, .int .i64 0, .int .i64 0, .int .i64 0, .int .i64 0, .int .i64 0, .int .i64 0, .int .i64 0, .int .i64 0]) ?_ 0 _ rfl; (with_reducible repeat first | apply blk_drewN | apply blk_drew | apply blk_alloc); exact BK462.out) hb); replace HB := Aside0.mk (below_step (by repeat (first | (with_reducible first | exact HB.out | apply below_alloc | apply pw_below_drewN | apply below_drew1 | refine below_set ?_ GE460.out | refine below_set ?_ GE462.out) | exact HB.out)) hb); (try clear hb); (try clear hb2); (try clear hk); (try clear hi); obtain ⟨hcz13_0, hcz13_1, hcz13_2, hcz13_3, hcz13_4, hcz13_5, hcz13_6, hcz13_7, hcz13_8, hcz13_9, hcz13_10⟩ := cells11 BK462.out; obtain ⟨hfz13_0, hfz13_1, hfz13_2, hfz13_3, hfz13_4, hfz13_5, hfz13_6, hfz13_7, hfz13_8, hfz13_9, hfz13_10⟩ := froz11 BK462.out; obtain ⟨hcz14_0, hcz14_1, hcz14_2, hcz14_3, hcz14_4, hcz14_5, hcz14_6, hcz14_7, hcz14_8, hcz14_9, hcz14_10⟩ := cells11 BK460.out; obtain ⟨hfz14_0, hfz14_1, hfz14_2, hfz14_3, hfz14_4, hfz14_5, hfz14_6, hfz14_7, hfz14_8, hfz14_9, hfz14_10⟩ := froz11 BK460.out))
              refine bodyPost_ret (results_ct rfl _ _ gb460 94 #[.int .i64 ((rd_T94 l0 x11_1).f0), .int .i64 ((rd_T94 l0 x11_1).f1.f0), .int .i64 ((rd_T94 l0 x11_1).f1.f1), .int .i64 ((rd_T94 l0 x11_1).f2.f0), .int .i64 ((rd_T94 l0 x11_1).f2.f1), .int .i64 ((rd_T94 l0 x11_1).f3.f0), .int .i64 ((rd_T94 l0 x11_1).f3.f1), .int .i64 ((rd_T94 l0 x11_1).f4), .int .i64 ((rd_T94 l0 x11_1).f5.f0), .int .i64 ((rd_T94 l0 x11_1).f5.f1), .int .i64 ((rd_T94 l0 x11_1).f6)] (0, 0) _ rfl (by (with_reducible repeat first | apply blk_drewN | apply blk_drew | apply blk_alloc); refine blk_put (cs := #[.int .i64 ((rd_T94 l0 x11_1).f0), .int .i64 ((rd_T94 l0 x11_1).f1.f0), .int .i64 ((rd_T94 l0 x11_1).f1.f1), .int .i64 ((rd_T94 l0 x11_1).f2.f0), .int .i64 ((rd_T94 l0 x11_1).f2.f1), .int .i64 ((rd_T94 l0 x11_1).f3.f0), .int .i64 ((rd_T94 l0 x11_1).f3.f1), .int .i64 ((rd_T94 l0 x11_1).f4), .int .i64 ((rd_T94 l0 x11_1).f5.f0), .int .i64 ((rd_T94 l0 x11_1).f5.f1), .int .i64 x461010_1]) ?_ 10 _ rfl; (with_reducible repeat first | apply blk_drewN | apply blk_drew | apply blk_alloc); refine blk_put (cs := #[.int .i64 ((rd_T94 l0 x11_1).f0), .int .i64 ((rd_T94 l0 x11_1).f1.f0), .int .i64 ((rd_T94 l0 x11_1).f1.f1), .int .i64 ((rd_T94 l0 x11_1).f2.f0), .int .i64 ((rd_T94 l0 x11_1).f2.f1), .int .i64 ((rd_T94 l0 x11_1).f3.f0), .int .i64 ((rd_T94 l0 x11_1).f3.f1), .int .i64 ((rd_T94 l0 x11_1).f4), .int .i64 ((rd_T94 l0 x11_1).f5.f0), .int .i64 x461009_1, .int .i64 x461010_1]) ?_ 9 _ rfl; (with_reducible repeat first | apply blk_drewN | apply blk_drew | apply blk_alloc); refine blk_put (cs := #[.int .i64 ((rd_T94 l0 x11_1).f0), .int .i64 ((rd_T94 l0 x11_1).f1.f0), .int .i64 ((rd_T94 l0 x11_1).f1.f1), .int .i64 ((rd_T94 l0 x11_1).f2.f0), .int .i64 ((rd_T94 l0 x11_1).f2.f1), .int .i64 ((rd_T94 l0 x11_1).f3.f0), .int .i64 ((rd_T94 l0 x11_1).f3.f1), .int .i64 ((rd_T94 l0 x11_1).f4), .int .i64 x461008_1, .int .i64 x461009_1, .int .i64 x461010_1]) ?_ 8 _ rfl; (with_reducible repeat first | apply blk_drewN | apply blk_drew | apply blk_alloc); refine blk_put (cs := #[.int .i64 ((rd_T94 l0 x11_1).f0), .int .i64 ((rd_T94 l0 x11_1).f1.f0), .int .i64 ((rd_T94 l0 x11_1).f1.f1), .int .i64 ((rd_T94 l0 x11_1).f2.f0), .int .i64 ((rd_T94 l0 x11_1).f2.f1), .int .i64 ((rd_T94 l0 x11_1).f3.f0), .int .i64 ((rd_T94 l0 x11_1).f3.f1), .int .i64 x461007_1, .int .i64 x461008_1, .int .i64 x461009_1, .int .i64 x461010_1]) ?_ 7 _ rfl; (with_reducible repeat first | apply blk_drewN | apply blk_drew | apply blk_alloc); refine blk_put (cs := #[.int .i64 ((rd_T94 l0 x11_1).f0), .int .i64 ((rd_T94 l0 x11_1).f1.f0), .int .i64 ((rd_T94 l0 x11_1).f1.f1), .int .i64 ((rd_T94 l0 x11_1).f2.f0), .int .i64 ((rd_T94 l0 x11_1).f2.f1), .int .i64 ((rd_T94 l0 x11_1).f3.f0), .int .i64 x461006_1, .int .i64 x461007_1, .int .i64 x461008_1, .int .i64 x461009_1, .int .i64 x461010_1]) ?_ 6 _ rfl; (with_reducible repeat first | apply blk_drewN | apply blk_drew | apply blk_alloc); refine blk_put (cs := #[.int .i64 ((rd_T94 l0 x11_1).f0), .int .i64 ((rd_T94 l0 x11_1).f1.f0), .int .i64 ((rd_T94 l0 x11_1).f1.f1), .int .i64 ((rd_T94 l0 x11_1).f2.f0), .int .i64 ((rd_T94 l0 x11_1).f2.f1), .int .i64 x461005_1, .int .i64 x461006_1, .int .i64 x461007_1, .int .i64 x461008_1, .int .i64 x461009_1, .int .i64 x461010_1]) ?_ 5 _ rfl; (with_reducible repeat first | apply blk_drewN | apply blk_drew | apply blk_alloc); refine blk_put (cs := #[.int .i64 ((rd_T94 l0 x11_1).f0), .int .i64 ((rd_T94 l0 x11_1).f1.f0), .int .i64 ((rd_T94 l0 x11_1).f1.f1), .int .i64 ((rd_T94 l0 x11_1).f2.f0), .int .i64 x461004_1, .int .i64 x461005_1, .int .i64 x461006_1, .int .i64 x461007_1, .int .i64 x461008_1, .int .i64 x461009_1, .int .i64 x461010_1]) ?_ 4 _ rfl; (with_reducible repeat first | apply blk_drewN | apply blk_drew | apply blk_alloc); refine blk_put (cs := #[.int .i64 ((rd_T94 l0 x11_1).f0), .int .i64 ((rd_T94 l0 x11_1).f1.f0), .int .i64 ((rd_T94 l0 x11_1).f1.f1), .int .i64 x461003_1, .int .i64 x461004_1, .int .i64 x461005_1, .int .i64 x461006_1, .int .i64 x461007_1, .int .i64 x461008_1, .int .i64 x461009_1, .int .i64 x461010_1]) ?_ 3 _ rfl; (with_reducible repeat first | apply blk_drewN | apply blk_drew | apply blk_alloc); refine blk_put (cs := #[.int .i64 ((rd_T94 l0 x11_1).f0), .int .i64 ((rd_T94 l0 x11_1).f1.f0), .int .i64 x461002_1, .int .i64 x461003_1, .int .i64 x461004_1, .int .i64 x461005_1, .int .i64 x461006_1, .int .i64 x461007_1, .int .i64 x461008_1, .int .i64 x461009_1, .int .i64 x461010_1]) ?_ 2 _ rfl; (with_reducible repeat first | apply blk_drewN | apply blk_drew | apply blk_alloc); refine blk_put (cs := #[.int .i64 ((rd_T94 l0 x11_1).f0), .int .i64 x461001_1, .int .i64 x461002_1, .int .i64 x461003_1, .int .i64 x461004_1, .int .i64 x461005_1, .int .i64 x461006_1, .int .i64 x461007_1, .int .i64 x461008_1, .int .i64 x461009_1, .int .i64 x461010_1]) ?_ 1 _ rfl; (with_reducible repeat first | apply blk_drewN | apply blk_drew | apply blk_alloc); refine blk_put (cs := #[.int .i64 x461000_1, .int .i64 x461001_1, .int .i64 x461002_1, .int .i64 x461003_1, .int .i64 x461004_1, .int .i64 x461005_1, .int .i64 x461006_1, .int .i64 x461007_1, .int .i64 x461008_1, .int .i64 x461009_1, .int .i64 x461010_1]) ?_ 0 _ rfl; (with_reducible repeat first | apply blk_drewN | apply blk_drew | apply blk_alloc); exact BK460.out) Try.underlying94 rfl (by kernel_rfl)) rfl ?_
              exact ⟨by first | rfl | (simp [errW_none, errW_some] <;> rfl) | (simp [*, errW_none, errW_some] <;> rfl), by repeat (first | (with_reducible first | exact HB.out | apply below_alloc | apply pw_below_drewN | apply below_drew1 | refine below_set ?_ GE460.out | refine below_set ?_ GE462.out) | exact HB.out)⟩
            · rw [if_neg c8] at H
              have c8b0 : (t463 == a1) = false := beq_eq_false_iff_ne.mpr c8
              have c8b1 : (t463 != a1) = true := bne_iff_ne.mpr c8
              have H' := Aside0.mk H
              clear H
              have p461 : 0 ≤ (x11_1 : Int) := of_decide_eq_true (by first | (with_reducible assumption) | assumption)
              have q461 : x11_1 < (l0.length : Int) := of_decide_eq_true (by first | (with_reducible assumption) | assumption)
              obtain ⟨ad461, e461, hx461_0, hx461_1, hx461_2, hx461_3, hx461_4, hx461_5, hx461_6, hx461_7, hx461_8, hx461_9, hx461_10⟩ := at_T94 HR0.out x11_1 p461 q461
              cases e461
              replace hx461_0 := (HB.out.cell (World.block_lt_of_cell? w _ hx461_0)).trans hx461_0
              replace hx461_1 := (HB.out.cell (World.block_lt_of_cell? w _ hx461_1)).trans hx461_1
              replace hx461_2 := (HB.out.cell (World.block_lt_of_cell? w _ hx461_2)).trans hx461_2
              replace hx461_3 := (HB.out.cell (World.block_lt_of_cell? w _ hx461_3)).trans hx461_3
              replace hx461_4 := (HB.out.cell (World.block_lt_of_cell? w _ hx461_4)).trans hx461_4
              replace hx461_5 := (HB.out.cell (World.block_lt_of_cell? w _ hx461_5)).trans hx461_5
              replace hx461_6 := (HB.out.cell (World.block_lt_of_cell? w _ hx461_6)).trans hx461_6
              replace hx461_7 := (HB.out.cell (World.block_lt_of_cell? w _ hx461_7)).trans hx461_7
              replace hx461_8 := (HB.out.cell (World.block_lt_of_cell? w _ hx461_8)).trans hx461_8
              replace hx461_9 := (HB.out.cell (World.block_lt_of_cell? w _ hx461_9)).trans hx461_9
              replace hx461_10 := (HB.out.cell (World.block_lt_of_cell? w _ hx461_10)).trans hx461_10
              replace p461 := eq_true p461
              replace q461 := eq_true q461
              go_wp2_with (first | ((with_reducible refine gate_dst (N := 7) rfl ?_); refine box_event ?hg (N := 7) ?hd (cs := #[.int .i64 0, .int .i64 0, .int .i64 0, .int .i64 0, .int .i64 0, .int .i64 0, .int .i64 0, .int .i64 0, .int .i64 0, .int .i64 0, .int .i64 0]) (t := 94) ?hr ?_; (case hd => rfl); (case hg => rfl); (case hr => first | (go_simp; done) | (go_simp; rfl)); intro gb462 hg w15 hbox hb; have BK462 := Aside0.mk (hbox); have GW462 := Aside0.mk ((by rw [hg]; exact (below_size (by repeat (first | (with_reducible first | exact HB.out | apply below_alloc | apply pw_below_drewN | apply below_drew1 | refine below_set ?_ GE460.out) | exact HB.out))) : w.heap.size ≤ gb462)); have GE462 := Aside0.mk ((by rw [hg]; exact (below_size (by repeat (first | (with_reducible first | exact HB.out | apply below_alloc | apply pw_below_drewN | apply below_drew1 | refine below_set ?_ GE460.out) | exact HB.out))) : w.heap.size ≤ gb462)); replace HB := Aside0.mk (below_step (by repeat (first | (with_reducible first | exact HB.out | apply below_alloc | apply pw_below_drewN | apply below_drew1 | refine below_set ?_ GE460.out) | exact HB.out)) hb); have NB460_462 := Aside0.mk ((by rw [hg]; exact Nat.ne_of_lt (blk_lt (g := gb460) (o := .cells #[.int .i64 x461000_1, .int .i64 x461001_1, .int .i64 x461002_1, .int .i64 x461003_1, .int .i64 x461004_1, .int .i64 x461005_1, .int .i64 x461006_1, .int .i64 x461007_1, .int .i64 x461008_1, .int .i64 x461009_1, .int .i64 x461010_1] 94 (0, 0)) (by (with_reducible repeat first | apply blk_drewN | apply blk_drew | apply blk_alloc); exact BK460.out)) : gb460 ≠ gb462)); have NB462_460 := Aside0.mk ((by rw [hg]; exact Nat.ne_of_gt (blk_lt (g := gb460) (o := .cells #[.int .i64 x461000_1, .int .i64 x461001_1, .int .i64 x461002_1, .int .i64 x461003_1, .int .i64 x461004_1, .int .i64 x461005_1, .int .i64 x461006_1, .int .i64 x461007_1, .int .i64 x461008_1, .int .i64 x461009_1, .int .i64 x461010_1] 94 (0, 0)) (by (with_reducible repeat first | apply blk_drewN | apply blk_drew | apply blk_alloc); exact BK460.out)) : gb462 ≠ gb460)); replace BK460 := blkE BK460 hb; clear hb hbox hg; have hnb16 := NB462_460.out; have hnc16 := NB460_462.out; obtain ⟨hcz17_0, hcz17_1, hcz17_2, hcz17_3, hcz17_4, hcz17_5, hcz17_6, hcz17_7, hcz17_8, hcz17_9, hcz17_10⟩ := cells11 BK462.out; obtain ⟨hfz17_0, hfz17_1, hfz17_2, hfz17_3, hfz17_4, hfz17_5, hfz17_6, hfz17_7, hfz17_8, hfz17_9, hfz17_10⟩ := froz11 BK462.out) | ((with_reducible refine gate_invoke (name := "potbank/ware.id") rfl ?_); refine invL_ (some 17) rfl rfl 153 #[.agg #[.int .i64 ((rd_T94 l0 x11_1).f0), .int .i64 ((rd_T94 l0 x11_1).f1.f0), .int .i64 ((rd_T94 l0 x11_1).f1.f1), .int .i64 ((rd_T94 l0 x11_1).f2.f0), .int .i64 ((rd_T94 l0 x11_1).f2.f1), .int .i64 ((rd_T94 l0 x11_1).f3.f0), .int .i64 ((rd_T94 l0 x11_1).f3.f1), .int .i64 ((rd_T94 l0 x11_1).f4), .int .i64 ((rd_T94 l0 x11_1).f5.f0), .int .i64 ((rd_T94 l0 x11_1).f5.f1), .int .i64 ((rd_T94 l0 x11_1).f6)]] (exec_invoke rfl rfl (mi70_94 _ _)) ?_; (with_reducible refine (ware_shape_id.calls ((rd_T94 l0 x11_1).f0) ((rd_T94 l0 x11_1).f1.f0) ((rd_T94 l0 x11_1).f1.f1) ((rd_T94 l0 x11_1).f2.f0) ((rd_T94 l0 x11_1).f2.f1) ((rd_T94 l0 x11_1).f3.f0) ((rd_T94 l0 x11_1).f3.f1) ((rd_T94 l0 x11_1).f4) ((rd_T94 l0 x11_1).f5.f0) ((rd_T94 l0 x11_1).f5.f1) ((rd_T94 l0 x11_1).f6) t463 _ A7.out).mono ?_); rintro e w18 ⟨rfl, hb⟩; refine ⟨_, rfl, ?_⟩; replace BK460 := Aside0.mk (blk_below (g := gb460) (o := .cells #[.int .i64 x461000_1, .int .i64 x461001_1, .int .i64 x461002_1, .int .i64 x461003_1, .int .i64 x461004_1, .int .i64 x461005_1, .int .i64 x461006_1, .int .i64 x461007_1, .int .i64 x461008_1, .int .i64 x461009_1, .int .i64 x461010_1] 94 (0, 0)) (by (with_reducible repeat first | apply blk_drewN | apply blk_drew | apply blk_alloc); refine blk_far ?_ NB460_462.out _; (with_reducible repeat first | apply blk_drewN | apply blk_drew | apply blk_alloc); refine blk_far ?_ NB460_462.out _; (with_reducible repeat first | apply blk_drewN | apply blk_drew | apply blk_alloc); refine blk_far ?_ NB460_462.out _; (with_reducible repeat first | apply blk_drewN | apply blk_drew | apply blk_alloc); refine blk_far ?_ NB460_462.out _; (with_reducible repeat first | apply blk_drewN | apply blk_drew | apply blk_alloc); refine blk_far ?_ NB460_462.out _; (with_reducible repeat first | apply blk_drewN | apply blk_drew | apply blk_alloc); refine blk_far ?_ NB460_462.out _; (with_reducible repeat first | apply blk_drewN | apply blk_drew | apply blk_alloc); refine blk_far ?_ NB460_462.out _; (with_reducible repeat first | apply blk_drewN | apply blk_drew | apply blk_alloc); refine blk_far ?_ NB460_462.out _; (with_reducible repeat first | apply blk_drewN | apply blk_drew | apply blk_alloc); refine blk_far ?_ NB460_462.out _; (with_reducible repeat first | apply blk_drewN | apply blk_drew | apply blk_alloc); refine blk_far ?_ NB460_462.out _; (with_reducible repeat first | apply blk_drewN | apply blk_drew | apply blk_alloc); refine blk_far ?_ NB460_462.out _; (with_reducible repeat first | apply blk_drewN | apply blk_drew | apply blk_alloc); exact BK460.out) hb); replace BK462 := Aside0.mk (blk_below (g := gb462) (o := .cells #[.int .i64 ((rd_T94 l0 x11_1).f0), .int .i64 ((rd_T94 l0 x11_1).f1.f0), .int .i64 ((rd_T94 l0 x11_1).f1.f1), .int .i64 ((rd_T94 l0 x11_1).f2.f0), .int .i64 ((rd_T94 l0 x11_1).f2.f1), .int .i64 ((rd_T94 l0 x11_1).f3.f0), .int .i64 ((rd_T94 l0 x11_1).f3.f1), .int .i64 ((rd_T94 l0 x11_1).f4), .int .i64 ((rd_T94 l0 x11_1).f5.f0), .int .i64 ((rd_T94 l0 x11_1).f5.f1), .int .i64 ((rd_T94 l0 x11_1).f6)] 94 (0, 0)) (by (with_reducible repeat first | apply blk_drewN | apply blk_drew | apply blk_alloc); refine blk_put (cs := #[.int .i64 ((rd_T94 l0 x11_1).f0), .int .i64 ((rd_T94 l0 x11_1).f1.f0), .int .i64 ((rd_T94 l0 x11_1).f1.f1), .int .i64 ((rd_T94 l0 x11_1).f2.f0), .int .i64 ((rd_T94 l0 x11_1).f2.f1), .int .i64 ((rd_T94 l0 x11_1).f3.f0), .int .i64 ((rd_T94 l0 x11_1).f3.f1), .int .i64 ((rd_T94 l0 x11_1).f4), .int .i64 ((rd_T94 l0 x11_1).f5.f0), .int .i64 ((rd_T94 l0 x11_1).f5.f1), .int .i64 0]) ?_ 10 _ rfl; (with_reducible repeat first | apply blk_drewN | apply blk_drew | apply blk_alloc); refine blk_put (cs := #[.int .i64 ((rd_T94 l0 x11_1).f0), .int .i64 ((rd_T94 l0 x11_1).f1.f0), .int .i64 ((rd_T94 l0 x11_1).f1.f1), .int .i64 ((rd_T94 l0 x11_1).f2.f0), .int .i64 ((rd_T94 l0 x11_1).f2.f1), .int .i64 ((rd_T94 l0 x11_1).f3.f0), .int .i64 ((rd_T94 l0 x11_1).f3.f1), .int .i64 ((rd_T94 l0 x11_1).f4), .int .i64 ((rd_T94 l0 x11_1).f5.f0), .int .i64 0, .int .i64 0]) ?_ 9 _ rfl; (with_reducible repeat first | apply blk_drewN | apply blk_drew | apply blk_alloc); refine blk_put (cs := #[.int .i64 ((rd_T94 l0 x11_1).f0), .int .i64 ((rd_T94 l0 x11_1).f1.f0), .int .i64 ((rd_T94 l0 x11_1).f1.f1), .int .i64 ((rd_T94 l0 x11_1).f2.f0), .int .i64 ((rd_T94 l0 x11_1).f2.f1), .int .i64 ((rd_T94 l0 x11_1).f3.f0), .int .i64 ((rd_T94 l0 x11_1).f3.f1), .int .i64 ((rd_T94 l0 x11_1).f4), .int .i64 0, .int .i64 0, .int .i64 0]) ?_ 8 _ rfl; (with_reducible repeat first | apply blk_drewN | apply blk_drew | apply blk_alloc); refine blk_put (cs := #[.int .i64 ((rd_T94 l0 x11_1).f0), .int .i64 ((rd_T94 l0 x11_1).f1.f0), .int .i64 ((rd_T94 l0 x11_1).f1.f1), .int .i64 ((rd_T94 l0 x11_1).f2.f0), .int .i64 ((rd_T94 l0 x11_1).f2.f1), .int .i64 ((rd_T94 l0 x11_1).f3.f0), .int .i64 ((rd_T94 l0 x11_1).f3.f1), .int .i64 0, .int .i64 0, .int .i64 0, .int .i64 0]) ?_ 7 _ rfl; (with_reducible repeat first | apply blk_drewN | apply blk_drew | apply blk_alloc); refine blk_put (cs := #[.int .i64 ((rd_T94 l0 x11_1).f0), .int .i64 ((rd_T94 l0 x11_1).f1.f0), .int .i64 ((rd_T94 l0 x11_1).f1.f1), .int .i64 ((rd_T94 l0 x11_1).f2.f0), .int .i64 ((rd_T94 l0 x11_1).f2.f1), .int .i64 ((rd_T94 l0 x11_1).f3.f0), .int .i64 0, .int .i64 0, .int .i64 0, .int .i64 0, .int .i64 0]) ?_ 6 _ rfl; (with_reducible repeat first | apply blk_drewN | apply blk_drew | apply blk_alloc); refine blk_put (cs := #[.int .i64 ((rd_T94 l0 x11_1).f0), .int .i64 ((rd_T94 l0 x11_1).f1.f0), .int .i64 ((rd_T94 l0 x11_1).f1.f1), .int .i64 ((rd_T94 l0 x11_1).f2.f0), .int .i64 ((rd_T94 l0 x11_1).f2.f1), .int .i64 0, .int .i64 0, .int .i64 0, .int .i64 0, .int .i64 0, .int .i64 0]) ?_ 5 _ rfl; (with_reducible repeat first | apply blk_drewN | apply blk_drew | apply blk_alloc); refine blk_put (cs := #[.int .i64 ((rd_T94 l0 x11_1).f0), .int .i64 ((rd_T94 l0 x11_1).f1.f0), .int .i64 ((rd_T94 l0 x11_1).f1.f1), .int .i64 ((rd_T94 l0 x11_1).f2.f0), .int .i64 0, .int .i64 0, .int .i64 0, .int .i64 0, .int .i64 0, .int .i64 0, .int .i64 0]) ?_ 4 _ rfl; (with_reducible repeat first | apply blk_drewN | apply blk_drew | apply blk_alloc); refine blk_put (cs := #[.int .i64 ((rd_T94 l0 x11_1).f0), .int .i64 ((rd_T94 l0 x11_1).f1.f0), .int .i64 ((rd_T94 l0 x11_1).f1.f1), .int .i64 0, .int .i64 0, .int .i64 0, .int .i64 0, .int .i64 0, .int .i64 0, .int .i64 0, .int .i64 0]) ?_ 3 _ rfl; (with_reducible repeat first | apply blk_drewN | apply blk_drew | apply blk_alloc); refine blk_put (cs := #[.int .i64 ((rd_T94 l0 x11_1).f0), .int .i64 ((rd_T94 l0 x11_1).f1.f0), .int .i64 0, .int .i64 0, .int .i64 0, .int .i64 0, .int .i64 0, .int .i64 0, .int .i64 0, .int .i64 0, .int .i64 0]) ?_ 2 _ rfl; (with_reducible repeat first | apply blk_drewN | apply blk_drew | apply blk_alloc); refine blk_put (cs := #[.int .i64 ((rd_T94 l0 x11_1).f0), .int .i64 0, .int .i64 0, .int .i64 0, .int .i64 0, .int .i64 0, .int .i64 0, .int .i64 0, .int .i64 0, .int .i64 0, .int .i64 0]) ?_ 1 _ rfl; (with_reducible repeat first | apply blk_drewN | apply blk_drew | apply blk_alloc); refine blk_put (cs := #[.int .i64 0, .int .i64 0, .int .i64 0, .int .i64 0, .int .i64 0, .int .i64 0, .int .i64 0, .int .i64 0, .int .i64 0, .int .i64 0, .int .i64 0]) ?_ 0 _ rfl; (with_reducible repeat first | apply blk_drewN | apply blk_drew | apply blk_alloc); exact BK462.out) hb); replace HB := Aside0.mk (below_step (by repeat (first | (with_reducible first | exact HB.out | apply below_alloc | apply pw_below_drewN | apply below_drew1 | refine below_set ?_ GE460.out | refine below_set ?_ GE462.out) | exact HB.out)) hb); (try clear hb); (try clear hb2); (try clear hk); (try clear hi)))
              go_roundg k1
              case measure => have := HK1.out; omega
              case rel => exact ⟨(wrap64 (x11_1 + 1)), (x461000_1), (x461001_1), (x461002_1), (x461003_1), (x461004_1), (x461005_1), (x461006_1), (x461007_1), (x461008_1), (x461009_1), (x461010_1), (by first | rfl | (simp; done) | (simp [*]; done)), H', ⟨by have := HK1.out; omega⟩, ⟨by (with_reducible repeat first | apply blk_drewN | apply blk_drew | apply blk_alloc); exact BK460.out⟩, ⟨by repeat (first | (with_reducible first | exact HB.out | apply below_alloc | apply pw_below_drewN | apply below_drew1 | refine below_set ?_ GE460.out | refine below_set ?_ GE462.out) | exact HB.out)⟩⟩
          · rw [if_neg c6] at H
            exact absurd H (by simp)
        · rw [if_neg c5] at H
          exact absurd H (by simp)
      · rw [if_neg c4] at H
        have c4b0 : decide (x11_1 < (l0.length : Int)) = false := decide_eq_false c4
        clear c4
        simp only [Option.some.injEq, Prod.mk.injEq] at H
        obtain ⟨rfl, rfl, rfl, rfl, rfl, rfl, rfl, rfl, rfl, rfl, rfl, rfl⟩ := H
        go_wp2_with (first | ((with_reducible refine gate_dst (N := 8) rfl ?_); refine box_event ?hg (N := 8) ?hd (cs := #[.int .i64 0, .int .i64 0, .int .i64 0, .int .i64 0, .int .i64 0, .int .i64 0, .int .i64 0, .int .i64 0, .int .i64 0, .int .i64 0, .int .i64 0]) (t := 94) ?hr ?_; (case hd => rfl); (case hg => rfl); (case hr => first | (go_simp; done) | (go_simp; rfl)); intro gb464 hg w19 hbox hb; have BK464 := Aside0.mk (hbox); have GW464 := Aside0.mk ((by rw [hg]; exact (below_size (by repeat (first | (with_reducible first | exact HB.out | apply below_alloc | apply pw_below_drewN | apply below_drew1 | refine below_set ?_ GE460.out) | exact HB.out))) : w.heap.size ≤ gb464)); have GE464 := Aside0.mk ((by rw [hg]; exact (below_size (by repeat (first | (with_reducible first | exact HB.out | apply below_alloc | apply pw_below_drewN | apply below_drew1 | refine below_set ?_ GE460.out) | exact HB.out))) : w.heap.size ≤ gb464)); replace HB := Aside0.mk (below_step (by repeat (first | (with_reducible first | exact HB.out | apply below_alloc | apply pw_below_drewN | apply below_drew1 | refine below_set ?_ GE460.out) | exact HB.out)) hb); have NB460_464 := Aside0.mk ((by rw [hg]; exact Nat.ne_of_lt (blk_lt (g := gb460) (o := .cells #[.int .i64 x461000_1, .int .i64 x461001_1, .int .i64 x461002_1, .int .i64 x461003_1, .int .i64 x461004_1, .int .i64 x461005_1, .int .i64 x461006_1, .int .i64 x461007_1, .int .i64 x461008_1, .int .i64 x461009_1, .int .i64 x461010_1] 94 (0, 0)) (by (with_reducible repeat first | apply blk_drewN | apply blk_drew | apply blk_alloc); exact BK460.out)) : gb460 ≠ gb464)); have NB464_460 := Aside0.mk ((by rw [hg]; exact Nat.ne_of_gt (blk_lt (g := gb460) (o := .cells #[.int .i64 x461000_1, .int .i64 x461001_1, .int .i64 x461002_1, .int .i64 x461003_1, .int .i64 x461004_1, .int .i64 x461005_1, .int .i64 x461006_1, .int .i64 x461007_1, .int .i64 x461008_1, .int .i64 x461009_1, .int .i64 x461010_1] 94 (0, 0)) (by (with_reducible repeat first | apply blk_drewN | apply blk_drew | apply blk_alloc); exact BK460.out)) : gb464 ≠ gb460)); replace BK460 := blkE BK460 hb; clear hb hbox hg; have hnb20 := NB464_460.out; have hnc20 := NB460_464.out; obtain ⟨hcz21_0, hcz21_1, hcz21_2, hcz21_3, hcz21_4, hcz21_5, hcz21_6, hcz21_7, hcz21_8, hcz21_9, hcz21_10⟩ := cells11 BK464.out; obtain ⟨hfz21_0, hfz21_1, hfz21_2, hfz21_3, hfz21_4, hfz21_5, hfz21_6, hfz21_7, hfz21_8, hfz21_9, hfz21_10⟩ := froz11 BK464.out; obtain ⟨hcz22_0, hcz22_1, hcz22_2, hcz22_3, hcz22_4, hcz22_5, hcz22_6, hcz22_7, hcz22_8, hcz22_9, hcz22_10⟩ := cells11 BK460.out; obtain ⟨hfz22_0, hfz22_1, hfz22_2, hfz22_3, hfz22_4, hfz22_5, hfz22_6, hfz22_7, hfz22_8, hfz22_9, hfz22_10⟩ := froz11 BK460.out))
        refine bodyPost_ret (results_ct rfl _ _ gb460 94 #[.int .i64 0, .int .i64 0, .int .i64 0, .int .i64 0, .int .i64 0, .int .i64 0, .int .i64 0, .int .i64 0, .int .i64 0, .int .i64 0, .int .i64 0] (0, 0) _ rfl (by (with_reducible repeat first | apply blk_drewN | apply blk_drew | apply blk_alloc); refine blk_put (cs := #[.int .i64 0, .int .i64 0, .int .i64 0, .int .i64 0, .int .i64 0, .int .i64 0, .int .i64 0, .int .i64 0, .int .i64 0, .int .i64 0, .int .i64 x461010_1]) ?_ 10 _ rfl; (with_reducible repeat first | apply blk_drewN | apply blk_drew | apply blk_alloc); refine blk_put (cs := #[.int .i64 0, .int .i64 0, .int .i64 0, .int .i64 0, .int .i64 0, .int .i64 0, .int .i64 0, .int .i64 0, .int .i64 0, .int .i64 x461009_1, .int .i64 x461010_1]) ?_ 9 _ rfl; (with_reducible repeat first | apply blk_drewN | apply blk_drew | apply blk_alloc); refine blk_put (cs := #[.int .i64 0, .int .i64 0, .int .i64 0, .int .i64 0, .int .i64 0, .int .i64 0, .int .i64 0, .int .i64 0, .int .i64 x461008_1, .int .i64 x461009_1, .int .i64 x461010_1]) ?_ 8 _ rfl; (with_reducible repeat first | apply blk_drewN | apply blk_drew | apply blk_alloc); refine blk_put (cs := #[.int .i64 0, .int .i64 0, .int .i64 0, .int .i64 0, .int .i64 0, .int .i64 0, .int .i64 0, .int .i64 x461007_1, .int .i64 x461008_1, .int .i64 x461009_1, .int .i64 x461010_1]) ?_ 7 _ rfl; (with_reducible repeat first | apply blk_drewN | apply blk_drew | apply blk_alloc); refine blk_put (cs := #[.int .i64 0, .int .i64 0, .int .i64 0, .int .i64 0, .int .i64 0, .int .i64 0, .int .i64 x461006_1, .int .i64 x461007_1, .int .i64 x461008_1, .int .i64 x461009_1, .int .i64 x461010_1]) ?_ 6 _ rfl; (with_reducible repeat first | apply blk_drewN | apply blk_drew | apply blk_alloc); refine blk_put (cs := #[.int .i64 0, .int .i64 0, .int .i64 0, .int .i64 0, .int .i64 0, .int .i64 x461005_1, .int .i64 x461006_1, .int .i64 x461007_1, .int .i64 x461008_1, .int .i64 x461009_1, .int .i64 x461010_1]) ?_ 5 _ rfl; (with_reducible repeat first | apply blk_drewN | apply blk_drew | apply blk_alloc); refine blk_put (cs := #[.int .i64 0, .int .i64 0, .int .i64 0, .int .i64 0, .int .i64 x461004_1, .int .i64 x461005_1, .int .i64 x461006_1, .int .i64 x461007_1, .int .i64 x461008_1, .int .i64 x461009_1, .int .i64 x461010_1]) ?_ 4 _ rfl; (with_reducible repeat first | apply blk_drewN | apply blk_drew | apply blk_alloc); refine blk_put (cs := #[.int .i64 0, .int .i64 0, .int .i64 0, .int .i64 x461003_1, .int .i64 x461004_1, .int .i64 x461005_1, .int .i64 x461006_1, .int .i64 x461007_1, .int .i64 x461008_1, .int .i64 x461009_1, .int .i64 x461010_1]) ?_ 3 _ rfl; (with_reducible repeat first | apply blk_drewN | apply blk_drew | apply blk_alloc); refine blk_put (cs := #[.int .i64 0, .int .i64 0, .int .i64 x461002_1, .int .i64 x461003_1, .int .i64 x461004_1, .int .i64 x461005_1, .int .i64 x461006_1, .int .i64 x461007_1, .int .i64 x461008_1, .int .i64 x461009_1, .int .i64 x461010_1]) ?_ 2 _ rfl; (with_reducible repeat first | apply blk_drewN | apply blk_drew | apply blk_alloc); refine blk_put (cs := #[.int .i64 0, .int .i64 x461001_1, .int .i64 x461002_1, .int .i64 x461003_1, .int .i64 x461004_1, .int .i64 x461005_1, .int .i64 x461006_1, .int .i64 x461007_1, .int .i64 x461008_1, .int .i64 x461009_1, .int .i64 x461010_1]) ?_ 1 _ rfl; (with_reducible repeat first | apply blk_drewN | apply blk_drew | apply blk_alloc); refine blk_put (cs := #[.int .i64 x461000_1, .int .i64 x461001_1, .int .i64 x461002_1, .int .i64 x461003_1, .int .i64 x461004_1, .int .i64 x461005_1, .int .i64 x461006_1, .int .i64 x461007_1, .int .i64 x461008_1, .int .i64 x461009_1, .int .i64 x461010_1]) ?_ 0 _ rfl; (with_reducible repeat first | apply blk_drewN | apply blk_drew | apply blk_alloc); exact BK460.out) Try.underlying94 rfl (by kernel_rfl)) rfl ?_
        exact ⟨by first | rfl | (simp [errW_none, errW_some] <;> rfl) | (simp [*, errW_none, errW_some] <;> rfl), by repeat (first | (with_reducible first | exact HB.out | apply below_alloc | apply pw_below_drewN | apply below_drew1 | refine below_set ?_ GE460.out | refine below_set ?_ GE464.out) | exact HB.out)⟩

end Go.Proofs.Ytcgokimagimamaa.F
/- Written by a program of mine out of the translation: what functions answer; Lean checks it. -/
namespace Go.Proofs.Ytcgokimagimamaa.F
open Go.RowKit Go.Proofs.YtcgokimagimamaaW.PrintWords Go.Proofs.YtcgokimagimamaaW.PrintLast Go.Proofs.YtcgokimagimamaaW.PrintMore
attribute [local go_sem] max2_int min2_int max_two min_two max_three min_three max_four min_four   -- for this text's walks alone
set_option linter.unusedVariables false
set_option linter.unusedSimpArgs false
/-! ### ware_Shape: function 38 -/
def ware_Shape.f (k : Nat) (l0_0 : List (S25)) (l0_1 : List (S43)) (a1 : Int) : Option (Int × Int × Int × Int × Int × Int × Int × Int × Int × Int × Int × Int) := (ware_Check.f k l0_0 l0_1).bind fun t467 => (if t467 = 0 then ((ware_shapes.f l0_0 l0_1).bind fun t468 => ((ware_shape_70.f k t468 a1).bind fun bt471 => (some (bt471.1, bt471.2.1, bt471.2.2.1, bt471.2.2.2.1, bt471.2.2.2.2.1, bt471.2.2.2.2.2.1, bt471.2.2.2.2.2.2.1, bt471.2.2.2.2.2.2.2.1, bt471.2.2.2.2.2.2.2.2.1, bt471.2.2.2.2.2.2.2.2.2.1, bt471.2.2.2.2.2.2.2.2.2.2.1, bt471.2.2.2.2.2.2.2.2.2.2.2)))) else (some (0, 0, 0, 0, 0, 0, 0, 0, 0, 0, 0, t467)))
theorem ware_Shape.mono : ∀ a0 a1 a2 k, LeO (ware_Shape.f k a0 a1 a2) (ware_Shape.f (k + 1) a0 a1 a2) := by
  intro a0 a1 a2 k
  unfold ware_Shape.f
  repeat' first
      | (with_reducible exact ware_Check.mono _ _ _)
      | (with_reducible exact ware_shape_70.mono _ _ _)
      | (with_reducible exact LeO.refl _)
      | (with_reducible exact LeO.none _)
      | (with_reducible refine LeO.ite ?_ ?_)
      | (with_reducible refine LeO.bind ?_ (fun _ => ?_))
      | exact ware_Check.mono _ _ _
      | exact ware_shape_70.mono _ _ _
      | exact LeO.none _
      | refine LeO.ite ?_ ?_
      | refine LeO.bind ?_ (fun _ => ?_)
set_option maxHeartbeats 8000000 in
set_option maxRecDepth 100000 in
theorem ware_Shape.calls (k : Nat) (A0_0 : Option Addr) (c0_0 : Nat) (l0_0 : List (S25)) (A0_1 : Option Addr) (c0_1 : Nat) (l0_1 : List (S43)) (a1 : Int) (r1 : Int) (r2 : Int) (r3 : Int) (r4 : Int) (r5 : Int) (r6 : Int) (r7 : Int) (r8 : Int) (r9 : Int) (r10 : Int) (r11 : Int) (r12 : Int) (w : World) (hr0_0 : Kd.C k25 w A0_0 l0_0.length l0_0) (hc0_0 : l0_0.length ≤ c0_0) (hr0_1 : Kd.C k43 w A0_1 l0_1.length l0_1) (hc0_1 : l0_1.length ≤ c0_1) (h : ware_Shape.f k l0_0 l0_1 a1 = some (r1, r2, r3, r4, r5, r6, r7, r8, r9, r10, r11, r12)) :
    Calls Try.prog 38 #[.agg #[.slice A0_0 l0_0.length c0_0, .slice A0_1 l0_1.length c0_1], .int .i64 a1] w fun e w' => e = .returned (.tuple #[.agg #[.int .i64 r1, .int .i64 r2, .int .i64 r3, .int .i64 r4, .int .i64 r5, .int .i64 r6, .int .i64 r7, .int .i64 r8, .int .i64 r9, .int .i64 r10, .int .i64 r11], .int .i64 r12]) ∧ Below w.heap.size w w' := by
  have hu66 := Try.underlying66
  have hu25 := Try.underlying25
  have hu94 := Try.underlying94
  have HR0_0 := Aside0.mk hr0_0
  have HC0_0 := Aside0.mk hc0_0
  clear hr0_0 hc0_0
  have HR0_1 := Aside0.mk hr0_1
  have HC0_1 := Aside0.mk hc0_1
  clear hr0_1 hc0_1
  have HB := Aside0.mk (Below.refl w.heap.size w)
  have H : ((ware_Check.f k l0_0 l0_1).bind fun t467 => (if t467 = 0 then ((ware_shapes.f l0_0 l0_1).bind fun t468 => ((ware_shape_70.f k t468 a1).bind fun bt471 => (some (bt471.1, bt471.2.1, bt471.2.2.1, bt471.2.2.2.1, bt471.2.2.2.2.1, bt471.2.2.2.2.2.1, bt471.2.2.2.2.2.2.1, bt471.2.2.2.2.2.2.2.1, bt471.2.2.2.2.2.2.2.2.1, bt471.2.2.2.2.2.2.2.2.2.1, bt471.2.2.2.2.2.2.2.2.2.2.1, bt471.2.2.2.2.2.2.2.2.2.2.2)))) else (some (0, 0, 0, 0, 0, 0, 0, 0, 0, 0, 0, t467)))) = some (r1, r2, r3, r4, r5, r6, r7, r8, r9, r10, r11, r12) := h
  clear h
  replace H := Option.bind_eq_some_iff.mp H
  obtain ⟨t467, A30, H⟩ := H
  replace H : (if t467 = 0 then ((ware_shapes.f l0_0 l0_1).bind fun t468 => ((ware_shape_70.f k t468 a1).bind fun bt471 => (some (bt471.1, bt471.2.1, bt471.2.2.1, bt471.2.2.2.1, bt471.2.2.2.2.1, bt471.2.2.2.2.2.1, bt471.2.2.2.2.2.2.1, bt471.2.2.2.2.2.2.2.1, bt471.2.2.2.2.2.2.2.2.1, bt471.2.2.2.2.2.2.2.2.2.1, bt471.2.2.2.2.2.2.2.2.2.2.1, bt471.2.2.2.2.2.2.2.2.2.2.2)))) else (some (0, 0, 0, 0, 0, 0, 0, 0, 0, 0, 0, t467))) = some (r1, r2, r3, r4, r5, r6, r7, r8, r9, r10, r11, r12) := H
  have A3 := Aside0.mk A30
  clear A30
  by_cases c4 : t467 = 0
  · rw [if_pos c4] at H
    have c4b0 : (t467 == 0) = true := beq_iff_eq.mpr c4
    have c4b1 : (t467 != 0) = false := bne_eq_false_iff_eq.mpr c4
    clear c4
    replace H := Option.bind_eq_some_iff.mp H
    obtain ⟨t468, A50, H⟩ := H
    replace H : ((ware_shape_70.f k t468 a1).bind fun bt471 => (some (bt471.1, bt471.2.1, bt471.2.2.1, bt471.2.2.2.1, bt471.2.2.2.2.1, bt471.2.2.2.2.2.1, bt471.2.2.2.2.2.2.1, bt471.2.2.2.2.2.2.2.1, bt471.2.2.2.2.2.2.2.2.1, bt471.2.2.2.2.2.2.2.2.2.1, bt471.2.2.2.2.2.2.2.2.2.2.1, bt471.2.2.2.2.2.2.2.2.2.2.2))) = some (r1, r2, r3, r4, r5, r6, r7, r8, r9, r10, r11, r12) := H
    have A5 := Aside0.mk A50
    clear A50
    replace H := Option.bind_eq_some_iff.mp H
    obtain ⟨⟨t471, t472, t473, t474, t475, t476, t477, t478, t479, t480, t481, t482⟩, A60, H⟩ := H
    replace H : (some (t471, t472, t473, t474, t475, t476, t477, t478, t479, t480, t481, t482)) = some (r1, r2, r3, r4, r5, r6, r7, r8, r9, r10, r11, r12) := H
    have A6 := Aside0.mk A60
    clear A60
    simp only [Option.some.injEq, Prod.mk.injEq] at H
    obtain ⟨rfl, rfl, rfl, rfl, rfl, rfl, rfl, rfl, rfl, rfl, rfl, rfl⟩ := H
    go_enter Try.func38, Try.ntmps38
    go_wp2_with (first | ((with_reducible refine gate_dst (N := 2) rfl ?_); refine box_event ?hg (N := 2) ?hd (cs := #[.slice A0_0 l0_0.length c0_0, .slice A0_1 l0_1.length c0_1]) (t := 66) ?hr ?_; (case hd => rfl); (case hg => rfl); (case hr => first | (go_simp; done) | (go_simp; rfl)); intro gb465 hg w7 hbox hb; have BK465 := Aside0.mk (hbox); have GW465 := Aside0.mk ((by rw [hg]; exact (below_size (by repeat (first | (with_reducible first | exact HB.out | apply below_alloc | apply pw_below_drewN | apply below_drew1) | exact HB.out))) : w.heap.size ≤ gb465)); have GE465 := Aside0.mk ((by rw [hg]; exact (below_size (by repeat (first | (with_reducible first | exact HB.out | apply below_alloc | apply pw_below_drewN | apply below_drew1) | exact HB.out))) : w.heap.size ≤ gb465)); replace HB := Aside0.mk (below_step (by repeat (first | (with_reducible first | exact HB.out | apply below_alloc | apply pw_below_drewN | apply below_drew1) | exact HB.out)) hb); clear hb hbox hg) | ((with_reducible refine gate_dst (N := 4) rfl ?_); refine box_event ?hg (N := 4) ?hd (cs := #[.int .i64 0, .int .i64 0, .int .i64 0, .int .i64 0, .int .i64 0, .int .i64 0, .int .i64 0, .int .i64 0, .int .i64 0, .int .i64 0, .int .i64 0]) (t := 25) ?hr ?_; (case hd => rfl); (case hg => rfl); (case hr => first | (go_simp; done) | (go_simp; rfl)); intro gb466 hg w8 hbox hb; have BK466 := Aside0.mk (hbox); have GW466 := Aside0.mk ((by rw [hg]; exact (below_size (by repeat (first | (with_reducible first | exact HB.out | apply below_alloc | apply pw_below_drewN | apply below_drew1 | refine below_set ?_ GE465.out) | exact HB.out))) : w.heap.size ≤ gb466)); have GE466 := Aside0.mk ((by rw [hg]; exact (below_size (by repeat (first | (with_reducible first | exact HB.out | apply below_alloc | apply pw_below_drewN | apply below_drew1 | refine below_set ?_ GE465.out) | exact HB.out))) : w.heap.size ≤ gb466)); replace HB := Aside0.mk (below_step (by repeat (first | (with_reducible first | exact HB.out | apply below_alloc | apply pw_below_drewN | apply below_drew1 | refine below_set ?_ GE465.out) | exact HB.out)) hb); have NB465_466 := Aside0.mk ((by rw [hg]; exact Nat.ne_of_lt (blk_lt (g := gb465) (o := .cells #[.slice A0_0 l0_0.length c0_0, .slice A0_1 l0_1.length c0_1] 66 (0, 0)) (by (with_reducible repeat first | apply blk_drewN | apply blk_drew | apply blk_alloc); exact BK465.out)) : gb465 ≠ gb466)); have NB466_465 := Aside0.mk ((by rw [hg]; exact Nat.ne_of_gt (blk_lt (g := gb465) (o := .cells #[.slice A0_0 l0_0.length c0_0, .slice A0_1 l0_1.length c0_1] 66 (0, 0)) (by (with_reducible repeat first | apply blk_drewN | apply blk_drew | apply blk_alloc); exact BK465.out)) : gb466 ≠ gb465)); replace BK465 := blkE BK465 hb; clear hb hbox hg; have hnb9 := NB465_466.out; have hnc9 := NB466_465.out; obtain ⟨hcz10_0, hcz10_1⟩ := cells2 BK465.out; obtain ⟨hfz10_0, hfz10_1⟩ := froz2 BK465.out) | ((with_reducible refine gate_callee (f := 43) rfl ?_); refine goesL_ (some 10) rfl rfl Try.func43 (by kernel_rfl) rfl #[.agg #[.slice A0_0 l0_0.length c0_0, .slice A0_1 l0_1.length c0_1]] rfl (by (try simp only [List.map_toArray, List.map_cons, List.map_nil]); first | done | rfl | (simp only [List.length_drop, List.length_take]; rfl)) ?_; (with_reducible refine (ware_Check.calls k _ _ l0_0 _ _ l0_1 t467 _ ?side1 ?side2 ?side3 ?side4 A3.out).mono ?_); (case side1 => repeat (first | exact (Kd.C_below HR0_0.out HB.out) | (with_reducible refine Kd.C_alloc ?_ _) | (with_reducible refine Kd.C_drewN ?_ _) | (with_reducible refine Kd.C_drew ?_))); (case side2 => exact HC0_0.out); (case side3 => repeat (first | exact (Kd.C_below HR0_1.out HB.out) | (with_reducible refine Kd.C_alloc ?_ _) | (with_reducible refine Kd.C_drewN ?_ _) | (with_reducible refine Kd.C_drew ?_))); (case side4 => exact HC0_1.out); rintro e w11 ⟨rfl, hb⟩; refine ⟨_, rfl, ?_⟩; replace BK465 := blkE BK465 hb; replace BK466 := blkE BK466 hb; replace HB := Aside0.mk (below_step (by repeat (first | (with_reducible first | exact HB.out | apply below_alloc | apply pw_below_drewN | apply below_drew1 | refine below_set ?_ GE465.out | refine below_set ?_ GE466.out) | exact HB.out)) hb); (try clear hb); (try clear hb2); (try clear hk); (try clear hi); obtain ⟨hcz12_0, hcz12_1⟩ := cells2 BK465.out; obtain ⟨hfz12_0, hfz12_1⟩ := froz2 BK465.out) | ((with_reducible refine gate_callee (f := 71) rfl ?_); refine goesL_ (some 17) rfl rfl Try.func71 (by kernel_rfl) rfl #[.agg #[.slice A0_0 l0_0.length c0_0, .slice A0_1 l0_1.length c0_1]] rfl (by (try simp only [List.map_toArray, List.map_cons, List.map_nil]); first | done | rfl | (simp only [List.length_drop, List.length_take]; rfl)) ?_; (with_reducible refine (ware_shapes.calls _ _ l0_0 _ _ l0_1 t468 _ ?side1 ?side2 ?side3 ?side4 A5.out).mono ?_); (case side1 => repeat (first | exact (Kd.C_below HR0_0.out HB.out) | (with_reducible refine Kd.C_alloc ?_ _) | (with_reducible refine Kd.C_drewN ?_ _) | (with_reducible refine Kd.C_drew ?_))); (case side2 => exact HC0_0.out); (case side3 => repeat (first | exact (Kd.C_below HR0_1.out HB.out) | (with_reducible refine Kd.C_alloc ?_ _) | (with_reducible refine Kd.C_drewN ?_ _) | (with_reducible refine Kd.C_drew ?_))); (case side4 => exact HC0_1.out); rintro e w13 ⟨v469, rfl, ho0, hb⟩; refine ⟨_, rfl, ?_⟩; have HO470 := Aside0.mk (Kd.R_lower ho0 (below_size (by repeat (first | (with_reducible first | exact HB.out | apply below_alloc | apply pw_below_drewN | apply below_drew1 | refine below_set ?_ GE465.out | refine below_set ?_ GE466.out) | exact HB.out)))); replace BK465 := blkE BK465 hb; replace BK466 := blkE BK466 hb; replace HB := Aside0.mk (below_step (by repeat (first | (with_reducible first | exact HB.out | apply below_alloc | apply pw_below_drewN | apply below_drew1 | refine below_set ?_ GE465.out | refine below_set ?_ GE466.out) | exact HB.out)) hb); (try clear hb); (try clear hb2); (try clear hk); (try clear hi); (try clear ho0); obtain ⟨Ao14, co14, eo14⟩ := Kd.R_slice HO470.out; subst eo14) | ((with_reducible refine gate_callee (f := 70) rfl ?_); refine goesL_ (some 19) rfl rfl Try.func70 (by kernel_rfl) rfl #[.slice Ao14 t468.length co14, .int .i64 a1] rfl (by (try simp only [List.map_toArray, List.map_cons, List.map_nil]); first | done | rfl | (simp only [List.length_drop, List.length_take]; rfl)) ?_; (with_reducible refine (ware_shape_70.calls k _ _ t468 a1 t471 t472 t473 t474 t475 t476 t477 t478 t479 t480 t481 t482 _ ?side1 ?side2 A6.out).mono ?_); (case side1 => repeat (first | exact (Kd.R_reads' HO470.out).2.2 | (with_reducible refine Kd.C_alloc ?_ _) | (with_reducible refine Kd.C_drewN ?_ _) | (with_reducible refine Kd.C_drew ?_))); (case side2 => exact (Kd.R_reads' HO470.out).2.1); rintro e w15 ⟨rfl, hb⟩; refine ⟨_, rfl, ?_⟩; replace HO470 := Aside0.mk (Kd.R_below (by (with_reducible repeat (first | apply Kd.R_alloc | apply Kd.R_drewN | apply Kd.R_drew)); exact HO470.out) hb); replace BK465 := blkE BK465 hb; replace BK466 := blkE BK466 hb; replace HB := Aside0.mk (below_step (by repeat (first | (with_reducible first | exact HB.out | apply below_alloc | apply pw_below_drewN | apply below_drew1 | refine below_set ?_ GE465.out | refine below_set ?_ GE466.out) | exact HB.out)) hb); (try clear hb); (try clear hb2); (try clear hk); (try clear hi)) | ((with_reducible refine gate_dst (N := 7) rfl ?_); refine box_event ?hg (N := 7) ?hd (cs := #[.int .i64 0, .int .i64 0, .int .i64 0, .int .i64 0, .int .i64 0, .int .i64 0, .int .i64 0, .int .i64 0, .int .i64 0, .int .i64 0, .int .i64 0]) (t := 94) ?hr ?_; (case hd => rfl); (case hg => rfl); (case hr => first | (go_simp; done) | (go_simp; rfl)); intro gb483 hg w16 hbox hb; replace HO470 := Aside0.mk (Kd.R_below (Kd.R_elderB (by (with_reducible repeat (first | apply Kd.R_alloc | apply Kd.R_drewN | apply Kd.R_drew)); exact HO470.out) gb483 (Nat.le_of_eq hg.symm)) hb); have BK483 := Aside0.mk (hbox); have GW483 := Aside0.mk ((by rw [hg]; exact (below_size (by repeat (first | (with_reducible first | exact HB.out | apply below_alloc | apply pw_below_drewN | apply below_drew1 | refine below_set ?_ GE465.out | refine below_set ?_ GE466.out) | exact HB.out))) : w.heap.size ≤ gb483)); have GE483 := Aside0.mk ((by rw [hg]; exact (below_size (by repeat (first | (with_reducible first | exact HB.out | apply below_alloc | apply pw_below_drewN | apply below_drew1 | refine below_set ?_ GE465.out | refine below_set ?_ GE466.out) | exact HB.out))) : w.heap.size ≤ gb483)); replace HB := Aside0.mk (below_step (by repeat (first | (with_reducible first | exact HB.out | apply below_alloc | apply pw_below_drewN | apply below_drew1 | refine below_set ?_ GE465.out | refine below_set ?_ GE466.out) | exact HB.out)) hb); have NB465_483 := Aside0.mk ((by rw [hg]; exact Nat.ne_of_lt (blk_lt (g := gb465) (o := .cells #[.slice A0_0 l0_0.length c0_0, .slice A0_1 l0_1.length c0_1] 66 (0, 0)) (by (with_reducible repeat first | apply blk_drewN | apply blk_drew | apply blk_alloc); exact BK465.out)) : gb465 ≠ gb483)); have NB483_465 := Aside0.mk ((by rw [hg]; exact Nat.ne_of_gt (blk_lt (g := gb465) (o := .cells #[.slice A0_0 l0_0.length c0_0, .slice A0_1 l0_1.length c0_1] 66 (0, 0)) (by (with_reducible repeat first | apply blk_drewN | apply blk_drew | apply blk_alloc); exact BK465.out)) : gb483 ≠ gb465)); replace BK465 := blkE BK465 hb; have NB466_483 := Aside0.mk ((by rw [hg]; exact Nat.ne_of_lt (blk_lt (g := gb466) (o := .cells #[.int .i64 0, .int .i64 0, .int .i64 0, .int .i64 0, .int .i64 0, .int .i64 0, .int .i64 0, .int .i64 0, .int .i64 0, .int .i64 0, .int .i64 0] 25 (0, 0)) (by (with_reducible repeat first | apply blk_drewN | apply blk_drew | apply blk_alloc); exact BK466.out)) : gb466 ≠ gb483)); have NB483_466 := Aside0.mk ((by rw [hg]; exact Nat.ne_of_gt (blk_lt (g := gb466) (o := .cells #[.int .i64 0, .int .i64 0, .int .i64 0, .int .i64 0, .int .i64 0, .int .i64 0, .int .i64 0, .int .i64 0, .int .i64 0, .int .i64 0, .int .i64 0] 25 (0, 0)) (by (with_reducible repeat first | apply blk_drewN | apply blk_drew | apply blk_alloc); exact BK466.out)) : gb483 ≠ gb466)); replace BK466 := blkE BK466 hb; clear hb hbox hg; have hnb17 := NB483_465.out; have hnc17 := NB465_483.out; have hnb18 := NB483_466.out; have hnc18 := NB466_483.out; obtain ⟨hcz19_0, hcz19_1, hcz19_2, hcz19_3, hcz19_4, hcz19_5, hcz19_6, hcz19_7, hcz19_8, hcz19_9, hcz19_10⟩ := cells11 BK483.out; obtain ⟨hfz19_0, hfz19_1, hfz19_2, hfz19_3, hfz19_4, hfz19_5, hfz19_6, hfz19_7, hfz19_8, hfz19_9, hfz19_10⟩ := froz11 BK483.out; obtain ⟨hcz20_0, hcz20_1, hcz20_2, hcz20_3, hcz20_4, hcz20_5, hcz20_6, hcz20_7, hcz20_8, hcz20_9, hcz20_10⟩ := cells11 BK466.out; obtain ⟨hfz20_0, hfz20_1, hfz20_2, hfz20_3, hfz20_4, hfz20_5, hfz20_6, hfz20_7, hfz20_8, hfz20_9, hfz20_10⟩ := froz11 BK466.out))
    refine bodyPost_ret (results_ct rfl _ _ gb466 25 #[.int .i64 t471, .int .i64 t472, .int .i64 t473, .int .i64 t474, .int .i64 t475, .int .i64 t476, .int .i64 t477, .int .i64 t478, .int .i64 t479, .int .i64 t480, .int .i64 t481] (0, 0) _ rfl (by (with_reducible repeat first | apply blk_drewN | apply blk_drew | apply blk_alloc); refine blk_put (cs := #[.int .i64 t471, .int .i64 t472, .int .i64 t473, .int .i64 t474, .int .i64 t475, .int .i64 t476, .int .i64 t477, .int .i64 t478, .int .i64 t479, .int .i64 t480, .int .i64 0]) ?_ 10 _ rfl; (with_reducible repeat first | apply blk_drewN | apply blk_drew | apply blk_alloc); refine blk_put (cs := #[.int .i64 t471, .int .i64 t472, .int .i64 t473, .int .i64 t474, .int .i64 t475, .int .i64 t476, .int .i64 t477, .int .i64 t478, .int .i64 t479, .int .i64 0, .int .i64 0]) ?_ 9 _ rfl; (with_reducible repeat first | apply blk_drewN | apply blk_drew | apply blk_alloc); refine blk_put (cs := #[.int .i64 t471, .int .i64 t472, .int .i64 t473, .int .i64 t474, .int .i64 t475, .int .i64 t476, .int .i64 t477, .int .i64 t478, .int .i64 0, .int .i64 0, .int .i64 0]) ?_ 8 _ rfl; (with_reducible repeat first | apply blk_drewN | apply blk_drew | apply blk_alloc); refine blk_put (cs := #[.int .i64 t471, .int .i64 t472, .int .i64 t473, .int .i64 t474, .int .i64 t475, .int .i64 t476, .int .i64 t477, .int .i64 0, .int .i64 0, .int .i64 0, .int .i64 0]) ?_ 7 _ rfl; (with_reducible repeat first | apply blk_drewN | apply blk_drew | apply blk_alloc); refine blk_put (cs := #[.int .i64 t471, .int .i64 t472, .int .i64 t473, .int .i64 t474, .int .i64 t475, .int .i64 t476, .int .i64 0, .int .i64 0, .int .i64 0, .int .i64 0, .int .i64 0]) ?_ 6 _ rfl; (with_reducible repeat first | apply blk_drewN | apply blk_drew | apply blk_alloc); refine blk_put (cs := #[.int .i64 t471, .int .i64 t472, .int .i64 t473, .int .i64 t474, .int .i64 t475, .int .i64 0, .int .i64 0, .int .i64 0, .int .i64 0, .int .i64 0, .int .i64 0]) ?_ 5 _ rfl; (with_reducible repeat first | apply blk_drewN | apply blk_drew | apply blk_alloc); refine blk_put (cs := #[.int .i64 t471, .int .i64 t472, .int .i64 t473, .int .i64 t474, .int .i64 0, .int .i64 0, .int .i64 0, .int .i64 0, .int .i64 0, .int .i64 0, .int .i64 0]) ?_ 4 _ rfl; (with_reducible repeat first | apply blk_drewN | apply blk_drew | apply blk_alloc); refine blk_put (cs := #[.int .i64 t471, .int .i64 t472, .int .i64 t473, .int .i64 0, .int .i64 0, .int .i64 0, .int .i64 0, .int .i64 0, .int .i64 0, .int .i64 0, .int .i64 0]) ?_ 3 _ rfl; (with_reducible repeat first | apply blk_drewN | apply blk_drew | apply blk_alloc); refine blk_put (cs := #[.int .i64 t471, .int .i64 t472, .int .i64 0, .int .i64 0, .int .i64 0, .int .i64 0, .int .i64 0, .int .i64 0, .int .i64 0, .int .i64 0, .int .i64 0]) ?_ 2 _ rfl; (with_reducible repeat first | apply blk_drewN | apply blk_drew | apply blk_alloc); refine blk_put (cs := #[.int .i64 t471, .int .i64 0, .int .i64 0, .int .i64 0, .int .i64 0, .int .i64 0, .int .i64 0, .int .i64 0, .int .i64 0, .int .i64 0, .int .i64 0]) ?_ 1 _ rfl; (with_reducible repeat first | apply blk_drewN | apply blk_drew | apply blk_alloc); refine blk_put (cs := #[.int .i64 0, .int .i64 0, .int .i64 0, .int .i64 0, .int .i64 0, .int .i64 0, .int .i64 0, .int .i64 0, .int .i64 0, .int .i64 0, .int .i64 0]) ?_ 0 _ rfl; (with_reducible repeat first | apply blk_drewN | apply blk_drew | apply blk_alloc); refine blk_far ?_ NB466_483.out _; (with_reducible repeat first | apply blk_drewN | apply blk_drew | apply blk_alloc); refine blk_far ?_ NB466_483.out _; (with_reducible repeat first | apply blk_drewN | apply blk_drew | apply blk_alloc); refine blk_far ?_ NB466_483.out _; (with_reducible repeat first | apply blk_drewN | apply blk_drew | apply blk_alloc); refine blk_far ?_ NB466_483.out _; (with_reducible repeat first | apply blk_drewN | apply blk_drew | apply blk_alloc); refine blk_far ?_ NB466_483.out _; (with_reducible repeat first | apply blk_drewN | apply blk_drew | apply blk_alloc); refine blk_far ?_ NB466_483.out _; (with_reducible repeat first | apply blk_drewN | apply blk_drew | apply blk_alloc); refine blk_far ?_ NB466_483.out _; (with_reducible repeat first | apply blk_drewN | apply blk_drew | apply blk_alloc); refine blk_far ?_ NB466_483.out _; (with_reducible repeat first | apply blk_drewN | apply blk_drew | apply blk_alloc); refine blk_far ?_ NB466_483.out _; (with_reducible repeat first | apply blk_drewN | apply blk_drew | apply blk_alloc); refine blk_far ?_ NB466_483.out _; (with_reducible repeat first | apply blk_drewN | apply blk_drew | apply blk_alloc); refine blk_far ?_ NB466_483.out _; (with_reducible repeat first | apply blk_drewN | apply blk_drew | apply blk_alloc); exact BK466.out) Try.underlying25 rfl (by kernel_rfl)) rfl ?_
    exact ⟨by first | rfl | (simp [errW_none, errW_some] <;> rfl) | (simp [*, errW_none, errW_some] <;> rfl), by repeat (first | (with_reducible first | exact HB.out | apply below_alloc | apply pw_below_drewN | apply below_drew1 | refine below_set ?_ GE465.out | refine below_set ?_ GE466.out | refine below_set ?_ GE483.out) | exact HB.out)⟩
  · rw [if_neg c4] at H
    have c4b0 : (t467 == 0) = false := beq_eq_false_iff_ne.mpr c4
    have c4b1 : (t467 != 0) = true := bne_iff_ne.mpr c4
    simp only [Option.some.injEq, Prod.mk.injEq] at H
    obtain ⟨rfl, rfl, rfl, rfl, rfl, rfl, rfl, rfl, rfl, rfl, rfl, rfl⟩ := H
    go_enter Try.func38, Try.ntmps38
    go_wp2_with (first | ((with_reducible refine gate_dst (N := 2) rfl ?_); refine box_event ?hg (N := 2) ?hd (cs := #[.slice A0_0 l0_0.length c0_0, .slice A0_1 l0_1.length c0_1]) (t := 66) ?hr ?_; (case hd => rfl); (case hg => rfl); (case hr => first | (go_simp; done) | (go_simp; rfl)); intro gb465 hg w21 hbox hb; have BK465 := Aside0.mk (hbox); have GW465 := Aside0.mk ((by rw [hg]; exact (below_size (by repeat (first | (with_reducible first | exact HB.out | apply below_alloc | apply pw_below_drewN | apply below_drew1) | exact HB.out))) : w.heap.size ≤ gb465)); have GE465 := Aside0.mk ((by rw [hg]; exact (below_size (by repeat (first | (with_reducible first | exact HB.out | apply below_alloc | apply pw_below_drewN | apply below_drew1) | exact HB.out))) : w.heap.size ≤ gb465)); replace HB := Aside0.mk (below_step (by repeat (first | (with_reducible first | exact HB.out | apply below_alloc | apply pw_below_drewN | apply below_drew1) | exact HB.out)) hb); clear hb hbox hg) | ((with_reducible refine gate_dst (N := 4) rfl ?_); refine box_event ?hg (N := 4) ?hd (cs := #[.int .i64 0, .int .i64 0, .int .i64 0, .int .i64 0, .int .i64 0, .int .i64 0, .int .i64 0, .int .i64 0, .int .i64 0, .int .i64 0, .int .i64 0]) (t := 25) ?hr ?_; (case hd => rfl); (case hg => rfl); (case hr => first | (go_simp; done) | (go_simp; rfl)); intro gb466 hg w22 hbox hb; have BK466 := Aside0.mk (hbox); have GW466 := Aside0.mk ((by rw [hg]; exact (below_size (by repeat (first | (with_reducible first | exact HB.out | apply below_alloc | apply pw_below_drewN | apply below_drew1 | refine below_set ?_ GE465.out) | exact HB.out))) : w.heap.size ≤ gb466)); have GE466 := Aside0.mk ((by rw [hg]; exact (below_size (by repeat (first | (with_reducible first | exact HB.out | apply below_alloc | apply pw_below_drewN | apply below_drew1 | refine below_set ?_ GE465.out) | exact HB.out))) : w.heap.size ≤ gb466)); replace HB := Aside0.mk (below_step (by repeat (first | (with_reducible first | exact HB.out | apply below_alloc | apply pw_below_drewN | apply below_drew1 | refine below_set ?_ GE465.out) | exact HB.out)) hb); have NB465_466 := Aside0.mk ((by rw [hg]; exact Nat.ne_of_lt (blk_lt (g := gb465) (o := .cells #[.slice A0_0 l0_0.length c0_0, .slice A0_1 l0_1.length c0_1] 66 (0, 0)) (by (with_reducible repeat first | apply blk_drewN | apply blk_drew | apply blk_alloc); exact BK465.out)) : gb465 ≠ gb466)); have NB466_465 := Aside0.mk ((by rw [hg]; exact Nat.ne_of_gt (blk_lt (g := gb465) (o := .cells #[.slice A0_0 l0_0.length c0_0, .slice A0_1 l0_1.length c0_1] 66 (0, 0)) (by (with_reducible repeat first | apply blk_drewN | apply blk_drew | apply blk_alloc); exact BK465.out)) : gb466 ≠ gb465)); replace BK465 := blkE BK465 hb; clear hb hbox hg; have hnb23 := NB465_466.out; have hnc23 := NB466_465.out; obtain ⟨hcz24_0, hcz24_1⟩ := cells2 BK465.out; obtain ⟨hfz24_0, hfz24_1⟩ := froz2 BK465.out) | ((with_reducible refine gate_callee (f := 43) rfl ?_); refine goesL_ (some 10) rfl rfl Try.func43 (by kernel_rfl) rfl #[.agg #[.slice A0_0 l0_0.length c0_0, .slice A0_1 l0_1.length c0_1]] rfl (by (try simp only [List.map_toArray, List.map_cons, List.map_nil]); first | done | rfl | (simp only [List.length_drop, List.length_take]; rfl)) ?_; (with_reducible refine (ware_Check.calls k _ _ l0_0 _ _ l0_1 t467 _ ?side1 ?side2 ?side3 ?side4 A3.out).mono ?_); (case side1 => repeat (first | exact (Kd.C_below HR0_0.out HB.out) | (with_reducible refine Kd.C_alloc ?_ _) | (with_reducible refine Kd.C_drewN ?_ _) | (with_reducible refine Kd.C_drew ?_))); (case side2 => exact HC0_0.out); (case side3 => repeat (first | exact (Kd.C_below HR0_1.out HB.out) | (with_reducible refine Kd.C_alloc ?_ _) | (with_reducible refine Kd.C_drewN ?_ _) | (with_reducible refine Kd.C_drew ?_))); (case side4 => exact HC0_1.out); rintro e w25 ⟨rfl, hb⟩; refine ⟨_, rfl, ?_⟩; replace BK465 := blkE BK465 hb; replace BK466 := blkE BK466 hb; replace HB := Aside0.mk (below_step (by repeat (first | (with_reducible first | exact HB.out | apply below_alloc | apply pw_below_drewN | apply below_drew1 | refine below_set ?_ GE465.out | refine below_set ?_ GE466.out) | exact HB.out)) hb); (try clear hb); (try clear hb2); (try clear hk); (try clear hi); obtain ⟨hcz26_0, hcz26_1, hcz26_2, hcz26_3, hcz26_4, hcz26_5, hcz26_6, hcz26_7, hcz26_8, hcz26_9, hcz26_10⟩ := cells11 BK466.out; obtain ⟨hfz26_0, hfz26_1, hfz26_2, hfz26_3, hfz26_4, hfz26_5, hfz26_6, hfz26_7, hfz26_8, hfz26_9, hfz26_10⟩ := froz11 BK466.out))
    refine bodyPost_ret (results_ct rfl _ _ gb466 25 #[.int .i64 0, .int .i64 0, .int .i64 0, .int .i64 0, .int .i64 0, .int .i64 0, .int .i64 0, .int .i64 0, .int .i64 0, .int .i64 0, .int .i64 0] (0, 0) _ rfl (by (with_reducible repeat first | apply blk_drewN | apply blk_drew | apply blk_alloc); refine blk_put (cs := #[.int .i64 0, .int .i64 0, .int .i64 0, .int .i64 0, .int .i64 0, .int .i64 0, .int .i64 0, .int .i64 0, .int .i64 0, .int .i64 0, .int .i64 0]) ?_ 10 _ rfl; (with_reducible repeat first | apply blk_drewN | apply blk_drew | apply blk_alloc); refine blk_put (cs := #[.int .i64 0, .int .i64 0, .int .i64 0, .int .i64 0, .int .i64 0, .int .i64 0, .int .i64 0, .int .i64 0, .int .i64 0, .int .i64 0, .int .i64 0]) ?_ 9 _ rfl; (with_reducible repeat first | apply blk_drewN | apply blk_drew | apply blk_alloc); refine blk_put (cs := #[.int .i64 0, .int .i64 0, .int .i64 0, .int .i64 0, .int .i64 0, .int .i64 0, .int .i64 0, .int .i64 0, .int .i64 0, .int .i64 0, .int .i64 0]) ?_ 8 _ rfl; (with_reducible repeat first | apply blk_drewN | apply blk_drew | apply blk_alloc); refine blk_put (cs := #[.int .i64 0, .int .i64 0, .int .i64 0, .int .i64 0, .int .i64 0, .int .i64 0, .int .i64 0, .int .i64 0, .int .i64 0, .int .i64 0, .int .i64 0]) ?_ 7 _ rfl; (with_reducible repeat first | apply blk_drewN | apply blk_drew | apply blk_alloc); refine blk_put (cs := #[.int .i64 0, .int .i64 0, .int .i64 0, .int .i64 0, .int .i64 0, .int .i64 0, .int .i64 0, .int .i64 0, .int .i64 0, .int .i64 0, .int .i64 0]) ?_ 6 _ rfl; (with_reducible repeat first | apply blk_drewN | apply blk_drew | apply blk_alloc); refine blk_put (cs := #[.int .i64 0, .int .i64 0, .int .i64 0, .int .i64 0, .int .i64 0, .int .i64 0, .int .i64 0, .int .i64 0, .int .i64 0, .int .i64 0, .int .i64 0]) ?_ 5 _ rfl; (with_reducible repeat first | apply blk_drewN | apply blk_drew | apply blk_alloc); refine blk_put (cs := #[.int .i64 0, .int .i64 0, .int .i64 0, .int .i64 0, .int .i64 0, .int .i64 0, .int .i64 0, .int .i64 0, .int .i64 0, .int .i64 0, .int .i64 0]) ?_ 4 _ rfl; (with_reducible repeat first | apply blk_drewN | apply blk_drew | apply blk_alloc); refine blk_put (cs := #[.int .i64 0, .int .i64 0, .int .i64 0, .int .i64 0, .int .i64 0, .int .i64 0, .int .i64 0, .int .i64 0, .int .i64 0, .int .i64 0, .int .i64 0]) ?_ 3 _ rfl; (with_reducible repeat first | apply blk_drewN | apply blk_drew | apply blk_alloc); refine blk_put (cs := #[.int .i64 0, .int .i64 0, .int .i64 0, .int .i64 0, .int .i64 0, .int .i64 0, .int .i64 0, .int .i64 0, .int .i64 0, .int .i64 0, .int .i64 0]) ?_ 2 _ rfl; (with_reducible repeat first | apply blk_drewN | apply blk_drew | apply blk_alloc); refine blk_put (cs := #[.int .i64 0, .int .i64 0, .int .i64 0, .int .i64 0, .int .i64 0, .int .i64 0, .int .i64 0, .int .i64 0, .int .i64 0, .int .i64 0, .int .i64 0]) ?_ 1 _ rfl; (with_reducible repeat first | apply blk_drewN | apply blk_drew | apply blk_alloc); refine blk_put (cs := #[.int .i64 0, .int .i64 0, .int .i64 0, .int .i64 0, .int .i64 0, .int .i64 0, .int .i64 0, .int .i64 0, .int .i64 0, .int .i64 0, .int .i64 0]) ?_ 0 _ rfl; (with_reducible repeat first | apply blk_drewN | apply blk_drew | apply blk_alloc); exact BK466.out) Try.underlying25 rfl (by kernel_rfl)) rfl ?_
    exact ⟨by first | rfl | (simp [errW_none, errW_some] <;> rfl) | (simp [*, errW_none, errW_some] <;> rfl), by repeat (first | (with_reducible first | exact HB.out | apply below_alloc | apply pw_below_drewN | apply below_drew1 | refine below_set ?_ GE465.out | refine below_set ?_ GE466.out) | exact HB.out)⟩

end Go.Proofs.Ytcgokimagimamaa.F
