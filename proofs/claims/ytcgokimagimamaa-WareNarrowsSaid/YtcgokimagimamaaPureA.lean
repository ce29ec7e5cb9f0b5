
/- Layer 1: what numbers describe, in the print's form. -/
import Derived.Test.YtcgokimagimamaaGH
import Derived.Test.YtcgokimagimamaaF20
import Derived.Test.YtcgokimagimamaaGJ
namespace Go.Proofs.Ytcgokimagimamaa.F
open Go.RowKit Go.Proofs.YtcgokimagimamaaW.PrintWords
set_option linter.unusedVariables false
set_option linter.unusedSimpArgs false
set_option maxRecDepth 100000
theorem mod_f {n m : Int} (hm : 0 < m) (h2 : m ≤ 400000000000000000) : potbankref01_Mod.f n m = some (n % m) := by
  obtain ⟨r1, r2⟩ := tmod_bound (n := n) hm
  unfold potbankref01_Mod.f
  rw [if_neg (by omega), wrap_id (by omega) (by omega), Int.tmod_eq_emod_of_nonneg (by omega), mod_eq hm]
theorem at_f {l : List Int} {i : Int} (hl : l.length ≤ 140737488355328) : potbankref01_At.f l i = some (atS l i) := by
  unfold potbankref01_At.f atS
  cases l with
  | nil => simp
  | cons x t =>
    have hp : (0 : Int) < ((x :: t).length : Int) := by simp only [List.length_cons]; omega
    rw [if_neg (by omega), if_neg (by simp), mod_f hp (by omega)]
    have h1 := Int.emod_nonneg i (by omega : ((x :: t).length : Int) ≠ 0)
    have h2 := Int.emod_lt_of_pos i hp
    simp only [Option.bind_some]
    rw [if_pos h1, if_pos h2]
    rfl
theorem span_f {a b l0 l1 l2 : Int} (h0 : 0 ≤ l0) (h1 : 0 ≤ l1) (h2 : l0 ≤ l2) (h3 : l1 ≤ 1000000) (h4 : l2 ≤ 1000000) : potbankref01_Span.f a b l0 l1 l2 = some ((spanS a b l0 l1 l2).lo, (spanS a b l0 l1 l2).hi) := by
  unfold potbankref01_Span.f; rw [if_pos ⟨h0, h1, h2, h3, h4⟩]
theorem body_f {id : Int} {l : List Int} (hl : l.length ≤ 140737488355328) : potbankref01_MadeBody.f id l = some (outB (madeBody id l)) := by
  unfold potbankref01_MadeBody.f; rw [if_pos hl]
def tupS (s : Shape) : Int × Int × Int × Int × Int × Int × Int × Int × Int × Int × Int := (s.id, s.wide.lo, s.wide.hi, s.deep.lo, s.deep.hi, s.high.lo, s.high.hi, s.nest, s.weight.lo, s.weight.hi, s.bears)
theorem shape_f {id : Int} {l : List Int} (hl : l.length ≤ 140737488355328) : potbankref01_MadeShape.f id l = some (tupS (madeShape id l)) := by
  unfold potbankref01_MadeShape.f
  simp only [at_f hl, Option.bind_some]
  rw [span_f (by omega) (by omega) (by omega) (by omega) (by omega)]; simp only [Option.bind_some]
  rw [span_f (by omega) (by omega) (by omega) (by omega) (by omega)]; simp only [Option.bind_some]
  rw [span_f (by omega) (by omega) (by omega) (by omega) (by omega)]; simp only [Option.bind_some]
  rw [span_f (by omega) (by omega) (by omega) (by omega) (by omega)]; simp only [Option.bind_some]
  obtain ⟨g1, g2, g3⟩ := span_ok (a := atS l 3) (b := atS l 4) (l0 := 10) (l1 := 5) (l2 := 150) (by omega) (by omega) (by omega)
  rw [wrap_id (by omega) (by omega), mod_f (by omega) (by omega)]; simp only [Option.bind_some]
  rw [mod_f (by omega) (by omega)]
  rfl
theorem sane_f : potbanklaw01_sane.f = some true := rfl
theorem shrunk_f {b : Body} {r : Rng} : ware_Shrunk.f b.id b.shrink.lo b.shrink.hi b.loss.lo b.loss.hi b.heat.lo b.heat.hi r.lo r.hi = some (outR (firedS b r 2000 b.shrink)) := rfl
theorem fired_f {s : Shape} {b : Body} : ware_Fired.f s.id s.wide.lo s.wide.hi s.deep.lo s.deep.hi s.high.lo s.high.hi s.nest s.weight.lo s.weight.hi s.bears b.id b.shrink.lo b.shrink.hi b.loss.lo b.loss.hi b.heat.lo b.heat.hi = some (outS (firedSS s b)) := rfl
theorem checkShape_f {s : Shape} : ware_CheckShape.f s.id s.wide.lo s.wide.hi s.deep.lo s.deep.hi s.high.lo s.high.hi s.nest s.weight.lo s.weight.hi s.bears = some (errIf (okShape s) 10) := rfl
theorem load_f {s : Shape} {n i : Int} : ware_Load.f s.id s.wide.lo s.wide.hi s.deep.lo s.deep.hi s.high.lo s.high.hi s.nest s.weight.lo s.weight.hi s.bears n i = some (outR (loadS s n i)) := rfl
theorem height_f {s : Shape} {n : Int} : ware_Height.f s.id s.wide.lo s.wide.hi s.deep.lo s.deep.hi s.high.lo s.high.hi s.nest s.weight.lo s.weight.hi s.bears n = some (outR (heightS s n)) := rfl
theorem stands_f {s : Shape} {n : Int} : ware_Stands.f s.id s.wide.lo s.wide.hi s.deep.lo s.deep.hi s.high.lo s.high.hi s.nest s.weight.lo s.weight.hi s.bears n = some (standsS s n) := rfl
theorem most_f {s : Shape} {h : Int} : ware_Most.f s.id s.wide.lo s.wide.hi s.deep.lo s.deep.hi s.high.lo s.high.hi s.nest s.weight.lo s.weight.hi s.bears h = some (mostS s h) := rfl
end Go.Proofs.Ytcgokimagimamaa.F
