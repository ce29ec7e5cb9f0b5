/- What the rows of this seat's laws share. -/
import Derived.Test.YtcgokimagimamaaFrame
import Derived.Test.YtcgokimagimamaaRows
namespace Go.Proofs.Ytcgokimagimamaa
open Go.RowKit Go.ChangeShapes Go.WideShapes Go.ChangeAt
set_option maxRecDepth 100000
theorem own_knob : ownKnob Try.prog.godebug = none := by kernel_rfl
theorem laid_out : laidOutB Try.prog = true := by kernel_rfl
section
variable {H : Type} {enc : TypeId × Value → H} {P : Program} {w : World} {base : Nat} {spare : Nat → Bool} {held : Bool}
theorem ds_len3 {t t' t'' : TypeId} {args : Array Value} {ds : List (DataW H)} {ps : List MemPlace} (h : DataW.TrodAll enc P w base spare held [t, t', t''] args.toList ds ps) : ∃ d d' d'', ds = [d, d', d''] := by
  obtain ⟨v0, v1, v2, d0, d1, d2, p0, p1, p2, _, hd, _⟩ := trodAll_three h
  exact ⟨d0, d1, d2, hd⟩
theorem ds_len1 {t : TypeId} {args : Array Value} {ds : List (DataW H)} {ps : List MemPlace} (h : DataW.TrodAll enc P w base spare held [t] args.toList ds ps) : ∃ d, ds = [d] := by
  obtain ⟨v0, d0, _, hd, _⟩ := trodAll_one h
  exact ⟨d0, hd⟩
theorem ds_len2 {t t' : TypeId} {args : Array Value} {ds : List (DataW H)} {ps : List MemPlace} (h : DataW.TrodAll enc P w base spare held [t, t'] args.toList ds ps) : ∃ d d', ds = [d, d'] := by
  obtain ⟨v0, v1, d0, d1, p0, p1, _, hd, _⟩ := trodAll_two h
  exact ⟨d0, d1, hd⟩
theorem ds_len4 {t t' t'' t3 : TypeId} {args : Array Value} {ds : List (DataW H)} {ps : List MemPlace} (h : DataW.TrodAll enc P w base spare held [t, t', t'', t3] args.toList ds ps) : ∃ d d' d'' d3, ds = [d, d', d'', d3] := by
  obtain ⟨v0, v1, v2, v3, d0, d1, d2, d3, p0, p1, p2, p3, _, hd, _⟩ := trodAll_four h
  exact ⟨d0, d1, d2, d3, hd⟩
end
end Go.Proofs.Ytcgokimagimamaa
