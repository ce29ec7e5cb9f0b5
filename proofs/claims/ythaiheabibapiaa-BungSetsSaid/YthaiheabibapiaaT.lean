/- Chapter 3: the arguments' types, read. -/
import Derived.Test.YthaiheabibapiaaK4
import Derived.Test.YthaiheabibapiaaRows
namespace Go.Proofs.Ythaiheabibapiaa
open Go.Sh Go.Sh.C3 Go.RowKit Go.ChangeShapes Go.WideShapes
set_option maxRecDepth 100000
set_option linter.unusedVariables false
theorem own_knob : ownKnob Try.prog.godebug = none := by kernel_rfl
theorem laid_out : laidOutB Try.prog = true := by kernel_rfl

noncomputable def opInt : Sh.Op Try.prog 3 Int := Sh.Op.int Try.underlying3 (by kernel_rfl)
noncomputable def opRg : Sh.Op Try.prog 23 Rg := Sh.Op.struct (fun r : Rg => (r.lo, r.hi, ())) (fun a => ⟨a.1, a.2.1⟩) (fun _ => rfl) [(3, 0), (3, 1)] Try.underlying23 (by kernel_rfl)
  (.cons opInt 1 (by kernel_rfl) (.cons opInt 1 (by kernel_rfl) .nil)) (by kernel_rfl)
noncomputable def opSag : Sh.Op Try.prog 52 Sag := Sh.Op.struct (fun s : Sag => (s.id, s.w, s.b, s.h, s.tilt, ())) (fun a => ⟨a.1, a.2.1, a.2.2.1, a.2.2.2.1, a.2.2.2.2.1⟩) (fun _ => rfl)
  [(3, 0), (23, 1), (23, 3), (23, 5), (3, 7)] Try.underlying52 (by kernel_rfl)
  (.cons opInt 1 (by kernel_rfl) (.cons opRg 2 (by kernel_rfl) (.cons opRg 2 (by kernel_rfl) (.cons opRg 2 (by kernel_rfl) (.cons opInt 1 (by kernel_rfl) .nil))))) (by kernel_rfl)
noncomputable def opSags : Sh.Op Try.prog 24 (List Sag) := Sh.Op.slice 64 Try.underlying24 (by kernel_rfl) (of_decide_eq_true (by kernel_rfl)) (by kernel_rfl) opSag
noncomputable def opBung : Sh.Op Try.prog 43 (Rg × List Sag) := Sh.Op.struct (fun s : Rg × List Sag => (s.1, s.2, ())) (fun a => ⟨a.1, a.2.1⟩) (fun _ => rfl) [(23, 0), (24, 2)] Try.underlying43 (by kernel_rfl)
  (.cons opRg 2 (by kernel_rfl) (.cons opSags 1 (by kernel_rfl) .nil)) (by kernel_rfl)
noncomputable def opSpt : Sh.Op Try.prog 26 Spt := Sh.Op.struct (fun r : Spt => (r.crown, r.lean, ())) (fun a => ⟨a.1, a.2.1⟩) (fun _ => rfl) [(3, 0), (3, 1)] Try.underlying26 (by kernel_rfl)
  (.cons opInt 1 (by kernel_rfl) (.cons opInt 1 (by kernel_rfl) .nil)) (by kernel_rfl)
noncomputable def opInts : Sh.Op Try.prog 38 (List Int) := Sh.Op.slice 8 Try.underlying38 (by kernel_rfl) (of_decide_eq_true (by kernel_rfl)) (by kernel_rfl) opInt
noncomputable def opBrk : Sh.Op Try.prog 75 (Int × Int × List Int) := Sh.Op.struct (fun s : Int × Int × List Int => (s.1, s.2.1, s.2.2, ())) (fun a => ⟨a.1, a.2.1, a.2.2.1⟩) (fun _ => rfl) [(3, 0), (3, 1), (38, 2)] Try.underlying75 (by kernel_rfl)
  (.cons opInt 1 (by kernel_rfl) (.cons opInt 1 (by kernel_rfl) (.cons opInts 1 (by kernel_rfl) .nil))) (by kernel_rfl)
noncomputable def opBungs : Sh.Op Try.prog 100 (List (Rg × List Sag)) := Sh.Op.slice 40 Try.underlying100 (by kernel_rfl) (of_decide_eq_true (by kernel_rfl)) (by kernel_rfl) opBung
noncomputable def opSpts : Sh.Op Try.prog 101 (List Spt) := Sh.Op.slice 16 Try.underlying101 (by kernel_rfl) (of_decide_eq_true (by kernel_rfl)) (by kernel_rfl) opSpt
noncomputable def opParts : Sh.Op Try.prog 30 (List (List Int)) := Sh.Op.slice 24 Try.underlying30 (by kernel_rfl) (of_decide_eq_true (by kernel_rfl)) (by kernel_rfl) opInts
noncomputable def opJob : Sh.Op Try.prog 28 (Rg × List Sag × Spt) := Sh.Op.struct (fun s : Rg × List Sag × Spt => (s.1, s.2.1, s.2.2, ())) (fun a => ⟨a.1, a.2.1, a.2.2.1⟩) (fun _ => rfl) [(23, 0), (24, 2), (26, 3)] Try.underlying28 (by kernel_rfl)
  (.cons opRg 2 (by kernel_rfl) (.cons opSags 1 (by kernel_rfl) (.cons opSpt 2 (by kernel_rfl) .nil))) (by kernel_rfl)
theorem fSag (s : Sag) : opSag.f s = s.c := rfl
theorem vBung (x : Rg × List Sag) : opBung.val x = V.agg (bungC x.1 x.2) := rfl
theorem vSags (x : List Sag) : opSags.val x = V.fsl (x.map Sag.c) := rfl
theorem vSpt (x : Spt) : opSpt.val x = V.agg x.c := rfl
end Go.Proofs.Ythaiheabibapiaa
