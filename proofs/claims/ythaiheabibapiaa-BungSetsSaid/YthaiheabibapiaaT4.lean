/- Chapter 3: the arguments' types of the law of what is set, read. -/
import Derived.Test.YthaiheabibapiaaT2
namespace Go.Proofs.Ythaiheabibapiaa
open Go.Sh Go.Sh.C3 Go.RowKit Go.ChangeShapes Go.WideShapes
set_option maxRecDepth 100000
set_option linter.unusedVariables false
noncomputable def opOrder : Sh.Op Try.prog 93 (Rg × List Int) := Sh.Op.struct (fun s : Rg × List Int => (s.1, s.2, ())) (fun a => ⟨a.1, a.2.1⟩) (fun _ => rfl) [(23, 0), (38, 2)] Try.underlying93 (by kernel_rfl)
  (.cons opRg 2 (by kernel_rfl) (.cons opInts 1 (by kernel_rfl) .nil)) (by kernel_rfl)
noncomputable def opChange : Sh.Op Try.prog 95 ((Rg × List Sag) × Int × Sag) := Sh.Op.struct (fun s : (Rg × List Sag) × Int × Sag => (s.1, s.2.1, s.2.2, ())) (fun a => ⟨a.1, a.2.1, a.2.2.1⟩) (fun _ => rfl) [(43, 0), (3, 3), (52, 4)] Try.underlying95 (by kernel_rfl)
  (.cons opBung 3 (by kernel_rfl) (.cons opInt 1 (by kernel_rfl) (.cons opSag 8 (by kernel_rfl) .nil))) (by kernel_rfl)
end Go.Proofs.Ythaiheabibapiaa
