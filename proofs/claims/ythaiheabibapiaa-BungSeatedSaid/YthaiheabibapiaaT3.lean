/- Chapter 3: the arguments' types of the law of seats by numbers, read. -/
import Derived.Test.YthaiheabibapiaaT2
import Derived.Test.YthaiheabibapiaaK4
namespace Go.Proofs.Ythaiheabibapiaa
open Go.Sh Go.Sh.C3 Go.RowKit Go.ChangeShapes Go.WideShapes
set_option maxRecDepth 100000
set_option linter.unusedVariables false
noncomputable def opKilns : Sh.Op Try.prog 104 (List (List Raw × List Int × Int × Int)) := Sh.Op.slice 64 Try.underlying104 (by kernel_rfl) (of_decide_eq_true (by kernel_rfl)) (by kernel_rfl) opKiln
noncomputable def opTwos : Sh.Op Try.prog 105 (List (Int × Int)) := Sh.Op.slice 16 Try.underlying105 (by kernel_rfl) (of_decide_eq_true (by kernel_rfl)) (by kernel_rfl) opTwo
end Go.Proofs.Ythaiheabibapiaa
