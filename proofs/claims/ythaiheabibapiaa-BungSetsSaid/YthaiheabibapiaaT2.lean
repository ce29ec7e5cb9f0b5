/- Chapter 3: the arguments' types of the laws by numbers, read. -/
import Derived.Test.YthaiheabibapiaaT
import Derived.Test.YthaiheabibapiaaK4
namespace Go.Proofs.Ythaiheabibapiaa
open Go.Sh Go.Sh.C3 Go.RowKit Go.ChangeShapes Go.WideShapes
set_option maxRecDepth 100000
set_option linter.unusedVariables false
noncomputable def opRaw : Sh.Op Try.prog 120 Raw := Sh.Op.array (sz := 1) (fun r : Raw => (r.a, r.b, r.c, r.d, r.e, r.g, r.h, ())) (fun a => ⟨a.1, a.2.1, a.2.2.1, a.2.2.2.1, a.2.2.2.2.1, a.2.2.2.2.2.1, a.2.2.2.2.2.2.1⟩) (fun _ => rfl)
  [(3, 0), (3, 1), (3, 2), (3, 3), (3, 4), (3, 5), (3, 6)] Try.underlying120 (by kernel_rfl) rfl
  (.cons opInt 1 (by kernel_rfl) (.cons opInt 1 (by kernel_rfl) (.cons opInt 1 (by kernel_rfl) (.cons opInt 1 (by kernel_rfl) (.cons opInt 1 (by kernel_rfl) (.cons opInt 1 (by kernel_rfl) (.cons opInt 1 (by kernel_rfl) .nil))))))) (by kernel_rfl)
instance : Inhabited Raw := ⟨⟨0, 0, 0, 0, 0, 0, 0⟩⟩
noncomputable def opRaws : Sh.Op Try.prog 37 (List Raw) := Sh.Op.slice 56 Try.underlying37 (by kernel_rfl) (of_decide_eq_true (by kernel_rfl)) (by kernel_rfl) opRaw
noncomputable def opTwo : Sh.Op Try.prog 39 (Int × Int) := Sh.Op.array (sz := 1) (fun r : Int × Int => (r.1, r.2, ())) (fun a => ⟨a.1, a.2.1⟩) (fun _ => rfl) [(3, 0), (3, 1)] Try.underlying39 (by kernel_rfl) rfl
  (.cons opInt 1 (by kernel_rfl) (.cons opInt 1 (by kernel_rfl) .nil)) (by kernel_rfl)
noncomputable def opKiln : Sh.Op Try.prog 41 (List Raw × List Int × Int × Int) := Sh.Op.struct (fun s : List Raw × List Int × Int × Int => (s.1, s.2.1, s.2.2, ())) (fun a => ⟨a.1, a.2.1, a.2.2.1⟩) (fun _ => rfl) [(37, 0), (38, 1), (39, 2)] Try.underlying41 (by kernel_rfl)
  (.cons opRaws 1 (by kernel_rfl) (.cons opInts 1 (by kernel_rfl) (.cons opTwo 2 (by kernel_rfl) .nil))) (by kernel_rfl)
end Go.Proofs.Ythaiheabibapiaa
