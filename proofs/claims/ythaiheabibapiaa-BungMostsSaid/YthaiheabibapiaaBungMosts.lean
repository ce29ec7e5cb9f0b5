/- The law of the most saggars holds: whatever saggars it is given, it returns true and leaves its arguments as they were; no condition. -/
import Derived.Test.YthaiheabibapiaaT
import Derived.Test.YthaiheabibapiaaK5
namespace Go.Proofs.Ythaiheabibapiaa
open Go.Sh Go.Sh.C3 Go.RowKit Go.ChangeShapes Go.WideShapes Go.ChangeAt
set_option linter.unusedSimpArgs false
set_option linter.unusedVariables false
set_option maxRecDepth 100000
theorem BungMosts_lifted (os : Os) (started : os.Started) (H : Type) (enc : TypeId × Value → H) :
    ReturnsInHanded {} Try.checked os 16 .any (Rows.bungMostsSpec.pre6 enc Try.prog Try.f16 Rows.bungMostsRow.domain false) (Rows.bungMostsSpec.post enc Try.prog Try.f16 false true false false) := by
  refine returnsInHanded_of_change_sized (C := Try.checked) own_knob started (by kernel_rfl) Try.func16
    (ChangeSpec.witness6 (enc := enc) (C := Try.checked) false ⟨#[], #[.slice none 0 0], []⟩ 8 (by kernel_rfl) (by kernel_rfl) (by kernel_rfl) (by kernel_rfl)) ?_
  intro W base args ds gs before hval0 hW hcnd hsz0 _
  have hsz : (DataW.weightsEach Try.prog (Try.f16.params.toList ++ Rows.bungMostsSpec.plain.varTypes Try.prog) (ds ++ gs)).all (· ≤ reachBytes) = true := hsz0
  have hval : ∀ (j : Nat) t v, Try.f16.params[j]? = some t → args[j]? = some v → Value.okWide Try.prog W .any base t v := hval0
  have hW' := hW
  obtain ⟨p, q, hA0, hV, hpq, hfz, hnd⟩ := hW
  have hA : DataW.TrodAll enc Try.prog W 0 (fun _ => true) true Try.f16.params.toList args.toList ds p := hA0
  rw [Try.params16] at hA hval hsz
  suffices hC : Calls Try.prog 16 args.toList.toArray W fun e w' => e = .returned (.bool true) ∧ Below W.heap.size W w' from by
    rw [Array.toArray_toList] at hC
    exact hC.mono fun e W' ⟨he, hb⟩ => by
      obtain ⟨hgs, _⟩ := trodVars_none hV
      obtain ⟨d0, hd⟩ := ds_len1 hA
      refine ⟨_, he, post_true (tb := 4) laid_out (of_decide_eq_true (by kernel_rfl)) (by kernel_rfl) Try.underlying4 rfl hW' ?_ ?_ ?_ hb⟩ <;> (rw [hgs, hd]; rfl)
  have hval2 : ∀ (j : Nat) t v, [24][j]? = some t → args.toList[j]? = some v → Value.okWide Try.prog W .any base t v := fun j t v e1 e2 => hval j t v (by simpa using e1) (by simpa using e2)

  obtain ⟨us, hr, a, r, rfl, hB, rfl⟩ := (OpA.cons opSags OpA.nil) hA hval2 hsz
  exact calls_of_snd isFn_16 (c_L_BungMosts_16 a) hr
theorem bungMosts_holds : Rows.BungMostsSaid :=
  OpenClaim.holds_of_wide 16 Try.f16 rfl rfl rfl rfl rfl rfl rfl ⟨rfl, rfl, rfl, rfl, rfl⟩ rfl rfl rfl rfl rfl (by kernel_rfl) Try.func16 (by kernel_rfl)
    (of_decide_eq_true (by kernel_rfl)) (by unfold Func.isWrapper; first | (rw [if_pos (by decide +kernel)]; kernel_rfl) | (rw [if_neg (by decide +kernel)]; exact ⟨rfl, rfl⟩))
    (fun os started H enc _ => BungMosts_lifted os started H enc)

end Go.Proofs.Ythaiheabibapiaa
