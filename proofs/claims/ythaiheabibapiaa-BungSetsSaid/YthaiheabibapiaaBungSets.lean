/- The law of what is set holds: whatever order, saggars and change it is given, it returns true and leaves its arguments as they were; no condition. -/
import Derived.Test.YthaiheabibapiaaT4
import Derived.Test.YthaiheabibapiaaK4
namespace Go.Proofs.Ythaiheabibapiaa
open Go.Sh Go.Sh.C3 Go.RowKit Go.ChangeShapes Go.WideShapes Go.ChangeAt
set_option linter.unusedSimpArgs false
set_option linter.unusedVariables false
set_option maxRecDepth 100000
theorem BungSets_lifted (os : Os) (started : os.Started) (H : Type) (enc : TypeId × Value → H) :
    ReturnsInHanded {} Try.checked os 14 .any (Rows.bungSetsSpec.pre6 enc Try.prog Try.f14 Rows.bungSetsRow.domain false) (Rows.bungSetsSpec.post enc Try.prog Try.f14 false true false false) := by
  refine returnsInHanded_of_change_sized (C := Try.checked) own_knob started (by kernel_rfl) Try.func14
    (ChangeSpec.witness6 (enc := enc) (C := Try.checked) false ⟨#[], #[.agg #[.int .i64 0, .int .i64 0, .slice none 0 0], .slice none 0 0, .agg #[.int .i64 0, .int .i64 0, .slice none 0 0, .int .i64 0, .int .i64 0, .int .i64 0, .int .i64 0, .int .i64 0, .int .i64 0, .int .i64 0, .int .i64 0, .int .i64 0]], []⟩ 8 (by kernel_rfl) (by kernel_rfl) (by kernel_rfl) (by kernel_rfl)) ?_
  intro W base args ds gs before hval0 hW hcnd hsz0 _
  have hsz : (DataW.weightsEach Try.prog (Try.f14.params.toList ++ Rows.bungSetsSpec.plain.varTypes Try.prog) (ds ++ gs)).all (· ≤ reachBytes) = true := hsz0
  have hval : ∀ (j : Nat) t v, Try.f14.params[j]? = some t → args[j]? = some v → Value.okWide Try.prog W .any base t v := hval0
  have hW' := hW
  obtain ⟨p, q, hA0, hV, hpq, hfz, hnd⟩ := hW
  have hA : DataW.TrodAll enc Try.prog W 0 (fun _ => true) true Try.f14.params.toList args.toList ds p := hA0
  rw [Try.params14] at hA hval hsz
  suffices hC : Calls Try.prog 14 args.toList.toArray W fun e w' => e = .returned (.bool true) ∧ Below W.heap.size W w' from by
    rw [Array.toArray_toList] at hC
    exact hC.mono fun e W' ⟨he, hb⟩ => by
      obtain ⟨hgs, _⟩ := trodVars_none hV
      obtain ⟨d0, d1, d2, hd⟩ := ds_len3 hA
      refine ⟨_, he, post_true (tb := 4) laid_out (of_decide_eq_true (by kernel_rfl)) (by kernel_rfl) Try.underlying4 rfl hW' ?_ ?_ ?_ hb⟩ <;> (rw [hgs, hd]; rfl)
  have hval2 : ∀ (j : Nat) t v, [93, 24, 95][j]? = some t → args.toList[j]? = some v → Value.okWide Try.prog W .any base t v := fun j t v e1 e2 => hval j t v (by simpa using e1) (by simpa using e2)

  obtain ⟨us, hr, a, r, rfl, hB, l, r, rfl, hN, b, r, rfl, hC, rfl⟩ := (OpA.cons opOrder (OpA.cons opSags (OpA.cons opChange OpA.nil))) hA hval2 hsz
  exact calls_of_snd isFn_14 (c_L_BungSets_14 a.1 a.2 l b.1.1 b.1.2 b.2.1 b.2.2 (by have h : a.2.length * 8 ≤ 140737488351232 := hB.2.1.1; omega)) hr
theorem bungSets_holds : Rows.BungSetsSaid :=
  OpenClaim.holds_of_wide 14 Try.f14 rfl rfl rfl rfl rfl rfl rfl ⟨rfl, rfl, rfl, rfl, rfl⟩ rfl rfl rfl rfl rfl (by kernel_rfl) Try.func14 (by kernel_rfl)
    (of_decide_eq_true (by kernel_rfl)) (by unfold Func.isWrapper; first | (rw [if_pos (by decide +kernel)]; kernel_rfl) | (rw [if_neg (by decide +kernel)]; exact ⟨rfl, rfl⟩))
    (fun os started H enc _ => BungSets_lifted os started H enc)

end Go.Proofs.Ythaiheabibapiaa
