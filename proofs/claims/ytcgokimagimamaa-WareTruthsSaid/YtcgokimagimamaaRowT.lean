
/- The law of truths holds: whatever list and pairs of numbers it is given, it returns true and leaves its arguments as they were; no condition. -/
import Derived.Test.YtcgokimagimamaaPureT
import Derived.Test.YtcgokimagimamaaConv
namespace Go.Proofs.Ytcgokimagimamaa
open Go.RowKit Go.ChangeShapes Go.WideShapes Go.ChangeAt
set_option linter.unusedSimpArgs false
set_option linter.unusedVariables false
set_option maxRecDepth 100000
theorem WareTruths_lifted (os : Os) (started : os.Started) (H : Type) (enc : TypeId × Value → H) :
    ReturnsInHanded {} Try.checked os 5 .any (Rows.wareTruthsSpec.pre6 enc Try.prog Try.f5 Rows.wareTruthsRow.domain false) (Rows.wareTruthsSpec.post enc Try.prog Try.f5 false true false false) := by
  refine returnsInHanded_of_change_sized (C := Try.checked) own_knob started (by kernel_rfl) Try.func5
    (ChangeSpec.witness6 (enc := enc) (C := Try.checked) false ⟨#[], #[.slice none 0 0, .agg #[.int .i64 0, .int .i64 0], .agg #[.int .i64 0, .int .i64 0]], []⟩ 8 (by kernel_rfl) (by kernel_rfl) (by kernel_rfl) (by kernel_rfl)) ?_
  intro W base args ds gs before hval0 hW hcnd hsz0 _
  have hsz : (DataW.weightsEach Try.prog (Try.f5.params.toList ++ Rows.wareTruthsSpec.plain.varTypes Try.prog) (ds ++ gs)).all (· ≤ reachBytes) = true := hsz0
  have hval : ∀ (j : Nat) t v, Try.f5.params[j]? = some t → args[j]? = some v → Value.okWide Try.prog W .any base t v := hval0
  have hW' := hW
  obtain ⟨p, q, hA0, hV, hpq, hfz, hnd⟩ := hW
  have hA : DataW.TrodAll enc Try.prog W 0 (fun _ => true) true Try.f5.params.toList args.toList ds p := hA0
  rw [Try.params5] at hA hval hsz
  suffices hC : Calls Try.prog 5 args W fun e w' => e = .returned (.bool true) ∧ Below W.heap.size W w' from
    hC.mono fun e W' ⟨he, hb⟩ => by
      obtain ⟨hgs, _⟩ := trodVars_none hV
      obtain ⟨d0, d1, d2, hd⟩ := ds_len3 hA
      refine ⟨_, he, post_true (tb := 4) laid_out (of_decide_eq_true (by kernel_rfl)) (by kernel_rfl) Try.underlying4 rfl hW' ?_ ?_ ?_ hb⟩ <;> (rw [hgs, hd]; rfl)

  obtain ⟨v0, v1, v2, d0, d1, d2, p0, p1, p2, rfl, hds, _, h0, h1, h2⟩ := trodAll_three hA
  obtain ⟨xs, hx, hl⟩ := open_ints_rd Try.underlying37 Try.underlying3 (by kernel_rfl) (okWide_slice Try.underlying37 (hval 0 _ v0 rfl rfl)) h0
  have hlen := rd_reach hsz 0 (d := d0) rfl (by rw [hds]; rfl) Try.underlying37 (by (have : Try.prog.bytesOf 3 = 8 := by kernel_rfl); omega) (l := xs.length) (hl.imp (fun h => by rw [h]; rfl) id)
  obtain ⟨k, rfl, hk⟩ := open_aggs (t := 26) 2 (by kernel_rfl) (by kernel_rfl) (hval 1 _ v1 rfl rfl)
  obtain ⟨q, rfl, hq⟩ := open_aggs (t := 26) 2 (by kernel_rfl) (by kernel_rfl) (hval 2 _ v2 rfl rfl)
  obtain ⟨a0, k_0, rfl, hk1⟩ := len_succ hk; obtain ⟨a1, k_1, rfl, hk2⟩ := len_succ hk1; obtain rfl := len_zero hk2
  obtain ⟨b0, q_0, rfl, hq1⟩ := len_succ hq; obtain ⟨b1, q_1, rfl, hq2⟩ := len_succ hq1; obtain rfl := len_zero hq2
  obtain ⟨A, cx, rfl, hcx, hrx⟩ := F.c_ints (by omega) hx
  exact F.potbanklaw01_WareTruths.calls _ _ xs a0 a1 b0 b1 true W hrx hcx (F.truths_f xs a0 a1 b0 b1 (by omega))
theorem wareTruths_holds : Rows.WareTruthsSaid :=
  OpenClaim.holds_of_wide 5 Try.f5 rfl rfl rfl rfl rfl rfl rfl ⟨rfl, rfl, rfl, rfl, rfl⟩ rfl rfl rfl rfl rfl (by kernel_rfl) Try.func5 (by kernel_rfl)
    (of_decide_eq_true (by kernel_rfl)) (by unfold Func.isWrapper; first | (rw [if_pos (by decide +kernel)]; kernel_rfl) | (rw [if_neg (by decide +kernel)]; exact ⟨rfl, rfl⟩))
    (fun os started H enc _ => WareTruths_lifted os started H enc)

end Go.Proofs.Ytcgokimagimamaa
