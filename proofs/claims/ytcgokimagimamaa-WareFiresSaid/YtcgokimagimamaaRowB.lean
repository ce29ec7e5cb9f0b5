
/- The law of fires holds: whatever shape, body and range it is given, it returns true and leaves its arguments as they were; no condition. -/
import Derived.Test.YtcgokimagimamaaLawB
import Derived.Test.YtcgokimagimamaaRowK
namespace Go.Proofs.Ytcgokimagimamaa
open Go.RowKit Go.ChangeShapes Go.WideShapes Go.ChangeAt
set_option linter.unusedSimpArgs false
set_option linter.unusedVariables false
set_option maxRecDepth 100000
theorem WareFires_lifted (os : Os) (started : os.Started) (H : Type) (enc : TypeId × Value → H) :
    ReturnsInHanded {} Try.checked os 7 .any (Rows.wareFiresSpec.pre6 enc Try.prog Try.f7 Rows.wareFiresRow.domain false) (Rows.wareFiresSpec.post enc Try.prog Try.f7 false true false false) := by
  refine returnsInHanded_of_change (C := Try.checked) own_knob started (by kernel_rfl) Try.func7
    (ChangeSpec.witness6 (enc := enc) (C := Try.checked) false ⟨#[], #[.agg #[.int .i64 0, .int .i64 0, .int .i64 0, .int .i64 0, .int .i64 0, .int .i64 0, .int .i64 0, .int .i64 0, .int .i64 0, .int .i64 0, .int .i64 0], .agg #[.int .i64 0, .int .i64 0, .int .i64 0, .int .i64 0, .int .i64 0, .int .i64 0, .int .i64 0], .agg #[.int .i64 0, .int .i64 0]], []⟩ 8 (by kernel_rfl) (by kernel_rfl) (by kernel_rfl) (by kernel_rfl)) ?_
  intro W base args ds gs before hval0 hW hcnd _
  have hval : ∀ (j : Nat) t v, Try.f7.params[j]? = some t → args[j]? = some v → Value.okWide Try.prog W .any base t v := hval0
  have hW' := hW
  obtain ⟨p, q, hA0, hV, hpq, hfz, hnd⟩ := hW
  have hA : DataW.TrodAll enc Try.prog W 0 (fun _ => true) true Try.f7.params.toList args.toList ds p := hA0
  rw [Try.params7] at hA hval
  suffices hC : Calls Try.prog 7 args W fun e w' => e = .returned (.bool true) ∧ Below W.heap.size W w' from
    hC.mono fun e W' ⟨he, hb⟩ => by
      obtain ⟨hgs, _⟩ := trodVars_none hV
      obtain ⟨d0, d1, d2, hd⟩ := ds_len3 hA
      refine ⟨_, he, post_true (tb := 4) laid_out (of_decide_eq_true (by kernel_rfl)) (by kernel_rfl) Try.underlying4 rfl hW' ?_ ?_ ?_ hb⟩ <;> (rw [hgs, hd]; rfl)

  obtain ⟨v0, v1, v2, d0, d1, d2, p0, p1, p2, rfl, _, _, h0, h1, h2⟩ := trodAll_three hA
  obtain ⟨l, rfl, hl⟩ := open_aggs (t := 25) 11 (by kernel_rfl) (by kernel_rfl) (hval 0 _ v0 rfl rfl)
  obtain ⟨k, rfl, hk⟩ := open_aggs (t := 43) 7 (by kernel_rfl) (by kernel_rfl) (hval 1 _ v1 rfl rfl)
  obtain ⟨r, rfl, hr⟩ := open_aggs (t := 23) 2 (by kernel_rfl) (by kernel_rfl) (hval 2 _ v2 rfl rfl)
  obtain ⟨x0, l_0, rfl, hl1⟩ := len_succ hl; obtain ⟨x1, l_1, rfl, hl2⟩ := len_succ hl1; obtain ⟨x2, l_2, rfl, hl3⟩ := len_succ hl2; obtain ⟨x3, l_3, rfl, hl4⟩ := len_succ hl3; obtain ⟨x4, l_4, rfl, hl5⟩ := len_succ hl4; obtain ⟨x5, l_5, rfl, hl6⟩ := len_succ hl5; obtain ⟨x6, l_6, rfl, hl7⟩ := len_succ hl6; obtain ⟨x7, l_7, rfl, hl8⟩ := len_succ hl7; obtain ⟨x8, l_8, rfl, hl9⟩ := len_succ hl8; obtain ⟨x9, l_9, rfl, hl10⟩ := len_succ hl9; obtain ⟨x10, l_10, rfl, hl11⟩ := len_succ hl10; obtain rfl := len_zero hl11
  obtain ⟨a0, k_0, rfl, hk1⟩ := len_succ hk; obtain ⟨a1, k_1, rfl, hk2⟩ := len_succ hk1; obtain ⟨a2, k_2, rfl, hk3⟩ := len_succ hk2; obtain ⟨a3, k_3, rfl, hk4⟩ := len_succ hk3; obtain ⟨a4, k_4, rfl, hk5⟩ := len_succ hk4; obtain ⟨a5, k_5, rfl, hk6⟩ := len_succ hk5; obtain ⟨a6, k_6, rfl, hk7⟩ := len_succ hk6; obtain rfl := len_zero hk7
  obtain ⟨c0, r_0, rfl, hr1⟩ := len_succ hr; obtain ⟨c1, r_1, rfl, hr2⟩ := len_succ hr1; obtain rfl := len_zero hr2
  exact WareFires_any ⟨x0, ⟨x1, x2⟩, ⟨x3, x4⟩, ⟨x5, x6⟩, x7, ⟨x8, x9⟩, x10⟩ ⟨a0, ⟨a1, a2⟩, ⟨a3, a4⟩, ⟨a5, a6⟩⟩ ⟨c0, c1⟩ W
theorem wareFires_holds : Rows.WareFiresSaid :=
  OpenClaim.holds_of_wide 7 Try.f7 rfl rfl rfl rfl rfl rfl rfl ⟨rfl, rfl, rfl, rfl, rfl⟩ rfl rfl rfl rfl rfl (by kernel_rfl) Try.func7 (by kernel_rfl)
    (of_decide_eq_true (by kernel_rfl)) (by unfold Func.isWrapper; first | (rw [if_pos (by decide +kernel)]; kernel_rfl) | (rw [if_neg (by decide +kernel)]; exact ⟨rfl, rfl⟩))
    (fun os started H enc _ => WareFires_lifted os started H enc)

end Go.Proofs.Ytcgokimagimamaa
