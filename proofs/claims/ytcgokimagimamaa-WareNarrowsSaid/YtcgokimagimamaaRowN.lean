
/- The law of narrowing holds: whatever list, number and bars it is given, it returns true and leaves its arguments as they were; no condition. -/
import Derived.Test.YtcgokimagimamaaPureN
import Derived.Test.YtcgokimagimamaaGI
import Derived.Test.YtcgokimagimamaaGG
namespace Go.Proofs.Ytcgokimagimamaa.F
open Go.RowKit Go.ChangeShapes Go.WideShapes Go.Proofs.YtcgokimagimamaaW.PrintWords
abbrev B3 : Int → Prop := fun n => -9223372036854775808 ≤ n ∧ n ≤ 9223372036854775807
theorem op3 : Opens Try.prog 3 (Kd.int .i64) B3 := opens_int Try.underlying3
abbrev B37 : List Int → Prop := fun l => l.length * 8 ≤ 140737488351232 ∧ l.length ≤ 9223372036854775807 ∧ ∀ x ∈ l, B3 x
theorem op37 : Opens Try.prog 37 (Kd.slice 3 (Kd.int .i64)) B37 := opens_slice 8 Try.underlying37 (by kernel_rfl) (by kernel_rfl) op3
def B46 (x : S46) : Prop := B3 x.f0 ∧ (B3 x.f1 ∧ (B3 x.f2))
theorem op46 : Opens Try.prog 46 k46 B46 := opens_array (sz := 1) (fun x : S46 => (x.f0, x.f1, x.f2)) (fun a => (⟨a.1, a.2.1, a.2.2⟩ : S46)) [(3, 0), (3, 1), (3, 2)] Try.underlying46 (by kernel_rfl) (by kernel_rfl) rfl (opensFs_cons (by kernel_rfl) op3 (opensFs_cons (by kernel_rfl) op3 (opensFs_one (by kernel_rfl) op3))) (fun _ => rfl)
instance : Inhabited S46 := ⟨z46⟩
abbrev B54 : List S46 → Prop := fun l => l.length * 24 ≤ 140737488351232 ∧ l.length ≤ 9223372036854775807 ∧ ∀ x ∈ l, B46 x
theorem op54 : Opens Try.prog 54 (Kd.slice 46 k46) B54 := opens_slice 24 Try.underlying54 (by kernel_rfl) (by kernel_rfl) op46
end Go.Proofs.Ytcgokimagimamaa.F
namespace Go.Proofs.Ytcgokimagimamaa
open Go.RowKit Go.ChangeShapes Go.WideShapes Go.ChangeAt
set_option linter.unusedSimpArgs false
set_option linter.unusedVariables false
set_option maxRecDepth 100000
theorem WareNarrows_lifted (os : Os) (started : os.Started) (H : Type) (enc : TypeId × Value → H) :
    ReturnsInHanded {} Try.checked os 8 .any (Rows.wareNarrowsSpec.pre6 enc Try.prog Try.f8 Rows.wareNarrowsRow.domain false) (Rows.wareNarrowsSpec.post enc Try.prog Try.f8 false true false false) := by
  refine returnsInHanded_of_change_sized (C := Try.checked) own_knob started (by kernel_rfl) Try.func8
    (ChangeSpec.witness6 (enc := enc) (C := Try.checked) false ⟨#[], #[.slice none 0 0, .int .i64 0, .slice none 0 0], []⟩ 8 (by kernel_rfl) (by kernel_rfl) (by kernel_rfl) (by kernel_rfl)) ?_
  intro W base args ds gs before hval0 hW hcnd hsz0 _
  have hsz : (DataW.weightsEach Try.prog (Try.f8.params.toList ++ Rows.wareNarrowsSpec.plain.varTypes Try.prog) (ds ++ gs)).all (· ≤ reachBytes) = true := hsz0
  have hval : ∀ (j : Nat) t v, Try.f8.params[j]? = some t → args[j]? = some v → Value.okWide Try.prog W .any base t v := hval0
  have hW' := hW
  obtain ⟨p, q, hA0, hV, hpq, hfz, hnd⟩ := hW
  have hA : DataW.TrodAll enc Try.prog W 0 (fun _ => true) true Try.f8.params.toList args.toList ds p := hA0
  rw [Try.params8] at hA hval hsz
  suffices hC : Calls Try.prog 8 args W fun e w' => e = .returned (.bool true) ∧ Below W.heap.size W w' from
    hC.mono fun e W' ⟨he, hb⟩ => by
      obtain ⟨hgs, _⟩ := trodVars_none hV
      obtain ⟨d0, d1, d2, hd⟩ := ds_len3 hA
      refine ⟨_, he, post_true (tb := 4) laid_out (of_decide_eq_true (by kernel_rfl)) (by kernel_rfl) Try.underlying4 rfl hW' ?_ ?_ ?_ hb⟩ <;> (rw [hgs, hd]; rfl)

  obtain ⟨v0, v1, v2, d0, d1, d2, p0, p1, p2, rfl, hds, _, h0, h1, h2⟩ := trodAll_three hA
  obtain ⟨x0, hK0, hB0⟩ := F.open_arg F.op37 0 h0 hsz rfl (by rw [hds]; rfl)
  obtain ⟨A0, n0, c0, rfl⟩ := okWide_slice Try.underlying37 (hval 0 _ v0 rfl rfl)
  obtain ⟨rfl, hc0, hr0⟩ := F.arg_slice hK0
  obtain ⟨x1, hK1, hB1⟩ := F.open_arg F.op3 1 h1 hsz rfl (by rw [hds]; rfl)
  obtain ⟨c1, rfl⟩ := okWide_int Try.underlying3 (hval 1 _ v1 rfl rfl)
  obtain rfl : c1 = x1 := by have q := hK1; simp [Value.cells] at q; injection q with q; injection q
  obtain ⟨x2, hK2, hB2⟩ := F.open_arg F.op54 2 h2 hsz rfl (by rw [hds]; rfl)
  obtain ⟨A2, n2, c2, rfl⟩ := okWide_slice Try.underlying54 (hval 2 _ v2 rfl rfl)
  obtain ⟨rfl, hc2, hr2⟩ := F.arg_slice hK2
  obtain ⟨k, hk⟩ := F.narrows_pure x0 c1 x2 (by have := hB0.1; omega) (by have := hB2.1; omega); exact F.potbanklaw01_WareNarrows.calls k _ _ x0 c1 _ _ x2 true W hr0 hc0 hr2 hc2 hk
theorem wareNarrows_holds : Rows.WareNarrowsSaid :=
  OpenClaim.holds_of_wide 8 Try.f8 rfl rfl rfl rfl rfl rfl rfl ⟨rfl, rfl, rfl, rfl, rfl⟩ rfl rfl rfl rfl rfl (by kernel_rfl) Try.func8 (by kernel_rfl)
    (of_decide_eq_true (by kernel_rfl)) (by unfold Func.isWrapper; first | (rw [if_pos (by decide +kernel)]; kernel_rfl) | (rw [if_neg (by decide +kernel)]; exact ⟨rfl, rfl⟩))
    (fun os started H enc _ => WareNarrows_lifted os started H enc)

end Go.Proofs.Ytcgokimagimamaa
