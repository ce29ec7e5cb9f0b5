
/- The law of checks holds: whatever lists, shape and number it is given, it returns true and leaves its arguments as they were; no condition. -/
import Derived.Test.YtcgokimagimamaaPureC
import Derived.Test.YtcgokimagimamaaGI
import Derived.Test.YtcgokimagimamaaGG
namespace Go.Proofs.Ytcgokimagimamaa.F
open Go.RowKit Go.ChangeShapes Go.WideShapes Go.Proofs.YtcgokimagimamaaW.PrintWords
abbrev B3 : Int → Prop := fun n => -9223372036854775808 ≤ n ∧ n ≤ 9223372036854775807
theorem op3 : Opens Try.prog 3 (Kd.int .i64) B3 := opens_int Try.underlying3
def B23 (x : S23) : Prop := B3 x.f0 ∧ (B3 x.f1)
theorem op23 : Opens Try.prog 23 k23 B23 := opens_struct (fun x : S23 => (x.f0, x.f1)) (fun a => (⟨a.1, a.2⟩ : S23)) [(3, 0), (3, 1)] Try.underlying23 (by kernel_rfl) rfl (opensFs_cons (by kernel_rfl) op3 (opensFs_one (by kernel_rfl) op3)) (fun _ => rfl)
def B25 (x : S25) : Prop := B3 x.f0 ∧ (B23 x.f1 ∧ (B23 x.f2 ∧ (B23 x.f3 ∧ (B3 x.f4 ∧ (B23 x.f5 ∧ (B3 x.f6))))))
theorem op25 : Opens Try.prog 25 k25 B25 := opens_struct (fun x : S25 => (x.f0, x.f1, x.f2, x.f3, x.f4, x.f5, x.f6)) (fun a => (⟨a.1, a.2.1, a.2.2.1, a.2.2.2.1, a.2.2.2.2.1, a.2.2.2.2.2.1, a.2.2.2.2.2.2⟩ : S25)) [(3, 0), (23, 1), (23, 3), (23, 5), (3, 7), (23, 8), (3, 10)] Try.underlying25 (by kernel_rfl) rfl (opensFs_cons (by kernel_rfl) op3 (opensFs_cons (by kernel_rfl) op23 (opensFs_cons (by kernel_rfl) op23 (opensFs_cons (by kernel_rfl) op23 (opensFs_cons (by kernel_rfl) op3 (opensFs_cons (by kernel_rfl) op23 (opensFs_one (by kernel_rfl) op3))))))) (fun _ => rfl)
instance : Inhabited S25 := ⟨z25⟩
abbrev B63 : List S25 → Prop := fun l => l.length * 88 ≤ 140737488351232 ∧ l.length ≤ 9223372036854775807 ∧ ∀ x ∈ l, B25 x
theorem op63 : Opens Try.prog 63 (Kd.slice 25 k25) B63 := opens_slice 88 Try.underlying63 (by kernel_rfl) (by kernel_rfl) op25
def B43 (x : S43) : Prop := B3 x.f0 ∧ (B23 x.f1 ∧ (B23 x.f2 ∧ (B23 x.f3)))
theorem op43 : Opens Try.prog 43 k43 B43 := opens_struct (fun x : S43 => (x.f0, x.f1, x.f2, x.f3)) (fun a => (⟨a.1, a.2.1, a.2.2.1, a.2.2.2⟩ : S43)) [(3, 0), (23, 1), (23, 3), (23, 5)] Try.underlying43 (by kernel_rfl) rfl (opensFs_cons (by kernel_rfl) op3 (opensFs_cons (by kernel_rfl) op23 (opensFs_cons (by kernel_rfl) op23 (opensFs_one (by kernel_rfl) op23)))) (fun _ => rfl)
instance : Inhabited S43 := ⟨z43⟩
abbrev B64 : List S43 → Prop := fun l => l.length * 56 ≤ 140737488351232 ∧ l.length ≤ 9223372036854775807 ∧ ∀ x ∈ l, B43 x
theorem op64 : Opens Try.prog 64 (Kd.slice 43 k43) B64 := opens_slice 56 Try.underlying64 (by kernel_rfl) (by kernel_rfl) op43
structure S66 where
  f0 : List S25
  f1 : List S43
def k66 : Kd S66 := Kd.iso (Kd.pair (Kd.slice 25 k25) ((Kd.slice 43 k43))) (fun x : S66 => (x.f0, x.f1))
theorem k66_open {w : World} {x : S66} {cs : List Value} (h : k66.K w x cs) : ∃ A0 c0 A1 c1, cs = [.slice A0 x.f0.length c0, .slice A1 x.f1.length c1] ∧ x.f0.length ≤ c0 ∧ Kd.C k25 w A0 x.f0.length x.f0 ∧ x.f1.length ≤ c1 ∧ Kd.C k43 w A1 x.f1.length x.f1 := by
  obtain ⟨_, _, rfl, ⟨A0, c0, rfl, hc0, hr0⟩, ⟨A1, c1, rfl, hc1, hr1⟩⟩ := h
  exact ⟨A0, c0, A1, c1, rfl, hc0, hr0, hc1, hr1⟩
def B66 (x : S66) : Prop := B63 x.f0 ∧ (B64 x.f1)
theorem op66 : Opens Try.prog 66 k66 B66 := opens_struct (fun x : S66 => (x.f0, x.f1)) (fun a => (⟨a.1, a.2⟩ : S66)) [(63, 0), (64, 1)] Try.underlying66 (by kernel_rfl) rfl (opensFs_cons (by kernel_rfl) op63 (opensFs_one (by kernel_rfl) op64)) (fun _ => rfl)
end Go.Proofs.Ytcgokimagimamaa.F
namespace Go.Proofs.Ytcgokimagimamaa
open Go.RowKit Go.ChangeShapes Go.WideShapes Go.ChangeAt
set_option linter.unusedSimpArgs false
set_option linter.unusedVariables false
set_option maxRecDepth 100000
theorem WareChecks_lifted (os : Os) (started : os.Started) (H : Type) (enc : TypeId × Value → H) :
    ReturnsInHanded {} Try.checked os 9 .any (Rows.wareChecksSpec.pre6 enc Try.prog Try.f9 Rows.wareChecksRow.domain false) (Rows.wareChecksSpec.post enc Try.prog Try.f9 false true false false) := by
  refine returnsInHanded_of_change_sized (C := Try.checked) own_knob started (by kernel_rfl) Try.func9
    (ChangeSpec.witness6 (enc := enc) (C := Try.checked) false ⟨#[], #[.agg #[.slice none 0 0, .slice none 0 0], .agg #[.int .i64 0, .int .i64 0, .int .i64 0, .int .i64 0, .int .i64 0, .int .i64 0, .int .i64 0, .int .i64 0, .int .i64 0, .int .i64 0, .int .i64 0], .int .i64 0], []⟩ 8 (by kernel_rfl) (by kernel_rfl) (by kernel_rfl) (by kernel_rfl)) ?_
  intro W base args ds gs before hval0 hW hcnd hsz0 _
  have hsz : (DataW.weightsEach Try.prog (Try.f9.params.toList ++ Rows.wareChecksSpec.plain.varTypes Try.prog) (ds ++ gs)).all (· ≤ reachBytes) = true := hsz0
  have hval : ∀ (j : Nat) t v, Try.f9.params[j]? = some t → args[j]? = some v → Value.okWide Try.prog W .any base t v := hval0
  have hW' := hW
  obtain ⟨p, q, hA0, hV, hpq, hfz, hnd⟩ := hW
  have hA : DataW.TrodAll enc Try.prog W 0 (fun _ => true) true Try.f9.params.toList args.toList ds p := hA0
  rw [Try.params9] at hA hval hsz
  suffices hC : Calls Try.prog 9 args W fun e w' => e = .returned (.bool true) ∧ Below W.heap.size W w' from
    hC.mono fun e W' ⟨he, hb⟩ => by
      obtain ⟨hgs, _⟩ := trodVars_none hV
      obtain ⟨d0, d1, d2, hd⟩ := ds_len3 hA
      refine ⟨_, he, post_true (tb := 4) laid_out (of_decide_eq_true (by kernel_rfl)) (by kernel_rfl) Try.underlying4 rfl hW' ?_ ?_ ?_ hb⟩ <;> (rw [hgs, hd]; rfl)

  obtain ⟨v0, v1, v2, d0, d1, d2, p0, p1, p2, rfl, hds, _, h0, h1, h2⟩ := trodAll_three hA
  obtain ⟨x0, hK0, hB0⟩ := F.open_arg F.op66 0 h0 hsz rfl (by rw [hds]; rfl)
  obtain ⟨cs0, rfl⟩ := F.agg_of (.inl ⟨_, Try.underlying66⟩) (hval 0 _ v0 rfl rfl)
  obtain ⟨A0_0, c0_0, A0_1, c0_1, e0, hc0_0, hr0_0, hc0_1, hr0_1⟩ := F.k66_open hK0
  rw [F.arg_agg e0]
  obtain ⟨x1, hK1, hB1⟩ := F.open_arg F.op25 1 h1 hsz rfl (by rw [hds]; rfl)
  obtain ⟨cs1, rfl⟩ := F.agg_of (.inl ⟨_, Try.underlying25⟩) (hval 1 _ v1 rfl rfl)
  rw [F.arg_agg (F.k25_open hK1)]
  obtain ⟨x2, hK2, hB2⟩ := F.open_arg F.op3 2 h2 hsz rfl (by rw [hds]; rfl)
  obtain ⟨c2, rfl⟩ := okWide_int Try.underlying3 (hval 2 _ v2 rfl rfl)
  obtain rfl : c2 = x2 := by have q := hK2; simp [Value.cells] at q; injection q with q; injection q
  obtain ⟨k, hk⟩ := F.checks_pure x0.f0 x0.f1 x1.f0 x1.f1.f0 x1.f1.f1 x1.f2.f0 x1.f2.f1 x1.f3.f0 x1.f3.f1 x1.f4 x1.f5.f0 x1.f5.f1 x1.f6 c2 (by have := hB0.2.1; omega); exact F.potbanklaw01_WareChecks.calls k _ _ x0.f0 _ _ x0.f1 x1.f0 x1.f1.f0 x1.f1.f1 x1.f2.f0 x1.f2.f1 x1.f3.f0 x1.f3.f1 x1.f4 x1.f5.f0 x1.f5.f1 x1.f6 c2 true W hr0_0 hc0_0 hr0_1 hc0_1 hk
theorem wareChecks_holds : Rows.WareChecksSaid :=
  OpenClaim.holds_of_wide 9 Try.f9 rfl rfl rfl rfl rfl rfl rfl ⟨rfl, rfl, rfl, rfl, rfl⟩ rfl rfl rfl rfl rfl (by kernel_rfl) Try.func9 (by kernel_rfl)
    (of_decide_eq_true (by kernel_rfl)) (by unfold Func.isWrapper; first | (rw [if_pos (by decide +kernel)]; kernel_rfl) | (rw [if_neg (by decide +kernel)]; exact ⟨rfl, rfl⟩))
    (fun os started H enc _ => WareChecks_lifted os started H enc)

end Go.Proofs.Ytcgokimagimamaa
