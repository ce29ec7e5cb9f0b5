
/- slices.AppendSeq and slices.Collect of whole numbers, over whatever iterator keeps its word. -/
import Derived.Test.YtcgokimagimamaaProg
import Derived.Test.YtcgokimagimamaaOwn
import Derived.TacticsInMore
import Derived.LoopIn
import Derived.RangeFuncLeaves
import Derived.RangeFuncCalls
namespace Go.Proofs.Ytcgokimagimamaa
open Go.RowKit
attribute [local go_sem] Oper.semAt_some
set_option maxHeartbeats 1000000
set_option maxRecDepth 100000
set_option linter.unusedSimpArgs false
set_option linter.unusedVariables false
theorem infoInt : (Try.prog.info? 3).map (fun i => (i.zero, i.size, i.bytes)) = some (some (.int .i64 0), 1, 8) := by kernel_rfl
/-- What the loop of AppendSeq holds between two rounds. -/
def SeqAt (n0 : Nat) (w : World) (xs : List Int) (i : Nat) (S : Nat → Prop) (A : World) : Prop :=
  ∃ vs, A.heap[n0]? = some (.cells #[vs] 37 (0, 0)) ∧ OwnL 1 encI A n0 3 vs (xs.take i) ∧ S n0 ∧ (∀ g, vs.ownBlock = some g → S g) ∧ Below n0 w A
theorem SeqAt.keep {n0 : Nat} {w : World} {xs : List Int} {i : Nat} {S : Nat → Prop} {A B : World} {N : Nat} (hN : n0 ≤ N) (h : SeqAt n0 w xs i S A) (hk : Keep (fun k => k < N ∨ S k) A B) : SeqAt n0 w xs i S B := by
  obtain ⟨vs, h1, h2, h3, h4, h5⟩ := h
  exact ⟨vs, (hk.block _ (.inr h3)).trans h1, h2.same (fun g hg => hk.block g (.inr (h4 g hg))), h3, h4, h5.trans (hk.below (fun k hlt => .inl (by omega)))⟩
theorem AppendSeqI (gf : Nat) (lb : Array Value) (Foot : Nat → Prop) (xs : List Int) (w0 w : World) (n : Nat) (hit : IterC Try.prog gf lb (fun x : Int => #[.int .i64 x]) Foot xs w0) (hF : Keep Foot w0 w) (hFl : ∀ k, Foot k → k < w.heap.size)
    (hlen : xs.length ≤ 1000000000) (eg : ∀ args w, (callFunc gf args).run Try.prog w = .ok (.enter gf args) w) :
    CallsIn Fence.wide n Try.prog 113 #[.slice none 0 0, .func (.func gf) #[] lb] w fun e w' => ∃ v, e = .returned v ∧ OwnL 1 encI w' w.heap.size 3 v xs ∧ Below w.heap.size w w' := by
  refine callsIn_of_wp_marks Try.func113 rfl trivial ?_ rfl
  simp only [Try.ntmps113, List.size_toArray, List.length_cons, List.length_nil, Nat.reduceAdd, Nat.reduceSub, Array.replicate_succ, Array.replicate_zero, List.push_toArray, List.append_toArray, List.nil_append, List.cons_append]
  gi_wp2
  have hb1 : Below w.heap.size w (w.alloc (.cells #[.slice none 0 0] 37)) := (Below.refl _ w).alloc (Nat.le_refl _) _
  refine wpIn_iter (w0 := w0) (encs := fun x : Int => #[.int .i64 x]) (Foot := Foot) (xs := xs) rfl eg hit (hF.trans (Keep.of_below hb1 (fun k hk => hFl k hk))) (fun x => rfl) (fun k => k = w.heap.size)
    (fun k hk => ⟨by subst hk; simp, fun h => by have := hFl k h; omega⟩) (fun k hk => by have := hFl k hk; simp; omega) (SeqAt w.heap.size w xs) (fun _ _ _ _ => False)
    (fun i S A B h hk => h.keep (N := (w.alloc (.cells #[.slice none 0 0] 37)).heap.size) (by simp) hk) (fun _ _ _ _ _ h _ => h.elim) ?h0
    (fun x => { tmps := #[.slice none 0 0, .func (.func gf) #[] lb, .pointer (some ⟨w.heap.size, 0, none⟩), undef, .slice none 0 0, .int .i64 x, .func (.func gf) #[] lb, .int .i64 x, undef, undef, undef, undef, undef], defers := [] }) ?hassign ?hbody ?hdone ?hstop
  case h0 => exact ⟨.slice none 0 0, World.alloc_heap_new w _, by simpa using OwnL.nil _ _ _ _ _, rfl, fun g hg => by simp [Value.ownBlock] at hg, hb1⟩
  case hassign =>
    intro l m x W K hK
    have HK := hidI hK
    clear hK
    gi_wp2_with ((with_reducible refine And.intro ?_ ?_); (focus (intro _ _; exact True.intro)))
    exact HK.out
  case hbody =>
    intro l m i x S W hI hx hWs hSl
    obtain ⟨vs, h1, h2, h3, h4, h5⟩ := hI
    have hBlt : w.heap.size < W.heap.size := (Array.getElem?_eq_some_iff.1 h1).1
    obtain ⟨i0, hi, hz0, hz1, hz2⟩ := info_parts infoInt
    have hown : (W.alloc (.cells #[.int .i64 x] 3)).ownsRow w.heap.size 3 1 vs (xs.take i).length ((xs.take i).flatMap encI) := h2.below ((Below.refl _ W).alloc (Nat.le_refl _) _)
    have hli : (xs.take i).length ≤ 1000000000 := by rw [List.length_take]; omega
    have cb : W.cell? ⟨w.heap.size, 0, none⟩ = some vs := by simp [World.cell?, h1]
    have fb : W.frozen? ⟨w.heap.size, 0, none⟩ = false := by simp [World.frozen?, h1]
    have htk : xs.take (i + 1) = xs.take i ++ [x] := by rw [List.take_add_one, hx]; rfl
    have HTK := hidI htk
    have H1 := hidI h1
    have H2 := hidI h2
    have H3 := hidI h3
    have H4 := hidI h4
    have H5 := hidI h5
    have HO := hidI hown
    have hnb : vs.ownBlock ≠ some w.heap.size := by
      intro he
      rcases h2.2 with ⟨rfl, _⟩ | ⟨g, cap, cur, rfl, _, hh, _⟩
      · simp [Value.ownBlock] at he
      · obtain rfl : g = w.heap.size := by simpa [Value.ownBlock] using he
        rw [h1] at hh; injection hh with hh; injection hh with _ hh; exact absurd hh (by decide)
    have HNB := hidI hnb
    clear htk h1 h2 h3 h4 h5 hown hnb hx
    gi_wp2_with (first | (gi_at_builtin; go_loud (refine wpListIn_append_at _ rfl _ _ 37 rfl w.heap.size 3 i0 (.int .i64 0) 1 8 Try.underlying37 hi hz0 hz1 hz2 rfl (by decide) _ _ _ rfl HO.out ⟨W.heap.size, 0, none⟩ 1 1 [.int .i64 x] rfl rfl (cell_one_new _ _ _) (by simp [Value.oneCell']) (by unfold maxLen; omega) (by omega) (by simp; omega) ?_; intro v' w1 hown1 hg1 hat1; have hol := hidI (OwnL.snoc (x := x) (xs := xs.take i) (enc := encI) hown1); have hb3 : w1.heap[w.heap.size]? = some (.cells #[vs] 37 (0, 0)) := (hg1.block w.heap.size (by simp; omega) (fun h => HNB.out h.symm)).trans ((Below.heap_alloc _ _ _ hBlt).trans H1.out); have cb1 : w1.cell? ⟨w.heap.size, 0, none⟩ = some vs := (by simp [World.cell?, hb3]); have fb1 : w1.frozen? ⟨w.heap.size, 0, none⟩ = false := (by simp [World.frozen?, hb3]); have HB3 := hidI hb3; have HG := hidI hg1; have HAT := hidI hat1; clear hown1 hb3 hg1 hat1; obtain ⟨A1, c1, rfl, hc1⟩ := OwnL.form hol.out)) | ((with_reducible refine And.intro ?_ ?_); (focus (intro _ _; exact True.intro))))
    have hlen2 : (xs.take i ++ [x]).length = min i xs.length + 1 := by simp
    have ho := hol.out
    rw [hlen2] at ho
    have hnb1 := ownsRow_other ho HB3.out (by decide)
    refine ⟨fun k => k = w.heap.size ∨ (Value.slice A1 (min i xs.length + 1) c1).ownBlock = some k, ⟨?keep, ?grow⟩, _, Boxed.set _ HB3.out, ?own, .inl rfl, fun g hg => .inr hg, ?below⟩
    case keep =>
      refine (Keep.alloc _ W _ (fun k hk => hk.1)).trans ((Keep.grown HG.out (fun k hk => ⟨by have := hk.1; simp; omega, fun e => hk.2 (H4.out k e.symm)⟩)).trans (Keep.setCell _ _ _ _ (fun h => h.2 H3.out)))
    case grow =>
      intro k hk
      rcases hk with rfl | hk
      · exact .inl H3.out
      · rcases HAT.out with h | h
        · exact .inl (H4.out k (h.symm.trans (by rw [hlen2]; exact hk)))
        · rw [hlen2, hk] at h
          injection h with h
          have := (ownsRow_lt ho hk).1
          subst h
          exact .inr ⟨by simp, by simpa using this⟩
    case own =>
      rw [HTK.out]
      exact ho.same (fun g hg => Below.heap_setCell _ _ _ _ (fun e => hnb1 (by rw [hg, e])))
    case below =>
      refine H5.out.trans ?_
      refine (((Below.refl _ W).alloc (by omega) _).grown HG.out (by simp; omega) (fun k e => (ownsRow_lt H2.out e).2)).setCell (Nat.le_refl _) _
  case hdone =>
    intro D S W hD hI hK
    obtain ⟨vs, h1, h2, h3, h4, h5⟩ := hI
    rw [List.take_length] at h2
    obtain ⟨A1, c1, rfl, hc1⟩ := h2.form
    have cb : W.cell? ⟨w.heap.size, 0, none⟩ = some (.slice A1 xs.length c1) := by simp [World.cell?, h1]
    have H2 := hidI h2
    have H5 := hidI h5
    have HK := hidI hK
    clear h1 h2 h3 h4 h5 hK
    gi_wp2_with ((with_reducible refine And.intro ?_ ?_); (focus (intro _ _; exact True.intro)))
    refine ⟨by simp, .inl ⟨_, _, rfl, run_takeDeferred HK.out, ?_⟩⟩
    refine ⟨_, results_tmp rfl _ _ _, _, rfl, ?_, ?_⟩
    · refine H2.out.same (fun g hg => World.putObj_heap_other ?_)
      intro e
      have hh := HK.out
      rw [← e] at hh
      rcases H2.out.2 with ⟨h0, _⟩ | ⟨g', cap, cur, h0, _, hg', _⟩
      · rw [h0] at hg; simp [Value.ownBlock] at hg
      · rw [h0] at hg
        obtain rfl : g' = g := by simpa [Value.ownBlock] using hg
        rw [hh] at hg'; cases hg'
    · exact H5.out.trans ⟨rfl, rfl, rfl, by simp, fun k hk => World.putObj_heap_other (by have : (w.alloc (.cells #[.slice none 0 0] 37)).heap.size ≤ D := hD; simp at this; omega)⟩
  case hstop => exact fun _ _ _ _ _ _ _ h _ => h.elim
theorem CollectI (gf : Nat) (lb : Array Value) (Foot : Nat → Prop) (xs : List Int) (w0 w : World) (hit : IterC Try.prog gf lb (fun x : Int => #[.int .i64 x]) Foot xs w0) (hF : Keep Foot w0 w) (hFl : ∀ k, Foot k → k < w.heap.size)
    (hlen : xs.length ≤ 1000000000) (eg : ∀ args w, (callFunc gf args).run Try.prog w = .ok (.enter gf args) w) :
    Calls Try.prog 92 #[.func (.func gf) #[] lb] w fun e w' => ∃ v, e = .returned v ∧ OwnL 1 encI w' w.heap.size 3 v xs ∧ Below w.heap.size w w' := by
  have HC := hidI (callsIn_wide.1 (AppendSeqI gf lb Foot xs w0 w 0 hit hF hFl hlen eg))
  go_enter Try.func92, Try.ntmps92
  go_wp2_with fail
  refine Calls.mono HC.out ?_
  rintro e w' ⟨v, rfl, ho, hb⟩
  have HO := hidI ho
  have HB := hidI hb
  clear ho hb
  go_wp2
  go_ret
  exact ⟨v, rfl, HO.out, HB.out⟩
end Go.Proofs.Ytcgokimagimamaa
