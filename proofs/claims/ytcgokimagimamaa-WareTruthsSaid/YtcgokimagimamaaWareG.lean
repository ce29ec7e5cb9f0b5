
/- Layer 1, the program: the numbers that trials allow, yielded one after the other. -/
import Derived.Test.YtcgokimagimamaaWareF
namespace Go.Proofs.Ytcgokimagimamaa
open Go.RowKit
attribute [local go_sem] errIf_true errIf_false add_none
set_option maxHeartbeats 1000000
set_option maxRecDepth 100000
set_option linter.unusedSimpArgs false
set_option linter.unusedVariables false
theorem allowedL_succ (l : List Trial) (n : Nat) (lo : Int) : allowedL l (n + 1) lo = if okBy l lo then lo :: allowedL l n (lo + 1) else allowedL l n (lo + 1) := rfl
theorem add_one_int (a : Int) (k : Nat) : a + ((k + 1 : Nat) : Int) = a + k + 1 := by omega
theorem allowed_iter (r : Rng) (l : List Trial) (br bl : Nat) (v : Value) (w0 : World) (hr0 : w0.cell? ⟨br, 0, none⟩ = some (.int .i64 r.lo)) (hr1 : w0.cell? ⟨br, 1, none⟩ = some (.int .i64 r.hi))
    (hbl : w0.cell? ⟨bl, 0, none⟩ = some v) (hR : Rd 5 Trial.cells w0 v l) (hok : ∀ t ∈ l, TrialOk t) (hlen : l.length ≤ 1000000000000000000) (b0 : 0 ≤ r.lo) (b1 : r.hi ≤ 1000) (b2 : r.lo ≤ r.hi + 1) :
    IterC Try.prog 114 #[.pointer (some ⟨br, 0, none⟩), .pointer (some ⟨bl, 0, none⟩)] (fun x : Int => #[.int .i64 x]) (fun k => k < w0.heap.size) (leftL r l) w0 := by
  intro lp n J Jx S0 W hF hFS hS0 hJ hJx hY h0
  have kr : br < w0.heap.size := World.block_lt_of_cell? w0 _ hr0
  have kl : bl < w0.heap.size := World.block_lt_of_cell? w0 _ hbl
  have HFB := hidI (hF.below (n := w0.heap.size) (fun k hk => hk))
  have hWs : w0.heap.size ≤ W.heap.size := hF.size
  have cr0 : W.cell? ⟨br, 0, none⟩ = some (.int .i64 r.lo) := by rw [HFB.out.cell (p := ⟨br, 0, none⟩) kr]; exact hr0
  have cr1 : W.cell? ⟨br, 1, none⟩ = some (.int .i64 r.hi) := by rw [HFB.out.cell (p := ⟨br, 1, none⟩) kr]; exact hr1
  have cl0 : W.cell? ⟨bl, 0, none⟩ = some v := by rw [HFB.out.cell (p := ⟨bl, 0, none⟩) kl]; exact hbl
  have HY := hidI hY
  have HJ := hidI hJ
  have H0 := hidI h0
  have HFS := hidI hFS
  have HS0 := hidI hS0
  have HL : Hid (leftL r l = allowedL l (r.hi - r.lo + 1).toNat r.lo) := rfl
  generalize leftL r l = xs at *
  clear hY hJ hJx h0 hFS hS0 hF hr0 hr1 hbl
  obtain ⟨N, hN⟩ : ∃ N : Nat, (N : Int) = r.hi - r.lo + 1 := ⟨(r.hi - r.lo + 1).toNat, by omega⟩
  have HL2 : Hid (xs = allowedL l N r.lo) := by unfold Hid at *; rw [HL]; congr 1; omega
  clear HL
  have hN2 : r.hi = r.lo + N - 1 := by omega
  have HN := hidI hN2
  clear hN hN2
  refine callsIn_of_wp Try.func114 rfl trivial ?_ rfl
  simp only [Try.ntmps114, List.size_toArray, List.length_cons, List.length_nil, Nat.reduceAdd, Nat.reduceSub, Array.replicate_succ, Array.replicate_zero, List.push_toArray, List.append_toArray, List.nil_append, List.cons_append]
  gi_wp2
  gi_loopw [4] (fun p wr => ∃ (b k i : Nat) (S : Nat → Prop), p = .pointer (some ⟨b, 0, none⟩) ∧ k ≤ N ∧ Hid (J i S wr) ∧ Hid (xs.drop i = allowedL l (N - k) (r.lo + k)) ∧ Hid (i ≤ xs.length) ∧ W.heap.size ≤ b ∧ b < wr.heap.size ∧ Hid (¬ S b) ∧ Hid (∀ j, S j → j < wr.heap.size) ∧ Hid (∀ j, j < w0.heap.size → ¬ S j) ∧
      wr.cell? ⟨b, 0, none⟩ = some (.int .i64 (r.lo + k)) ∧ wr.frozen? ⟨b, 0, none⟩ = false ∧ Hid (Below w0.heap.size w0 wr)) (fun p wr => N - (intOf ((wr.cell? (match p with | .pointer (some a) => a | _ => ⟨0, 0, none⟩)).getD undef) - r.lo).toNat)
  case atStart =>
    refine ⟨W.heap.size, 0, 0, S0, rfl, by omega, ?_, ?_, ?_, Nat.le_refl _, by simp, ?_, ?_, ?_, by go_simp, by go_simp, ?_⟩
    · exact HJ.out _ _ _ _ H0.out (Keep.alloc _ _ _ (fun k hk => hk.elim id (HS0.out k)))
    · unfold Hid; rw [HL2.out]; simp
    · exact Nat.zero_le _
    · intro h; exact absurd (HS0.out _ h) (Nat.lt_irrefl _)
    · intro j hj; have := HS0.out j hj; simp; omega
    · intro j hj; exact (HFS.out j hj).2
    · exact HFB.out.trans (((Below.refl _ W).alloc (Nat.le_refl _) _).mono hWs)
  case round =>
    obtain ⟨b, k, i, S, rfl, hk, hJi, hD, hi, hbW, hbr, hSb, hSl, hSF, cb, fb, hB⟩ := hrel
    have kr2 : br < wr.heap.size := by omega
    have cr0 : wr.cell? ⟨br, 0, none⟩ = some (.int .i64 r.lo) := by rw [hB.out.cell (p := ⟨br, 0, none⟩) kr, ← HFB.out.cell (p := ⟨br, 0, none⟩) kr]; exact cr0
    have cr1 : wr.cell? ⟨br, 1, none⟩ = some (.int .i64 r.hi) := by rw [hB.out.cell (p := ⟨br, 1, none⟩) kr, ← HFB.out.cell (p := ⟨br, 1, none⟩) kr]; exact cr1
    have cl0 : wr.cell? ⟨bl, 0, none⟩ = some v := by rw [hB.out.cell (p := ⟨bl, 0, none⟩) kl, ← HFB.out.cell (p := ⟨bl, 0, none⟩) kl]; exact cl0
    by_cases hlt : k < N
    · have hle : r.lo + (k : Int) ≤ r.hi := by have := HN.out; omega
      have hC := ContainsFuncTrial l v (fun t => !allowsB t (r.lo + k)) 115 #[.pointer (some ⟨b, 0, none⟩)] wr (hR.below hB.out) hlen (ent _ Try.func115 (by kernel_rfl) rfl)
        (fun t ht w1 hb1 => by
          simp only [List.append_toArray, List.cons_append, List.nil_append]
          exact allowed11_any t (r.lo + k) b w1 (hok t ht) (by omega) (by omega) (by rw [hb1.cell (p := ⟨b, 0, none⟩) hbr]; exact cb))
      rw [not_okBy] at hC
      have HC := hidI hC
      clear hC
      have HD : Hid (xs.drop i = if okBy l (r.lo + k) then (r.lo + k) :: allowedL l (N - (k + 1)) (r.lo + k + 1) else allowedL l (N - (k + 1)) (r.lo + k + 1)) := by
        unfold Hid at *; rw [hD, show N - k = N - (k + 1) + 1 by omega, allowedL_succ]
      cases hby : okBy l (r.lo + k) with
      | false =>
        gi_wp2_with fail
        refine ⟨trivial, (fun h => by simp [Fence.wide] at h), ?_⟩
        refine (callsIn_wide.2 HC.out).mono ?_
        rintro e w1 ⟨rfl, hb1⟩
        rw [hby]
        have hd := (bcell3 hb1).1
        have hg := (bcell3 hb1).2.1
        have hbr1 : b < w1.heap.size := Nat.lt_of_lt_of_le hbr hb1.size
        have hne : ¬ w1.heap.size = b ∧ ¬ b = w1.heap.size := by omega
        obtain ⟨hne1, hne2⟩ := hne
        gi_wp2_with ((with_reducible refine And.intro ?_ ?_); (focus (intro _ _; exact True.intro)))
        go_roundw
        case rel =>
          refine ⟨w1.heap.size, k + 1, i, S, rfl, by omega, ?_, ?_, hi, ?_, by simp, ?_, ?_, hSF, by rw [← add_one_int]; go_simp, by go_simp, ?_⟩
          · exact HJ.out _ _ _ _ hJi.out ((Keep.of_below hb1 (fun j hj => hj.elim (fun h => by omega) (hSl.out j))).trans (Keep.alloc _ _ _ (fun j hj => hj.elim (fun h => by have := hb1.size; omega) (fun h => by have := hSl.out j h; have := hb1.size; omega))))
          · unfold Hid at *; rw [HD, hby, add_one_int]; rfl
          · have := hb1.size; omega
          · intro h; have := hSl.out _ h; have := hb1.size; omega
          · intro j hj; have := hSl.out j hj; have := hb1.size; simp; omega
          · exact hB.out.trans ((hb1.mono (by omega)).trans ((Below.refl _ _).alloc (by have := hb1.size; omega) _))
        case measure => first | (go_simp; done) | (go_simp; simp [intOf]; omega)
      | true =>
        have hxi : xs[i]? = some (r.lo + k) := by
          have := HD.out
          rw [hby, if_pos rfl] at this
          have h2 := congrArg (fun l : List Int => l.head?) this
          simpa [List.head?_drop] using h2
        have hil : i < xs.length := (List.getElem?_eq_some_iff.1 hxi).1
        gi_wp2_with fail
        refine ⟨trivial, (fun h => by simp [Fence.wide] at h), ?_⟩
        refine (callsIn_wide.2 HC.out).mono ?_
        rintro e w1 ⟨rfl, hb1⟩
        rw [hby]
        have hd := (bcell3 hb1).1
        have hg := (bcell3 hb1).2.1
        have hbr1 : b < w1.heap.size := Nat.lt_of_lt_of_le hbr hb1.size
        have cb1 : w1.cell? ⟨b, 0, none⟩ = some (.int .i64 (r.lo + k)) := by rw [hd ⟨b, 0, none⟩ hbr]; exact cb
        have fb1 : w1.frozen? ⟨b, 0, none⟩ = false := by rw [hg ⟨b, 0, none⟩ hbr]; exact fb
        clear hd hg
        have hJ1 : J i S w1 := HJ.out _ _ _ _ hJi.out (Keep.of_below hb1 (fun j hj => hj.elim (fun h => by omega) (hSl.out j)))
        have hS1 : ∀ j, S j → j < w1.heap.size := fun j hj => by have := hSl.out j hj; have := hb1.size; omega
        obtain ⟨fn, tmps, assign, body, hy, hYR⟩ := HY.out i (r.lo + k) S w1 hJ1 hxi (by have := hb1.size; omega) hS1 (n - 1)
        have HYR := hidI hYR
        have HJ1 := hidI hJ1
        have HS1 := hidI hS1
        clear hYR hJ1 hS1
        gi_wp2_with ((with_reducible refine And.intro ?_ ?_); (focus (intro _ _; exact True.intro)))
        refine ⟨(fun h => by simp [Fence.wide] at h), HYR.out.mono ?_⟩
        rintro e w2 ⟨S2, hrk, hJ2⟩
        have hbS : (fun j => j < w1.heap.size ∧ ¬ S j) b := ⟨hbr1, hSb.out⟩
        have cb2 : w2.cell? ⟨b, 0, none⟩ = some (.int .i64 (r.lo + k)) := by rw [hrk.keep.cell (p := ⟨b, 0, none⟩) hbS]; exact cb1
        have fb2 : w2.frozen? ⟨b, 0, none⟩ = false := by rw [hrk.keep.frozen (p := ⟨b, 0, none⟩) hbS]; exact fb1
        have hz2 : w1.heap.size ≤ w2.heap.size := hrk.keep.size
        have hbr2 : b < w2.heap.size := by omega
        have hne : ¬ w2.heap.size = b ∧ ¬ b = w2.heap.size := by omega
        obtain ⟨hne1, hne2⟩ := hne
        have hwr1 : wr.heap.size ≤ w1.heap.size := hb1.size
        have HS2 : Hid (∀ j, S2 j → j < w2.heap.size) := fun j hj => by
          rcases hrk.grow j hj with h | h
          · have := HS1.out j h; omega
          · exact h.2
        have HF2 : Hid (∀ j, j < w0.heap.size → ¬ S2 j) := fun j hj h2 => by
          rcases hrk.grow j h2 with h | h
          · exact hSF.out j hj h
          · omega
        have HB2 : Hid (Below w0.heap.size w0 w2) := (hB.out.trans (hb1.mono (by omega))).trans (hrk.keep.below (fun j hj => ⟨by omega, hSF.out j hj⟩))
        clear hrk
        rcases hJ2 with ⟨rfl, hJ2⟩ | ⟨rfl, hJ2⟩
        · have HJ2 := hidI hJ2
          clear hJ2
          gi_wp2_with ((with_reducible refine And.intro ?_ ?_); (focus (intro _ _; exact True.intro)))
          go_roundw
          case rel =>
            refine ⟨w2.heap.size, k + 1, i + 1, S2, rfl, by omega, ?_, ?_, by show i + 1 ≤ xs.length; omega, by omega, by simp, ?_, ?_, HF2, by rw [← add_one_int]; go_simp, by go_simp, ?_⟩
            · exact HJ.out _ _ _ _ HJ2.out (Keep.alloc _ _ _ (fun j hj => hj.elim (fun h => by omega) (fun h => HS2.out j h)))
            · unfold Hid at *
              rw [hby, if_pos rfl] at HD
              have h3 := congrArg List.tail HD
              rw [List.tail_drop] at h3
              rw [h3, add_one_int]; rfl
            · intro h; exact absurd (HS2.out _ h) (Nat.lt_irrefl _)
            · intro j hj; have := HS2.out j hj; simp; omega
            · exact HB2.out.trans ((Below.refl _ _).alloc (by omega) _)
          case measure => first | (go_simp; done) | (go_simp; simp [intOf]; omega)
        · have HJ2 := hidI hJ2
          clear hJ2
          gi_wp2_with ((with_reducible refine And.intro ?_ ?_); (focus (intro _ _; exact True.intro)))
          ((try simp only [Exit.inBlock, Exit.then]); refine bodyPost_ret (results_none rfl _ _ _) rfl ?_)
          exact ⟨⟨_, rfl⟩, .inr ⟨i, S2, hil, HJ2.out⟩⟩
    · obtain rfl : k = N := by omega
      have hi2 : i = xs.length := by
        have h1 := hD.out
        rw [Nat.sub_self] at h1
        have h2 := congrArg List.length h1
        simp [allowedL] at h2
        have := hi.out
        omega
      have hle : ¬ r.lo + (k : Int) ≤ r.hi := by have := HN.out; omega
      have HJ3 := hidI hJi.out
      rw [hi2] at HJ3
      clear hi2
      gi_wp2_with ((with_reducible refine And.intro ?_ ?_); (focus (intro _ _; exact True.intro)))
      go_end0
      exact ⟨⟨_, rfl⟩, .inl ⟨S, HJ3.out⟩⟩
end Go.Proofs.Ytcgokimagimamaa
