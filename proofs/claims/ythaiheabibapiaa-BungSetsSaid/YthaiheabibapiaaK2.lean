/- The calculus over shadows, and contracts: ShO, ShP, ShQ, ShR, ShS, ShT, ShU, ShX, ShGv, ShV, ShW, ShY, ShRw, ShZ, ShBs. -/
import Derived.Test.YthaiheabibapiaaK1
import Derived.OrdersIn
import Derived.Deep.Slices
import Derived.OpenShut
import Derived.SizedLaws
import Derived.ProofKit
set_option linter.all false
section
namespace Go.Sh
open Go.RowKit
set_option linter.unusedVariables false
set_option linter.unusedSimpArgs false

variable {P : Program}

/-- In a context whose blocks are H nothing names a place that H has not. -/
theorem R.rectx' {n : Nat} {c c' : Cx} {v : V} {u u0 : Value} (h0 : ∃ c0 : Cx, R c0 v u0 ∧ c0.N = n) (s : SubN n c c') (h : R c v u) : R c' v u := by
  obtain ⟨c0, h0, hn⟩ := h0
  have key : ∀ (id : Nat) (q : Nat → Nat → Prop), id < n → id < c.N → (∀ b sz, c.ρ id = some (b, sz) → q b sz) → ∀ b sz, c'.ρ id = some (b, sz) → q b sz := fun id q hn hi h b sz hr => by
    rcases s.ρ id hn hi with e | e
    · exact h b sz (e ▸ hr)
    · rw [e] at hr; cases hr
  induction h generalizing u0 with
  | b x => exact .b x
  | i k n => exact .i k n
  | s x => exact .s x
  | agg cs us hl _ ih =>
    obtain ⟨us0, rfl, h1, h2⟩ := h0.agg_inv
    refine .agg cs us hl (fun j v u e1 e2 => ?_)
    have hj : j < us0.length := by rw [← h1]; exact (List.getElem?_eq_some_iff.1 e1).1
    exact ih j v u e1 e2 (h2 j v _ e1 (List.getElem?_eq_getElem hj))
  | tup cs us hl _ ih =>
    obtain ⟨us0, rfl, h1, h2⟩ := h0.tup_inv
    refine .tup cs us hl (fun j v u e1 e2 => ?_)
    have hj : j < us0.length := by rw [← h1]; exact (List.getElem?_eq_some_iff.1 e1).1
    exact ih j v u e1 e2 (h2 j v _ e1 (List.getElem?_eq_getElem hj))
  | nsl => exact .nsl
  | fs0 a => exact .fs0 a
  | fsl0 a cap h => exact .fsl0 a cap h
  | fsl rows a o k cap cells e fz hb hx hk hs hc hp hcells ih =>
    obtain ⟨h1, h2⟩ := s.keep a (lt_of_get hb) hx
    exact .fsl rows a o k cap cells e fz (h1.trans hb) h2 hk hs hc hp (fun i row j v u e1 e2 e3 => (hcells i row j v u e1 e2 e3).rectx s (V.bel_mono (Nat.zero_le _) v (belL_get (hp row (List.mem_of_getElem? e1)) e2)))
  | rsl id k off len cap ex a q hi hs hl hq hx hp =>
    have hid : id < n := by rw [← hn]; cases h0; assumption
    exact .rsl id k off len cap ex a q (s.N id hid hi) hs hl hq hx (key id (fun b sz => (0 < q → a = ⟨b, off * k, none⟩) ∧ (off + q) * k ≤ sz) hid hi hp)
  | npt => exact .npt
  | rpt id k row off a hi hs hp =>
    have hid : id < n := by rw [← hn]; cases h0; assumption
    exact .rpt id k row off a (s.N id hid hi) hs (key id (fun b _ => a = ⟨b, row * k + off, none⟩) hid hi hp)
  | fpt row off a o cells e fz hb hx hs hp hcells ih =>
    obtain ⟨h1, h2⟩ := s.keep a (lt_of_get hb) hx
    exact .fpt row off a o cells e fz (h1.trans hb) h2 hs hp (fun j v u e1 e2 => (hcells j v u e1 e2).rectx s (V.bel_mono (Nat.zero_le _) v (belL_get hp e1)))
  | fn f fs cs us vs h1 h2 _ _ ih1 ih2 =>
    cases h0 with
    | fn _ _ _ us0 vs0 k1 k2 k3 k4 =>
      refine .fn f fs cs us vs h1 h2 (fun j v u e1 e2 => ?_) (fun j v u e1 e2 => ?_)
      · have hj : j < us0.length := by rw [← k1]; exact (List.getElem?_eq_some_iff.1 e1).1
        exact ih1 j v u e1 e2 (k3 j v _ e1 (List.getElem?_eq_getElem hj))
      · have hj : j < vs0.length := by rw [← k2]; exact (List.getElem?_eq_some_iff.1 e1).1
        exact ih2 j v u e1 e2 (k4 j v _ e1 (List.getElem?_eq_getElem hj))
  | nfn => exact .nfn
  | ifc t v u _ ih =>
    cases h0 with
    | ifc _ _ u1 h1 => exact .ifc t v u (ih h1)
  | nifc => exact .nifc
  | nmp => exact .nmp
  | rmp id a hi hp =>
    have hid : id < n := by rw [← hn]; cases h0; assumption
    exact .rmp id a (s.N id hid hi) (key id (fun b _ => a = b) hid hi hp)
  | yld id a hi hp =>
    have hid : id < n := by rw [← hn]; cases h0; assumption
    exact .yld id a (s.N id hid hi) (key id (fun b _ => a = b) hid hi hp)
  | skp => exact .skp
  | junk u => exact .junk u

theorem RH_outer {c c2 : Cx} {H H2 H' : List Blk} {v r : V} (hH : RH c H) (hH2 : RH c2 H2) (s : Stp c c2) (f : Fin H H2 v r H') : RH (outer c c2 H.length) H' := by
  have hsub := outer_subN (n := H.length) s (fun id b sz e => hH2.ownX e)
  have hlen : H'.length = H.length := by rw [← f.cut]; simp; have := f.len; omega
  have hget : ∀ id, id < H.length → H'[id]? = H2[id]? := fun id h => by rw [← f.cut, List.getElem?_take, if_pos h]
  refine ⟨by simp [outer, hlen], ?_, ?_, ?_, ?_⟩
  · intro b hb
    simp only [outer] at hb ⊢
    rcases hb with ⟨h1, h2⟩ | ⟨h1, id, sz, h2, h3⟩
    · have := s.size; omega
    · exact hH2.lt h3
  · intro id hid
    simp only [outer]
    split
    · rename_i hlt
      rw [hget id hlt] at hid
      exact hH2.gone id hid
    · rfl
  · intro id blk hb hd
    have hlt : id < H.length := by rw [← hlen]; exact (List.getElem?_eq_some_iff.1 hb).1
    rw [hget id hlt] at hb
    obtain ⟨b, sz, h1, h2, h3⟩ := hH2.live id blk hb hd
    refine ⟨b, sz, by simp [outer, hlt, h1], ?_, ?_⟩
    · simp only [outer]
      rcases Nat.lt_or_ge b c.w.heap.size with h | h
      · exact .inl ⟨h, h2⟩
      · exact .inr ⟨h, id, sz, hlt, h1⟩
    · refine h3.moveC rfl fun v u hv hR => ?_
      rcases f.old id blk hlt hb with h | h
      · obtain ⟨b0, sz0, _, _, h30⟩ := hH.live id _ h hd
        obtain ⟨u0, hu0⟩ := h30.seen hv
        exact R.rectx' ⟨c, hu0, hH.N⟩ hsub hR
      · exact hR.rectx hsub (h v hv)
  · intro id id' b s1 s2 e1 e2
    simp only [outer] at e1 e2
    split at e1
    · split at e2
      · exact hH2.inj id id' b s1 s2 e1 e2
      · cases e2
    · cases e1

theorem stp_outer {c c2 : Cx} {H : List Blk} (hH : RH c H) (s : Stp c c2) : Stp c (outer c c2 H.length) where
  os := s.os
  tape := s.tape
  output := s.output
  drawn := s.drawn
  size := s.size
  keep := s.keep
  X := fun b hb => by
    simp only [outer]
    constructor
    · rintro (⟨_, h⟩ | ⟨h, _⟩)
      · exact (s.X b hb).1 h
      · omega
    · exact fun hn h => .inl ⟨hb, (s.X b hb).2 hn h⟩
  N := by simp [outer, hH.N]
  ρ := fun id hid => by
    simp only [outer]
    rw [if_pos (by rw [← hH.N]; exact hid)]
    exact s.ρ id hid
  own := fun id b sz e => by
    simp only [outer] at e
    split at e
    · exact s.own id b sz e
    · cases e

/-- A block that is nobody's list and not one's own is turned. -/
theorem RH.other {c : Cx} {H : List Blk} (h : RH c H) {D : Nat} {o : Obj} (hX : c.X D) (hf : ∀ id sz, c.ρ id ≠ some (D, sz)) : RH { c with w := setB c.w D o } H ∧ Sub c { c with w := setB c.w D o } := by
  have hsub : Sub c { c with w := setB c.w D o } := ⟨fun b hb hx => ⟨setB_other (fun e => hx (e ▸ hX)), hx⟩, Nat.le_refl _, fun _ _ => .inl rfl⟩
  refine ⟨⟨h.N, fun b hb => by simpa using h.X b hb, h.gone, fun id blk hb hd => ?_, h.inj⟩, hsub⟩
  obtain ⟨b, sz, h1, h2, h3⟩ := h.live id blk hb hd
  have hne : b ≠ D := fun e => hf id sz (e ▸ h1)
  refine ⟨b, sz, h1, h2, ?_⟩
  exact h3.move (setB_other hne) hsub

theorem leave_marks {fn : Func} {tmps : Array Value} {Q : Ending → World → Prop} {n : Nat} {c0 : Cx} {E : Env} {H : List Blk} : ∀ (Ds : List Nat) (c : Cx), Ds.Nodup → RH c H → RE c E tmps → Stp c0 c →
    (∀ D ∈ Ds, c0.w.heap.size ≤ D ∧ c.w.heap[D]? = some (.deferred (some [])) ∧ c.X D ∧ ∀ id sz, c.ρ id ≠ some (D, sz)) →
    (∀ c' : Cx, RH c' H → RE c' E tmps → Stp c0 c' → ∃ v, (results fn tmps).run P c'.w = .ok v c'.w ∧ Q (.returned v) c'.w) →
    LeavesInM Fence.wide n P fn tmps Q (Ds.map fun D => ({ target := .collected D, args := #[] } : Deferred)) .returning c.w
  | [], c, _, hH, hE, hst, _, hk => by
    obtain ⟨v, h1, h2⟩ := hk c hH hE hst
    exact ⟨v, h1, h2⟩
  | D :: Ds, c, hnd, hH, hE, hst, hD, hk => by
    obtain ⟨q1, q2, q3, q4⟩ := hD D (by simp)
    have hlt := lt_of_get q2
    obtain ⟨g1, g2⟩ := hH.other (o := .deferred none) q3 q4
    refine ⟨by simp, .inl ⟨D, setB c.w D (.deferred none), rfl, run_takeDeferred q2, ?_⟩⟩
    refine leave_marks Ds { c with w := setB c.w D (.deferred none) } (List.nodup_cons.1 hnd).2 g1 (hE.mono g2) ?_ ?_ hk
    · exact ⟨hst.os, hst.tape, hst.output, by simpa using hst.size, fun b hb hn => (setB_other (by omega)).trans (hst.keep b hb hn), hst.X, hst.N, hst.ρ, hst.own, hst.drawn⟩
    · intro D' hD'
      obtain ⟨r1, r2, r3, r4⟩ := hD D' (by simp [hD'])
      have hne : D' ≠ D := fun e => (List.nodup_cons.1 hnd).1 (e ▸ hD')
      exact ⟨r1, (setB_other hne).trans r2, r3, r4⟩

def envOf : Nat → List V → Env
  | _, [] => []
  | i, v :: r => (i, v) :: envOf (i + 1) r

theorem get_envOf : ∀ (l : List V) (i t : Nat), get (envOf i l) t = if i ≤ t then l[t - i]? else none
  | [], i, t => by simp [envOf, get]
  | v :: r, i, t => by
    simp only [envOf, get]
    rw [get_envOf r (i + 1) t]
    by_cases h : i = t
    · subst h; simp
    · rw [if_neg h]
      by_cases h2 : i ≤ t
      · rw [if_pos (by omega), if_pos h2, show t - i = (t - (i + 1)) + 1 by omega]
        simp
      · rw [if_neg (by omega), if_neg h2]

theorem run_callFunc {f : FuncId} {fn : Func} (hf : P.funcs[f]? = some fn) (hn : (fn.name == "runtime.NumGoroutine") = false) (hb : fn.body.isSome = true) (args : Array Value) (w : World) : (callFunc f args).run P w = .ok (.enter f args) w := by
  simp only [callFunc, Sem.run_bind, run_program, Result.andThen_ok, hf, hn]
  rw [if_neg (by simp), if_neg (by cases hbb : fn.body <;> simp_all)]
  rfl

/-- Blocks that are nobody's any more. -/
def kill : List Nat → List Blk → List Blk
  | [], H => H
  | k :: ks, H => kill ks (H.set k .dead)

theorem kill_ok : ∀ (ks : List Nat) {c : Cx} {H : List Blk}, RH c H → ∃ c' : Cx, c'.w = c.w ∧ RH c' (kill ks H) ∧ Stp c c'
  | [], c, H, h => ⟨c, rfl, h, Stp.refl c⟩
  | k :: ks, c, H, h => by
    obtain ⟨c', h1, h2, h3⟩ := kill_ok ks (h.without k)
    exact ⟨c', h1, h2, (Stp.without k).trans h3⟩

/-- How a function may leave: what it has laid is dropped, and lists are read as such; or what it has laid is its caller's. -/
inductive Lft (H H2 : List Blk) (v r : V) (H' : List Blk) : Prop where
  | cut : Fin H H2 v r H' → Lft H H2 v r H'
  | all (ks : List Nat) : r = v → H' = kill ks H2 → Lft H H2 v r H'

/-- **A FUNCTION's CONTRACT OUT OF ITS CODE.** -/
theorem sndx_of {f : FuncId} {fn : Func} {code : Code} {ress : List IRes} {args : List V} {H : List Blk} {K : V → List Blk → Prop} (hf : P.funcs[f]? = some fn) (hb : fn.body = some code) (hn : (fn.name == "runtime.NumGoroutine") = false)
    (hr : lowRess P fn.results.toList = some ress) (hlen : args.length ≤ fn.ntmps)
    (h : AW P fn.ntmps true code (envOf 0 args) H fun e E' H2 => (e = .normal ∨ e = .ret) ∧ ∃ vs, resIs E' H2 ress = some vs ∧ ∃ r H', K r H' ∧ Lft H H2 (resV vs) r H') : SndX P (.fn (.func f) [] []) args H K := by
  intro c hH fu us hfu hargs
  have hfu' : fu = .func (.func f) #[] #[] := by
    cases hfu with
    | fn _ _ _ us vs h1 h2 _ _ =>
      obtain rfl : us = [] := by simpa using h1.symm
      obtain rfl : vs = [] := by simpa using h2.symm
      rfl
  subst hfu'
  refine ⟨_, rfl, ?_⟩
  have hrun : (invoke (.fn (.func f) #[]) (#[] ++ us.toArray)).run P c.w = .ok (.enter f us.toArray) c.w := by
    simp only [invoke]
    rw [run_callFunc hf hn (by simp [hb])]
    simp
  simp only [Inv, hrun]
  refine callsIn_wide (n := 0).1 (callsIn_of_wp_marks hf hb trivial ?_)
  have hul : us.length = args.length := hargs.1.symm
  refine wpIn_mono (h none 0 { tmps := us.toArray ++ Array.replicate (fn.ntmps - us.toArray.size) undef, defers := [] } c (by simp; omega) ?_ hH (fun _ => rfl)) ?_
  · intro t v hg
    rw [get_envOf] at hg
    simp at hg
    obtain ⟨u, h1, h2⟩ := RL.get hargs hg
    have hlt := (List.getElem?_eq_some_iff.1 h1).1
    exact ⟨u, by rw [Array.getElem?_append_left (by simpa using hlt)]; simpa using h1, h2⟩
  · rintro e a' w' ⟨E', H2, c2, rfl, ⟨he, vs, hvs, r, H', hK, hfin⟩, h2, h3, h4, h5, Ds, hm1, hm2, hm3⟩
    have fin : LeavesInM Fence.wide 0 P fn a'.tmps (fun e w' => ∃ v, e = .returned v ∧ ∃ r H', K r H' ∧ Post c H' r v w') a'.defers .returning c2.w := by
      rw [hm2]
      simp only [List.append_nil]
      refine leave_marks Ds c2 hm1 h4 h3 h5 hm3 fun c3 k1 k2 k3 => ?_
      obtain ⟨u, q1, q2⟩ := run_results k2 k1 hr hvs
      refine ⟨u, q1, u, rfl, r, H', hK, ?_⟩
      rcases hfin with hfin | ⟨ks, rfl, rfl⟩
      · exact ⟨outer c c3 H.length, rfl, RH_outer hH k1 k3 hfin, frz_R hH k1 k3 hfin.alive hfin.frz q2, stp_outer hH k3⟩
      · obtain ⟨c4, p1, p2, p3⟩ := kill_ok ks k1
        exact ⟨c4, p1, p2, q2.mono (p3.sub k1), k3.trans p3⟩
    rcases he with rfl | rfl
    · exact fin
    · exact fin
end Go.Sh
end
section
namespace Go.Sh
open Go.RowKit
set_option linter.unusedVariables false
set_option linter.unusedSimpArgs false

variable {P : Program}

/-- A function value with what it captured is called. -/
theorem snd_fn {g : FuncId} {first caps args : List V} {H H' : List Blk} {r : V} (h : Snd P g (first ++ args ++ caps) H r H') : SndC P (.fn (.func g) first caps) args H r H' := by
  intro c hH fu us hfu hargs
  cases hfu with
  | fn _ _ _ fs cs h1 h2 h3 h4 =>
    obtain ⟨d, hd, hi⟩ := h c hH (.func (.func g) #[] #[]) (fs ++ us ++ cs) (R.fn (c := c) (.func g) [] [] [] [] rfl rfl (fun j v u e => by simp at e) (fun j v u e => by simp at e))
      ⟨by simp [h1, h2, hargs.1], fun j v u e1 e2 => by
        have ha := hargs.1
        rcases Nat.lt_or_ge j (first ++ args).length with hj | hj
        · rw [List.getElem?_append_left hj] at e1
          rw [List.getElem?_append_left (by simp at hj ⊢; omega)] at e2
          rcases Nat.lt_or_ge j first.length with hj2 | hj2
          · rw [List.getElem?_append_left hj2] at e1
            rw [List.getElem?_append_left (by omega)] at e2
            exact h3 j v u e1 e2
          · rw [List.getElem?_append_right hj2] at e1
            rw [List.getElem?_append_right (by omega), ← h1] at e2
            exact hargs.2 _ v u e1 e2
        · rw [List.getElem?_append_right hj] at e1
          rw [List.getElem?_append_right (by simp at hj ⊢; omega)] at e2
          refine h4 _ v u e1 ?_
          rw [show j - (first ++ args).length = j - (fs ++ us).length by simp [h1, ha]]
          exact e2⟩
    refine ⟨{ target := .fn (.func g) cs.toArray, args := fs.toArray ++ us.toArray }, rfl, ?_⟩
    have hd' : d = { target := .fn (.func g) #[], args := #[] ++ (fs ++ us ++ cs).toArray } := by
      have : (Sem.pure { target := Target.fn (.func g) #[], args := #[] ++ (fs ++ us ++ cs).toArray } : Sem Deferred) = Sem.pure d := hd
      injection this with h; exact h.symm
    subst hd'
    have he : (invoke (.fn (.func g) cs.toArray) (fs.toArray ++ us.toArray)).run P c.w = (invoke (.fn (.func g) #[]) (#[] ++ (fs ++ us ++ cs).toArray)).run P c.w := by
      simp only [invoke]
      congr 2
      apply Array.toList_inj.1
      simp
    unfold Inv at hi ⊢
    rw [he]
    exact hi


theorem sndx_fn {g : FuncId} {first caps args : List V} {H : List Blk} {K : V → List Blk → Prop} (h : SndX P (.fn (.func g) [] []) (first ++ args ++ caps) H K) : SndX P (.fn (.func g) first caps) args H K := by
  intro c hH fu us hfu hargs
  cases hfu with
  | fn _ _ _ fs cs h1 h2 h3 h4 =>
    obtain ⟨d, hd, hi⟩ := h c hH (.func (.func g) #[] #[]) (fs ++ us ++ cs) (R.fn (c := c) (.func g) [] [] [] [] rfl rfl (fun j v u e => by simp at e) (fun j v u e => by simp at e))
      ⟨by simp [h1, h2, hargs.1], fun j v u e1 e2 => by
        have ha := hargs.1
        rcases Nat.lt_or_ge j (first ++ args).length with hj | hj
        · rw [List.getElem?_append_left hj] at e1
          rw [List.getElem?_append_left (by simp at hj ⊢; omega)] at e2
          rcases Nat.lt_or_ge j first.length with hj2 | hj2
          · rw [List.getElem?_append_left hj2] at e1
            rw [List.getElem?_append_left (by omega)] at e2
            exact h3 j v u e1 e2
          · rw [List.getElem?_append_right hj2] at e1
            rw [List.getElem?_append_right (by omega), ← h1] at e2
            exact hargs.2 _ v u e1 e2
        · rw [List.getElem?_append_right hj] at e1
          rw [List.getElem?_append_right (by simp at hj ⊢; omega)] at e2
          refine h4 _ v u e1 ?_
          rw [show j - (first ++ args).length = j - (fs ++ us).length by simp [h1, ha]]
          exact e2⟩
    refine ⟨{ target := .fn (.func g) cs.toArray, args := fs.toArray ++ us.toArray }, rfl, ?_⟩
    have hd' : d = { target := .fn (.func g) #[], args := #[] ++ (fs ++ us ++ cs).toArray } := by
      have : (Sem.pure { target := Target.fn (.func g) #[], args := #[] ++ (fs ++ us ++ cs).toArray } : Sem Deferred) = Sem.pure d := hd
      injection this with h; exact h.symm
    subst hd'
    have he : (invoke (.fn (.func g) cs.toArray) (fs.toArray ++ us.toArray)).run P c.w = (invoke (.fn (.func g) #[]) (#[] ++ (fs ++ us ++ cs).toArray)).run P c.w := by
      simp only [invoke]
      congr 2
      apply Array.toList_inj.1
      simp
    unfold Inv at hi ⊢
    rw [he]
    exact hi

theorem Inv.mono {d : Deferred} {w : World} {Q Q' : Value → World → Prop} (h : Inv P d w Q) (hq : ∀ v w', Q v w' → Q' v w') : Inv P d w Q' := by
  unfold Inv at *
  generalize (invoke d.target d.args).run P w = r at *
  cases r with
  | halt x w' => exact h.elim
  | ok n w' =>
    cases n with
    | enter f args => exact Calls.mono h fun e w'' ⟨v, hv, hp⟩ => ⟨v, hv, hq _ _ hp⟩
    | round l f tmps as bd => exact fun m => RoundIn.mono (h m) fun e w'' ⟨v, hv, hp⟩ => ⟨v, hv, hq _ _ hp⟩
    | value v => exact hq _ _ h
    | _ => exact h.elim

theorem SndX.of {fv : V} {args : List V} {H H' : List Blk} {r : V} {K : V → List Blk → Prop} (h : SndC P fv args H r H') (k : K r H') : SndX P fv args H K := by
  intro c hH fu us hfu hargs
  obtain ⟨d, h1, h2⟩ := h c hH fu us hfu hargs
  exact ⟨d, h1, h2.mono fun v w' hp => ⟨r, H', k, hp⟩⟩

theorem SndX.mono {fv : V} {args : List V} {H : List Blk} {K K' : V → List Blk → Prop} (h : SndX P fv args H K) (k : ∀ r H', K r H' → K' r H') : SndX P fv args H K' := by
  intro c hH fu us hfu hargs
  obtain ⟨d, h1, h2⟩ := h c hH fu us hfu hargs
  exact ⟨d, h1, h2.mono fun v w' ⟨r, H', hk, hp⟩ => ⟨r, H', k r H' hk, hp⟩⟩

theorem SndX.snd {fv : V} {args : List V} {H H' : List Blk} {r : V} (h : SndX P fv args H fun a b => a = r ∧ b = H') : SndC P fv args H r H' := by
  intro c hH fu us hfu hargs
  obtain ⟨d, h1, h2⟩ := h c hH fu us hfu hargs
  refine ⟨d, h1, h2.mono ?_⟩
  rintro v w' ⟨r, H', ⟨rfl, rfl⟩, hp⟩
  exact hp

/-- The context that knows the first n blocks alone. -/
def inner (c : Cx) (n : Nat) : Cx := { w := c.w, X := c.X, ρ := fun id => if id < n then c.ρ id else none, N := n }

theorem inner_subN (c : Cx) (n : Nat) : SubN n c (inner c n) := ⟨fun b hb hx => ⟨rfl, hx⟩, fun id h _ => h, fun id h _ => .inl (by simp [inner, h])⟩

theorem RH_inner {c : Cx} {H1 G : List Blk} (h : RH c (H1 ++ G)) (hb : ∀ blk ∈ H1, blk.bel H1.length) : RH (inner c H1.length) H1 := by
  have hsub := inner_subN c H1.length
  refine ⟨rfl, h.X, ?_, ?_, ?_⟩
  · intro id hid
    simp only [inner]
    split
    · rename_i hlt
      refine h.gone id ?_
      rw [List.getElem?_append_left hlt]; exact hid
    · rfl
  · intro id blk hg hd
    have hlt := (List.getElem?_eq_some_iff.1 hg).1
    obtain ⟨b, sz, h1, h2, h3⟩ := h.live id blk (by rw [List.getElem?_append_left hlt]; exact hg) hd
    refine ⟨b, sz, by simp [inner, hlt, h1], h2, ?_⟩
    have hbel := hb blk (List.mem_of_getElem? hg)
    exact h3.moveC rfl fun v u hv hR => hR.rectx hsub (hbel v hv)
  · intro id id' b s s' e e'
    simp only [inner] at e e'
    split at e
    · split at e'
      · exact h.inj id id' b s s' e e'
      · cases e'
    · cases e

/-- **FRAME**: what a call does not name stays. -/
theorem snd_frameC {fv : V} {args : List V} {H1 H1' G : List Blk} {r : V} (h : SndC P fv args H1 r H1') (hl : H1'.length = H1.length) (hf : fv.bel H1.length = true) (ha : belL H1.length args = true) (hin : ∀ c, RH c (H1 ++ G) → RH (inner c H1.length) H1) :
    SndC P fv args (H1 ++ G) r (H1' ++ G) := by
  intro c hH fu us hfu hargs
  have hsub := inner_subN c H1.length
  obtain ⟨d, hd, hi⟩ := h (inner c H1.length) (hin c hH) fu us (hfu.rectx hsub hf) ⟨hargs.1, fun j v u e1 e2 => (hargs.2 j v u e1 e2).rectx hsub (belL_get ha e1)⟩
  refine ⟨d, hd, ?_⟩
  have conv : ∀ v w', Post (inner c H1.length) H1' r v w' → Post c (H1' ++ G) r v w' := by
    rintro v w' ⟨c1, rfl, h1, h2, h3⟩
    have hcN := hH.N
    have hc1N := h1.N
    simp only [List.length_append] at hcN
    have h3N := h3.N
    let c' : Cx := { w := c1.w, X := c1.X, ρ := fun id => if id < H1.length then c1.ρ id else c.ρ id, N := c.N }
    have hkeep : ∀ b, b < c.w.heap.size → (∀ id sz, c.ρ id ≠ some (b, sz)) → c1.w.heap[b]? = c.w.heap[b]? := fun b hb hn => h3.keep b hb (fun id sz e => by
      simp only [inner] at e
      split at e
      · exact hn id sz e
      · cases e)
    have hkeepG : ∀ id b sz, H1.length ≤ id → c.ρ id = some (b, sz) → c1.w.heap[b]? = c.w.heap[b]? := fun id b sz hid hρ => h3.keep b (hH.lt hρ) (fun id' sz' e => by
      simp only [inner] at e
      split at e
      · have := hH.inj id id' b sz sz' hρ e; omega
      · cases e)
    have hs1 : Sub c1 c' := ⟨fun b hb hx => ⟨rfl, hx⟩, by show c1.N ≤ c.N; omega, fun id hid => .inl (by show (if id < H1.length then c1.ρ id else c.ρ id) = c1.ρ id; rw [if_pos (by omega)])⟩
    have hs2 : Sub c c' := ⟨fun b hb hx => ⟨hkeep b hb (fun id sz e => hx (hH.ownX e)), fun hx' => hx ((h3.X b hb).1 hx')⟩, Nat.le_refl _, fun id hid => by
      show (if id < H1.length then c1.ρ id else c.ρ id) = c.ρ id ∨ (if id < H1.length then c1.ρ id else c.ρ id) = none
      split
      · rename_i hlt
        rcases h3.ρ id hlt with e | e
        · left; rw [e]; simp [inner, hlt]
        · exact .inr e
      · exact .inl rfl⟩
    have hrho : ∀ id, id < H1.length → c'.ρ id = c1.ρ id := fun id h => by show (if id < H1.length then c1.ρ id else c.ρ id) = _; rw [if_pos h]
    have hrho2 : ∀ id, H1.length ≤ id → c'.ρ id = c.ρ id := fun id h => by show (if id < H1.length then c1.ρ id else c.ρ id) = _; rw [if_neg (by omega)]
    refine ⟨c', rfl, ?_, h2.mono hs1, ?_⟩
    · refine ⟨by show c.N = _; simp [hcN, hl], fun b hb => h1.X b hb, ?_, ?_, ?_⟩
      · intro id hid
        rcases Nat.lt_or_ge id H1.length with hlt | hge
        · rw [hrho id hlt]
          rw [List.getElem?_append_left (by omega)] at hid
          exact h1.gone id hid
        · rw [hrho2 id hge]
          rw [List.getElem?_append_right (by omega), hl] at hid
          exact hH.gone id (by rw [List.getElem?_append_right hge]; exact hid)
      · intro id blk hg hd'
        rcases Nat.lt_or_ge id H1.length with hlt | hge
        · rw [List.getElem?_append_left (by omega)] at hg
          obtain ⟨b, sz, k1, k2, k3⟩ := h1.live id blk hg hd'
          refine ⟨b, sz, by rw [hrho id hlt]; exact k1, k2, ?_⟩
          exact k3.move rfl hs1
        · rw [List.getElem?_append_right (by omega), hl] at hg
          obtain ⟨b, sz, k1, k2, k3⟩ := hH.live id blk (by rw [List.getElem?_append_right hge]; exact hg) hd'
          have hh := hkeepG id b sz hge k1
          refine ⟨b, sz, by rw [hrho2 id hge]; exact k1, (h3.X b (hH.lt k1)).2 (fun id' s' e' => by
            simp only [inner] at e'
            split at e'
            · have := hH.inj id id' b sz s' k1 e'; omega
            · cases e') k2, ?_⟩
          exact k3.move hh hs2
      · have cross : ∀ id id' b s s', id < H1.length → H1.length ≤ id' → c1.ρ id = some (b, s) → c.ρ id' = some (b, s') → False := by
          intro id id' b s s' hlt hge e e'
          rcases h3.own id b s e with g | ⟨id0, s0, g⟩
          · have h1 := hH.lt e'
            exact absurd g (Nat.not_le.2 h1)
          · simp only [inner] at g
            split at g
            · have := hH.inj id0 id' b s0 s' g e'; omega
            · cases g
        intro id id' b s s' e e'
        rcases Nat.lt_or_ge id H1.length with hlt | hge <;> rcases Nat.lt_or_ge id' H1.length with hlt' | hge'
        · rw [hrho id hlt] at e; rw [hrho id' hlt'] at e'; exact h1.inj id id' b s s' e e'
        · rw [hrho id hlt] at e; rw [hrho2 id' hge'] at e'; exact (cross id id' b s s' hlt hge' e e').elim
        · rw [hrho2 id hge] at e; rw [hrho id' hlt'] at e'; exact (cross id' id b s' s hlt' hge e' e).elim
        · rw [hrho2 id hge] at e; rw [hrho2 id' hge'] at e'; exact hH.inj id id' b s s' e e'
    · refine ⟨h3.os, h3.tape, h3.output, h3.size, hkeep, fun b hb => ⟨(h3.X b hb).1, fun hn => (h3.X b hb).2 (fun id sz e => by
        simp only [inner] at e
        split at e
        · exact hn id sz e
        · cases e)⟩, Nat.le_refl _, hs2.ρ, ?_, h3.drawn⟩
      intro id b sz e
      rcases Nat.lt_or_ge id H1.length with hlt | hge
      · rw [hrho id hlt] at e
        rcases h3.own id b sz e with g | ⟨id0, s0, g⟩
        · exact .inl g
        · simp only [inner] at g
          split at g
          · exact .inr ⟨id0, s0, g⟩
          · cases g
      · rw [hrho2 id hge] at e
        exact .inr ⟨id, sz, e⟩
  exact hi.mono conv

theorem snd_frame {fv : V} {args : List V} {H1 H1' G : List Blk} {r : V} (h : SndC P fv args H1 r H1') (hl : H1'.length = H1.length) (hf : fv.bel H1.length = true) (ha : belL H1.length args = true) (hb : ∀ blk ∈ H1, blk.bel H1.length) :
    SndC P fv args (H1 ++ G) r (H1' ++ G) := snd_frameC h hl hf ha fun c hH => RH_inner hH hb

theorem RH_inner0 {c c0 : Cx} {H1 G : List Blk} (h0 : RH c0 H1) (h : RH c (H1 ++ G)) : RH (inner c H1.length) H1 := by
  have hsub := inner_subN c H1.length
  refine ⟨rfl, h.X, ?_, ?_, ?_⟩
  · intro id hid
    simp only [inner]
    split
    · rename_i hlt
      refine h.gone id ?_
      rw [List.getElem?_append_left hlt]; exact hid
    · rfl
  · intro id blk hg hd
    have hlt := (List.getElem?_eq_some_iff.1 hg).1
    obtain ⟨b, sz, h1, h2, h3⟩ := h.live id blk (by rw [List.getElem?_append_left hlt]; exact hg) hd
    refine ⟨b, sz, by simp [inner, hlt, h1], h2, ?_⟩
    obtain ⟨b0, sz0, _, _, h30⟩ := h0.live id blk hg hd
    exact h3.moveC rfl fun v u hv hR => let ⟨u0, hu0⟩ := h30.seen hv; R.rectx' ⟨c0, hu0, h0.N⟩ hsub hR
  · intro id id' b s s' e e'
    simp only [inner] at e e'
    split at e
    · split at e'
      · exact h.inj id id' b s s' e e'
      · cases e'
    · cases e

theorem snd_frame0 {fv : V} {args : List V} {H1 H1' G : List Blk} {r : V} {c0 : Cx} (h0 : RH c0 H1) (h : SndC P fv args H1 r H1') (hl : H1'.length = H1.length) (hf : fv.bel H1.length = true) (ha : belL H1.length args = true) :
    SndC P fv args (H1 ++ G) r (H1' ++ G) := snd_frameC h hl hf ha fun c hH => RH_inner0 h0 hH

/-- A call that names nothing of one's own. -/
theorem snd_pure {fv : V} {args : List V} {H : List Blk} {r : V} (h : SndC P fv args [] r []) (hf : fv.bel 0 = true) (ha : belL 0 args = true) : SndC P fv args H r H :=
  snd_frame (G := H) h rfl hf ha (fun _ h => by cases h)

/-! ### lending: one's own lists are read by a callee that hands back plain data -/
mutual
def V.flat : V → Bool
  | .b _ | .i .. | .s _ | .nsl | .npt | .nfn | .nifc | .nmp | .skp | .junk => true
  | .agg cs => flatL cs
  | .tup cs => flatL cs
  | .fsl rows => rows.isEmpty
  | .fs0 => true
  | _ => false
def flatL : List V → Bool
  | [] => true
  | v :: r => v.flat && flatL r
end

theorem flatL_get : ∀ {l : List V} {j : Nat} {v : V}, flatL l = true → l[j]? = some v → v.flat = true
  | [], j, v, h, e => by simp at e
  | x :: r, 0, v, h, e => by simp [flatL] at h e; rw [← e]; exact h.1
  | x :: r, j + 1, v, h, e => by simp [flatL] at h e; exact flatL_get h.2 e

theorem R.flat {c c' : Cx} {v : V} {u : Value} (h : R c v u) (hv : v.flat = true) : R c' v u := by
  induction h with
  | agg cs us hl _ ih => exact .agg cs us hl (fun j v u e1 e2 => ih j v u e1 e2 (flatL_get (by simpa [V.flat] using hv) e1))
  | tup cs us hl _ ih => exact .tup cs us hl (fun j v u e1 e2 => ih j v u e1 e2 (flatL_get (by simpa [V.flat] using hv) e1))
  | fsl rows a o k cap cells e fz hb hx hk hs hc hp _ _ =>
    have : rows = [] := by simpa [V.flat] using hv
    subst this
    exact .fsl0 _ _ (by simp)
  | rsl => simp [V.flat] at hv
  | rpt => simp [V.flat] at hv
  | fpt => simp [V.flat] at hv
  | fn => simp [V.flat] at hv
  | ifc => simp [V.flat] at hv
  | rmp => simp [V.flat] at hv
  | yld => simp [V.flat] at hv
  | b => exact .b _
  | i => exact .i _ _
  | s => exact .s _
  | nsl => exact .nsl
  | fs0 a => exact .fs0 a
  | fsl0 a q h => exact .fsl0 a q h
  | npt => exact .npt
  | nfn => exact .nfn
  | nifc => exact .nifc
  | nmp => exact .nmp
  | skp => exact .skp
  | junk => exact .junk _

def lentCx (c : Cx) : Cx := { w := c.w, X := fun _ => False, ρ := fun _ => none, N := 0 }

theorem frz_lend {c : Cx} {H : List Blk} (hH : RH c H) {v r : V} (hf : Frz 0 H v r) : ∀ {u : Value}, R c v u → R (lentCx c) r u := by
  have hsub : SubN 0 c (lentCx c) := ⟨fun b hb hx => ⟨rfl, fun h => h⟩, fun id h _ => absurd h (Nat.not_lt_zero _), fun id h _ => absurd h (Nat.not_lt_zero _)⟩
  induction hf with
  | nil => intro u h; cases h; exact .fsl0 none 0 (fun _ => rfl)
  | emp => intro u h; cases h; exact .fsl0 _ 0 (fun _ => rfl)
  | keep v hv => intro u h; exact h.rectx hsub hv
  | sl id k off len cap ex rows rows' hid hb hle hl hbel hel _ ih =>
    intro u h
    cases h with
    | rsl _ _ _ _ _ _ a q hi hsp hlq hcq hex hp =>
      obtain ⟨b, sz, hρ, _, cells, e, g1, g2, g3, g4, g5, g6⟩ := hH.live id _ hb (by simp)
      obtain ⟨p1, p2⟩ := hp b sz hρ
      by_cases h0 : len = 0
      · subst h0
        have : rows' = [] := List.eq_nil_of_length_eq_zero hl
        subst this
        exact .fsl0 (some a) q (by simp)
      · rw [p1 (by omega)]
        subst hl
        have htl : ((rows.drop off).take rows'.length).length = rows'.length := take_len hle
        refine .fsl rows' b (off * k) k q cells e (0, 0) g1 (fun h => h) ?_ ?_ hlq hbel ?_
        · intro row' hr'
          obtain ⟨i, hi'⟩ := List.getElem?_of_mem hr'
          have hil := (List.getElem?_eq_some_iff.1 hi').1
          have hrow : ((rows.drop off).take rows'.length)[i]? = some (((rows.drop off).take rows'.length)[i]'(by omega)) := by simp [htl, hil]
          rw [← hel i _ row' hrow hi']
          exact g3 _ (List.mem_of_mem_drop (List.mem_of_mem_take (List.getElem_mem _)))
        · have : (off + rows'.length) * k ≤ rows.length * k := Nat.mul_le_mul_right _ hle
          rw [Nat.add_mul] at this
          omega
        · intro i row' j v' u' h1 h2 h3
          have hil := (List.getElem?_eq_some_iff.1 h1).1
          have hrow : ((rows.drop off).take rows'.length)[i]? = some (((rows.drop off).take rows'.length)[i]'(by omega)) := by simp [htl, hil]
          have e1 := hel i _ row' hrow h1
          have hjl : j < (((rows.drop off).take rows'.length)[i]'(by omega)).length := by rw [e1]; exact (List.getElem?_eq_some_iff.1 h2).1
          have hv : (((rows.drop off).take rows'.length)[i]'(by omega))[j]? = some ((((rows.drop off).take rows'.length)[i]'(by omega))[j]) := by simp [hjl]
          refine ih i _ row' j _ v' hrow h1 hv h2 ?_
          rw [List.getElem?_take, if_pos hil, List.getElem?_drop] at hrow
          refine g6 (off + i) _ j _ u' hrow hv ?_
          rw [Nat.zero_add, Nat.add_mul]
          exact h3
  | agg cs cs' hl _ ih =>
    intro u h
    obtain ⟨us, rfl, h1, h2⟩ := h.agg_inv
    refine .agg cs' us (by omega) (fun j v' u' e1 e2 => ?_)
    have hjl : j < cs.length := by rw [hl]; exact (List.getElem?_eq_some_iff.1 e1).1
    have hv : cs[j]? = some cs[j] := by simp [hjl]
    exact ih j _ v' hv e1 (h2 j _ u' hv e2)
  | tup cs cs' hl _ ih =>
    intro u h
    obtain ⟨us, rfl, h1, h2⟩ := h.tup_inv
    refine .tup cs' us (by omega) (fun j v' u' e1 e2 => ?_)
    have hjl : j < cs.length := by rw [hl]; exact (List.getElem?_eq_some_iff.1 e1).1
    have hv : cs[j]? = some cs[j] := by simp [hjl]
    exact ih j _ v' hv e1 (h2 j _ u' hv e2)
  | pt id k r off rows row row' hid hb hr hl hbel _ ih =>
    intro u h
    cases h with
    | rpt _ _ _ _ ad hi _ hp =>
      obtain ⟨b, sz, hρ, ⟨cells, e, fz, g1, g2, g3⟩, hk⟩ := hH.seen hb hr
      rw [hp b sz hρ]
      refine .fpt row' off b (r * k) cells e fz g1 (fun h => h) (by omega) hbel (fun j v' u' e1 e2 => ?_)
      have hjl : j < row.length := by rw [hl]; exact (List.getElem?_eq_some_iff.1 e1).1
      have hv : row[j]? = some row[j] := by simp [hjl]
      exact ih j _ v' hv e1 (g3 j _ u' hv e2)
  | fn f fs fs' cs cs' h1 h2 _ _ ih1 ih2 =>
    intro u h
    cases h with
    | fn _ _ _ us vs k1 k2 k3 k4 =>
      refine .fn f fs' cs' us vs (by omega) (by omega) (fun j v' u' e1 e2 => ?_) (fun j v' u' e1 e2 => ?_)
      · have hjl : j < fs.length := by rw [h1]; exact (List.getElem?_eq_some_iff.1 e1).1
        have hv : fs[j]? = some fs[j] := by simp [hjl]
        exact ih1 j _ v' hv e1 (k3 j _ u' hv e2)
      · have hjl : j < cs.length := by rw [h2]; exact (List.getElem?_eq_some_iff.1 e1).1
        have hv : cs[j]? = some cs[j] := by simp [hjl]
        exact ih2 j _ v' hv e1 (k4 j _ u' hv e2)
  | ifc t v v' _ ih =>
    intro u h
    cases h with
    | ifc _ _ u0 h0 => exact .ifc t v' u0 (ih h0)

theorem snd_lend {fv fv' : V} {args args' : List V} {H : List Blk} {r : V} (h : SndC P fv' args' [] r []) (hf : Frz 0 H fv fv') (hl : args.length = args'.length) (ha : ∀ (j : Nat) (v v' : V), args[j]? = some v → args'[j]? = some v' → Frz 0 H v v')
    (hr : r.flat = true) : SndC P fv args H r H := by
  intro c hH fu us hfu hargs
  obtain ⟨d, hd, hi⟩ := h (lentCx c) ⟨rfl, fun b hb => hb.elim, fun _ _ => rfl, fun id blk hb => by simp at hb, fun id id' b s s' e => by cases e⟩ fu us (frz_lend hH hf hfu)
    ⟨by rw [← hl]; exact hargs.1, fun j v' u e1 e2 => by
      have hj : j < args.length := by rw [hl]; exact (List.getElem?_eq_some_iff.1 e1).1
      have hv : args[j]? = some args[j] := by simp [hj]
      exact frz_lend hH (ha j _ v' hv e1) (hargs.2 j _ u hv e2)⟩
  refine ⟨d, hd, ?_⟩
  have conv : ∀ v w', Post (lentCx c) [] r v w' → Post c H r v w' := by
    rintro v w' ⟨c1, rfl, h1, h2, h3⟩
    have hkeep : ∀ b, b < c.w.heap.size → c1.w.heap[b]? = c.w.heap[b]? := fun b hb => h3.keep b hb (fun id sz e => by cases e)
    have hsub : Sub c { c with w := c1.w } := ⟨fun b hb hx => ⟨hkeep b hb, hx⟩, Nat.le_refl _, fun _ _ => .inl rfl⟩
    refine ⟨{ c with w := c1.w }, rfl, ⟨hH.N, fun b hb => Nat.lt_of_lt_of_le (hH.X b hb) h3.size, hH.gone, fun id blk hb hd => ?_, hH.inj⟩, h2.flat hr, ⟨h3.os, h3.tape, h3.output, h3.size, fun b hb _ => hkeep b hb, fun _ _ => ⟨fun h => h, fun _ h => h⟩, Nat.le_refl _, fun _ _ => .inl rfl, fun id b sz e => .inr ⟨id, sz, e⟩, h3.drawn⟩⟩
    obtain ⟨b, sz, k1, k2, k3⟩ := hH.live id blk hb hd
    have hh := hkeep b (hH.lt k1)
    refine ⟨b, sz, k1, k2, ?_⟩
    exact k3.move hh hsub
  exact hi.mono conv
end Go.Sh
end
section
namespace Go.Sh
open Go.RowKit
set_option linter.unusedVariables false
set_option linter.unusedSimpArgs false

variable {P : Program} {nt : Nat}

def rdsA : A → List Nat | .t n => [n] | .c _ => []
def rdsO : Option A → List Nat | some a => rdsA a | none => []
def rdsL : List A → List Nat | [] => [] | a :: r => rdsA a ++ rdsL r

def rds : IOp → List Nat
  | .mov x | .box x | .ld _ x | .nilc x | .un _ x | .cvi _ x | .mki _ x | .fad _ x | .fld _ _ x | .ext x _ | .len _ x | .clr _ _ x | .lenm x => rdsA x
  | .pick c x y => rdsA c ++ rdsA x ++ rdsA y
  | .alloc _ | .mkm => []
  | .mup _ _ m k v => rdsA m ++ rdsA k ++ rdsA v
  | .bld _ ps => rdsL (ps.map (·.2.2))
  | .bsl _ _ _ _ ps => rdsL (ps.map (·.2))
  | .st _ x y | .bin _ x y | .eqb _ _ x y | .eqs _ _ x y | .mks _ _ _ x y | .ixs _ x y | .ixa _ _ x y | .ixv _ _ _ x y | .ixt x y | .app _ _ x y | .mm _ x y | .lk _ _ _ _ x y => rdsA x ++ rdsA y
  | .mkf _ a b => rdsL a ++ rdsL b
  | .slc _ x l h m => rdsA x ++ rdsO l ++ rdsO h ++ rdsO m
  | .sls x l h => rdsA x ++ rdsO l ++ rdsO h
  | .calv f l => rdsA f ++ rdsL l
  | .inv x _ l => rdsA x ++ rdsL l

def rdsE (el : IEl) : List Nat := rds el.op ++ (match el.grd with | some (g, _) => [g] | none => [])

/-- Operations that may come in any order. -/
def qKind : IOp → Bool
  | .mov _ | .pick .. | .bld .. | .ld .. | .nilc _ | .bin .. | .eqb .. | .eqs .. | .un .. | .cvi .. | .mki .. | .mkf .. | .slc .. | .sls .. | .fad .. | .fld .. | .ixs .. | .ixa .. | .ixv .. | .ixt .. | .ext .. | .calv .. | .inv .. | .len .. | .mm .. | .lk .. | .lenm .. => true
  | .bsl fz .. => fz
  | _ => false

/-- What a call names was there before. -/
def qSide (n : Nat) (E : Env) : IOp → Prop
  | .calv f l => (ev E f).bel n = true ∧ belL n (l.map (ev E)) = true
  | .inv x _ l => (ev E x).bel n = true ∧ belL n (l.map (ev E)) = true
  | _ => True

theorem stepI_ex {op : IOp} {E : Env} {H : List Blk} {K : V → List Blk → Prop} (h : stepI true P op E H K) : ∃ v H', stepI true P op E H (fun a b => a = v ∧ b = H') ∧ K v H' := by
  cases op with
  | mov x => exact ⟨_, _, ⟨rfl, rfl⟩, h⟩
  | pick c x y =>
    simp only [stepI] at h ⊢
    split at h
    · rename_i t ht
      cases t with
      | true => exact ⟨_, _, ⟨fun _ => ⟨rfl, rfl⟩, (fun h => by cases h)⟩, h.1 rfl⟩
      | false => exact ⟨_, _, ⟨(fun h => by cases h), fun _ => ⟨rfl, rfl⟩⟩, h.2 rfl⟩
    · exact h.elim
  | alloc z => exact ⟨_, _, ⟨h.1, rfl, rfl⟩, h.2⟩
  | box x => exact ⟨_, _, ⟨h.1, rfl, rfl⟩, h.2⟩
  | bld z parts => obtain ⟨h1, cs, h2, h3⟩ := h; exact ⟨_, _, ⟨h1, cs, h2, rfl, rfl⟩, h3⟩
  | bsl fz k n z parts =>
    cases fz with
    | false => obtain ⟨h1, h2, h3, rows, h4, h5⟩ := h; exact ⟨_, _, ⟨h1, h2, h3, rows, h4, rfl, rfl⟩, h5⟩
    | true => obtain ⟨h1, h2, h3, rows, h4, h5, h6⟩ := h; exact ⟨_, _, ⟨h1, h2, h3, rows, h4, h5, rfl, rfl⟩, h6⟩
  | ld sz a =>
    simp only [stepI] at h ⊢
    split at h
    · obtain ⟨rows, row, h1, h2, v, h3, h4⟩ := h; exact ⟨_, _, ⟨rows, row, h1, h2, v, h3, rfl, rfl⟩, h4⟩
    · obtain ⟨v, h3, h4⟩ := h; exact ⟨_, _, ⟨v, h3, rfl, rfl⟩, h4⟩
    · exact h.elim
  | st sz a v =>
    simp only [stepI] at h ⊢
    split at h
    · obtain ⟨rows, row, h1, h2, h3, h4, h5, h6⟩ := h; exact ⟨_, _, ⟨rows, row, h1, h2, h3, h4, h5, rfl, rfl⟩, h6⟩
    · exact h.elim
  | nilc x =>
    simp only [stepI] at h ⊢
    refine ⟨ev E x, H, ?_, ?_⟩
    · split at h <;> first | exact ⟨rfl, rfl⟩ | exact h.elim
    · split at h <;> first | exact h | exact h.elim
  | bin op x y => obtain ⟨v, h1, h2⟩ := h; exact ⟨_, _, ⟨v, h1, rfl, rfl⟩, h2⟩
  | eqb tg neg x y =>
    simp only [stepI, eqbI] at h ⊢
    split at h
    · exact ⟨_, _, ⟨rfl, rfl⟩, h⟩
    · cases h.1
  | eqs neg offs x y =>
    simp only [stepI] at h ⊢
    split at h
    · obtain ⟨t, h1, h2⟩ := h; exact ⟨_, _, ⟨t, h1, rfl, rfl⟩, h2⟩
    · exact h.elim
  | un op x => obtain ⟨v, h1, h2⟩ := h; exact ⟨_, _, ⟨v, h1, rfl, rfl⟩, h2⟩
  | cvi k x =>
    simp only [stepI] at h ⊢
    split at h
    · exact ⟨_, _, ⟨rfl, rfl⟩, h⟩
    · exact h.elim
  | mki t x => exact ⟨_, _, ⟨rfl, rfl⟩, h⟩
  | mkf f a b => exact ⟨_, _, ⟨rfl, rfl⟩, h⟩
  | mks k bytes z len cap =>
    simp only [stepI] at h ⊢
    split at h
    · obtain ⟨h1, h2, h3, h4, h5, h6, h7⟩ := h; exact ⟨_, _, ⟨h1, h2, h3, h4, h5, h6, rfl, rfl⟩, h7⟩
    · exact h.elim
  | slc k x lo hi mx =>
    simp only [stepI, sliceI] at h ⊢
    split at h
    · obtain ⟨h0, h⟩ := h
      split at h
      · split at h
        · obtain ⟨h1, h2, h3, h4⟩ := h; exact ⟨_, _, ⟨h0, h1, h2, h3, rfl, rfl⟩, h4⟩
        · exact h.elim
      · split at h
        · obtain ⟨h1, h2, h3, h4, h5⟩ := h; exact ⟨_, _, ⟨h0, h1, h2, h3, h4, rfl, rfl⟩, h5⟩
        · exact h.elim
    · split at h
      · obtain ⟨h1, h2, h3, h4⟩ := h; exact ⟨_, _, ⟨h1, h2, h3, rfl, rfl⟩, h4⟩
      · exact h.elim
    · split at h
      · obtain ⟨h1, h2, h3, h4⟩ := h; exact ⟨_, _, ⟨h1, h2, h3, rfl, rfl⟩, h4⟩
      · exact h.elim
    · obtain ⟨h0, h⟩ := h
      split at h
      · split at h
        · obtain ⟨h1, h2, h3, h4⟩ := h; exact ⟨_, _, ⟨h0, h1, h2, h3, rfl, rfl⟩, h4⟩
        · exact h.elim
      · split at h
        · obtain ⟨h1, h2, h3, h4, h5⟩ := h; exact ⟨_, _, ⟨h0, h1, h2, h3, h4, rfl, rfl⟩, h5⟩
        · exact h.elim
    · exact h.elim
  | sls x lo hi =>
    simp only [stepI] at h ⊢
    split at h
    · split at h
      · obtain ⟨h1, h2, h3, h4⟩ := h; exact ⟨_, _, ⟨h1, h2, h3, rfl, rfl⟩, h4⟩
      · exact h.elim
    · exact h.elim
  | fad off x =>
    simp only [stepI] at h ⊢
    split at h
    · exact ⟨_, _, ⟨rfl, rfl⟩, h⟩
    · exact ⟨_, _, ⟨rfl, rfl⟩, h⟩
    · exact h.elim
  | fld off sz x =>
    simp only [stepI] at h ⊢
    split at h
    · obtain ⟨v, h1, h2⟩ := h; exact ⟨_, _, ⟨v, h1, rfl, rfl⟩, h2⟩
    · exact h.elim
  | ixs k x i =>
    simp only [stepI] at h ⊢
    split at h
    · obtain ⟨row, h1, h2, h3⟩ := h; exact ⟨_, _, ⟨row, h1, h2, rfl, rfl⟩, h3⟩
    · obtain ⟨h1, h2, h3, h4⟩ := h; exact ⟨_, _, ⟨h1, h2, h3, rfl, rfl⟩, h4⟩
    · exact h.elim
  | ixa n es x i =>
    simp only [stepI] at h ⊢
    split at h
    · obtain ⟨h1, h2, h3⟩ := h; exact ⟨_, _, ⟨h1, h2, rfl, rfl⟩, h3⟩
    · obtain ⟨h1, h2, h3⟩ := h; exact ⟨_, _, ⟨h1, h2, rfl, rfl⟩, h3⟩
    · exact h.elim
  | ixv n es sz x i =>
    simp only [stepI] at h ⊢
    split at h
    · obtain ⟨h1, h2, v, h3, h4⟩ := h; exact ⟨_, _, ⟨h1, h2, v, h3, rfl, rfl⟩, h4⟩
    · exact h.elim
  | ixt x i =>
    simp only [stepI] at h ⊢
    split at h
    · obtain ⟨b, h1, h2⟩ := h; exact ⟨_, _, ⟨b, h1, rfl, rfl⟩, h2⟩
    · exact h.elim
  | ext x n =>
    simp only [stepI] at h ⊢
    split at h
    · obtain ⟨v, h1, h2⟩ := h; exact ⟨_, _, ⟨v, h1, rfl, rfl⟩, h2⟩
    · exact h.elim
  | calv f l => obtain ⟨r, H', h1, h2⟩ := h; exact ⟨_, _, ⟨r, H', h1, rfl, rfl⟩, h2⟩
  | inv x name l =>
    simp only [stepI] at h ⊢
    split at h
    · obtain ⟨f, h0, r, H', h1, h2⟩ := h; exact ⟨_, _, ⟨f, h0, r, H', h1, rfl, rfl⟩, h2⟩
    · exact h.elim
  | len str x =>
    cases str <;> simp only [stepI] at h ⊢ <;> split at h <;> first | exact ⟨_, _, ⟨rfl, rfl⟩, h⟩ | exact h.elim
  | app k bytes x y =>
    simp only [stepI, appI] at h ⊢
    obtain ⟨h1, h2, ys, h3, h4, h⟩ := h
    split at h
    · by_cases hy : ys = []
      · exact ⟨_, _, ⟨h1, h2, ys, h3, h4, fun _ => ⟨rfl, rfl⟩, fun h => absurd hy h⟩, h.1 hy⟩
      · exact ⟨_, _, ⟨h1, h2, ys, h3, h4, fun h => absurd h hy, fun _ => ⟨(h.2 hy).1, rfl, rfl⟩⟩, (h.2 hy).2⟩
    · obtain ⟨k1, k2, rows, k3, k4, h⟩ := h
      rcases h with ⟨a1, a2, a3⟩ | ⟨a1, a2, a3⟩ | ⟨a1, a2, a3⟩
      · exact ⟨_, _, ⟨h1, h2, ys, h3, h4, k1, k2, rows, k3, k4, .inl ⟨a1, a2, rfl, rfl⟩⟩, a3⟩
      · exact ⟨_, _, ⟨h1, h2, ys, h3, h4, k1, k2, rows, k3, k4, .inr (.inl ⟨a1, a2, rfl, rfl⟩)⟩, a3⟩
      · exact ⟨_, _, ⟨h1, h2, ys, h3, h4, k1, k2, rows, k3, k4, .inr (.inr ⟨a1, a2, rfl, rfl⟩)⟩, a3⟩
    · by_cases hy : ys = []
      · exact ⟨_, _, ⟨h1, h2, ys, h3, h4, fun _ => ⟨rfl, rfl⟩, fun h => absurd hy h⟩, h.1 hy⟩
      · exact ⟨_, _, ⟨h1, h2, ys, h3, h4, fun h => absurd h hy, fun _ => ⟨(h.2 hy).1, rfl, rfl⟩⟩, (h.2 hy).2⟩
    · obtain ⟨a1, a2⟩ := h; exact ⟨_, _, ⟨h1, h2, ys, h3, h4, a1, rfl, rfl⟩, a2⟩
    · exact h.elim
  | clr k z x =>
    simp only [stepI] at h ⊢
    split at h
    · obtain ⟨h1, h2, h3, rows, h4, h5, h6⟩ := h; exact ⟨_, _, ⟨h1, h2, h3, rows, h4, h5, rfl, rfl⟩, h6⟩
    · exact ⟨_, _, ⟨rfl, rfl⟩, h⟩
    · exact ⟨_, _, ⟨rfl, rfl⟩, h⟩
    · exact ⟨_, _, ⟨rfl, rfl⟩, h⟩
    · exact h.elim
  | mm mx x y =>
    simp only [stepI] at h ⊢
    split at h
    · obtain ⟨h1, h2⟩ := h; exact ⟨_, _, ⟨h1, rfl, rfl⟩, h2⟩
    · exact h.elim
  | mkm => exact ⟨_, _, ⟨rfl, rfl⟩, h⟩
  | lk tg tgs z ok x i =>
    simp only [stepI] at h ⊢
    obtain ⟨h0, h⟩ := h
    split at h
    · exact ⟨_, _, ⟨h0, rfl, rfl⟩, h⟩
    · obtain ⟨es, r, h1, h2, h3⟩ := h; exact ⟨_, _, ⟨h0, es, r, h1, h2, rfl, rfl⟩, h3⟩
    · exact h.elim
  | mup tg tgs m k v =>
    simp only [stepI] at h ⊢
    obtain ⟨h0, h⟩ := h
    split at h
    · obtain ⟨es, es', h1, h2, h3⟩ := h; exact ⟨_, _, ⟨h0, es, es', h1, h2, rfl, rfl⟩, h3⟩
    · exact h.elim
  | lenm x =>
    simp only [stepI] at h ⊢
    split at h
    · exact ⟨_, _, ⟨rfl, rfl⟩, h⟩
    · obtain ⟨es, h1, h2⟩ := h; exact ⟨_, _, ⟨es, h1, rfl, rfl⟩, h2⟩
    · exact h.elim

theorem stepI_weak {op : IOp} {E : Env} {H : List Blk} {K : V → List Blk → Prop} (h : stepI true P op E H K) : stepI false P op E H K := by
  cases op with
  | calv f l => obtain ⟨r, H', h1, h2⟩ := h; exact SndX.of h1 h2
  | inv x name l =>
    simp only [stepI] at h ⊢
    split at h
    · obtain ⟨f, h0, r, H', h1, h2⟩ := h; exact ⟨f, h0, SndX.of h1 h2⟩
    · exact h.elim
  | bsl fz k n z parts => cases fz <;> exact h
  | eqb tg neg x y =>
    simp only [stepI, eqbI] at h ⊢
    split at h
    · exact h
    · cases h.1
  | len str x => cases str <;> exact h
  | _ => exact h
end Go.Sh
end
section
namespace Go.Sh
open Go.RowKit
set_option linter.unusedVariables false
set_option linter.unusedSimpArgs false

variable {P : Program} {nt : Nat}

/-- What may come in any order does the same over more blocks. -/
theorem q_more {c0 : Cx} {H0 G : List Blk} (h0 : RH c0 H0) {op : IOp} {E : Env} {K0 K : V → List Blk → Prop} (hq : qKind op = true) (hs : qSide H0.length E op) (h : stepI true P op E H0 K0) (hK0 : ∀ a b, K0 a b → b = H0) (hK : ∀ a, K0 a H0 → K a (H0 ++ G)) :
    stepI true P op E (H0 ++ G) K := by
  cases op with
  | ld sz a =>
    simp only [stepI] at h ⊢
    split at h
    · obtain ⟨rows, row, h1, h2, v, h3, h4⟩ := h
      exact ⟨rows, row, by rw [List.getElem?_append_left (List.getElem?_eq_some_iff.1 h1).1]; exact h1, h2, v, h3, hK _ h4⟩
    · obtain ⟨v, h3, h4⟩ := h; exact ⟨v, h3, hK _ h4⟩
    · exact h.elim
  | calv f l =>
    obtain ⟨r, H', h1, h2⟩ := h
    obtain rfl := hK0 _ _ h2
    exact ⟨_, _, snd_frame0 h0 h1 rfl hs.1 hs.2, hK _ h2⟩
  | inv x name l =>
    simp only [stepI, qSide] at h hs ⊢
    split at h
    · rename_i t u he
      rw [he] at hs
      obtain ⟨f, hf, r, H', h1, h2⟩ := h
      obtain rfl := hK0 _ _ h2
      refine ⟨f, hf, _, _, snd_frame0 h0 h1 rfl rfl ?_, hK _ h2⟩
      simp only [V.bel] at hs
      simp [belL, hs.1, hs.2]
    · exact h.elim
  | mov x => exact hK _ h
  | pick c x y =>
    simp only [stepI] at h ⊢
    split at h
    · exact ⟨fun e => hK _ (h.1 e), fun e => hK _ (h.2 e)⟩
    · exact h.elim
  | bld z parts => obtain ⟨h1, cs, h2, h3⟩ := h; exact ⟨h1, cs, h2, hK _ h3⟩
  | nilc x => simp only [stepI] at h ⊢; split at h <;> first | exact hK _ h | exact h.elim
  | bin op x y => obtain ⟨v, h1, h2⟩ := h; exact ⟨v, h1, hK _ h2⟩
  | eqb tg neg x y =>
    simp only [stepI, eqbI] at h ⊢
    split at h
    · exact hK _ h
    · cases h.1
  | eqs neg offs x y =>
    simp only [stepI] at h ⊢
    split at h
    · obtain ⟨t, h1, h2⟩ := h; exact ⟨t, h1, hK _ h2⟩
    · exact h.elim
  | un op x => obtain ⟨v, h1, h2⟩ := h; exact ⟨v, h1, hK _ h2⟩
  | cvi k x => simp only [stepI] at h ⊢; split at h <;> first | exact hK _ h | exact h.elim
  | mki t x => exact hK _ h
  | mkf f a b => exact hK _ h
  | slc k x lo hi mx =>
    simp only [stepI, sliceI] at h ⊢
    split at h
    · obtain ⟨h0, h⟩ := h
      split at h
      · split at h
        · obtain ⟨h1, h2, h3, h4⟩ := h; exact ⟨h0, h1, h2, h3, hK _ h4⟩
        · exact h.elim
      · split at h
        · obtain ⟨h1, h2, h3, h4, h5⟩ := h; exact ⟨h0, h1, h2, h3, h4, hK _ h5⟩
        · exact h.elim
    · split at h
      · obtain ⟨h1, h2, h3, h4⟩ := h; exact ⟨h1, h2, h3, hK _ h4⟩
      · exact h.elim
    · split at h
      · obtain ⟨h1, h2, h3, h4⟩ := h; exact ⟨h1, h2, h3, hK _ h4⟩
      · exact h.elim
    · obtain ⟨h0, h⟩ := h
      split at h
      · split at h
        · obtain ⟨h1, h2, h3, h4⟩ := h; exact ⟨h0, h1, h2, h3, hK _ h4⟩
        · exact h.elim
      · split at h
        · obtain ⟨h1, h2, h3, h4, h5⟩ := h; exact ⟨h0, h1, h2, h3, h4, hK _ h5⟩
        · exact h.elim
    · exact h.elim
  | sls x lo hi =>
    simp only [stepI] at h ⊢
    split at h
    · split at h
      · obtain ⟨h1, h2, h3, h4⟩ := h; exact ⟨h1, h2, h3, hK _ h4⟩
      · exact h.elim
    · exact h.elim
  | fad off x => simp only [stepI] at h ⊢; split at h <;> first | exact hK _ h | exact h.elim
  | fld off sz x =>
    simp only [stepI] at h ⊢
    split at h
    · obtain ⟨v, h1, h2⟩ := h; exact ⟨v, h1, hK _ h2⟩
    · exact h.elim
  | ixs k x i =>
    simp only [stepI] at h ⊢
    split at h
    · obtain ⟨row, h1, h2, h3⟩ := h; exact ⟨row, h1, h2, hK _ h3⟩
    · obtain ⟨h1, h2, h3, h4⟩ := h; exact ⟨h1, h2, h3, hK _ h4⟩
    · exact h.elim
  | ixa n es x i =>
    simp only [stepI] at h ⊢
    split at h
    · obtain ⟨h1, h2, h3⟩ := h; exact ⟨h1, h2, hK _ h3⟩
    · obtain ⟨h1, h2, h3⟩ := h; exact ⟨h1, h2, hK _ h3⟩
    · exact h.elim
  | ixv n es sz x i =>
    simp only [stepI] at h ⊢
    split at h
    · obtain ⟨h1, h2, v, h3, h4⟩ := h; exact ⟨h1, h2, v, h3, hK _ h4⟩
    · exact h.elim
  | ixt x i =>
    simp only [stepI] at h ⊢
    split at h
    · obtain ⟨b, h1, h2⟩ := h; exact ⟨b, h1, hK _ h2⟩
    · exact h.elim
  | ext x n =>
    simp only [stepI] at h ⊢
    split at h
    · obtain ⟨v, h1, h2⟩ := h; exact ⟨v, h1, hK _ h2⟩
    · exact h.elim
  | len str x => cases str <;> simp only [stepI] at h ⊢ <;> split at h <;> first | exact hK _ h | exact h.elim
  | mm mx x y =>
    simp only [stepI] at h ⊢
    split at h
    · obtain ⟨h1, h2⟩ := h; exact ⟨h1, hK _ h2⟩
    · exact h.elim
  | bsl fz k n z parts =>
    cases fz with
    | false => cases hq
    | true => obtain ⟨h1, h2, h3, rows, h4, h5, h6⟩ := h; exact ⟨h1, h2, h3, rows, h4, h5, hK _ h6⟩
  | lk tg tgs z ok x i =>
    simp only [stepI] at h ⊢
    obtain ⟨h0, h⟩ := h
    refine ⟨h0, ?_⟩
    split at h
    · exact hK _ h
    · obtain ⟨es, r, h1, h2, h3⟩ := h
      exact ⟨es, r, by rw [List.getElem?_append_left (List.getElem?_eq_some_iff.1 h1).1]; exact h1, h2, hK _ h3⟩
    · exact h.elim
  | lenm x =>
    simp only [stepI] at h ⊢
    split at h
    · exact hK _ h
    · obtain ⟨es, h1, h2⟩ := h
      exact ⟨es, by rw [List.getElem?_append_left (List.getElem?_eq_some_iff.1 h1).1]; exact h1, hK _ h2⟩
    · exact h.elim
  | _ => cases hq

/-- What reads no block. -/
def pKind : IOp → Bool
  | .mov _ | .pick .. | .bld .. | .nilc _ | .bin .. | .eqb .. | .eqs .. | .un .. | .cvi .. | .mki .. | .mkf .. | .slc .. | .sls .. | .fad .. | .fld .. | .ixs .. | .ixa .. | .ixv .. | .ixt .. | .ext .. | .len .. | .mm .. => true
  | .bsl fz .. => fz
  | _ => false
/-- It does the same over any blocks. -/
theorem p_any {H0 H' : List Blk} {op : IOp} {E : Env} {K0 K : V → List Blk → Prop} (hq : pKind op = true) (h : stepI true P op E H0 K0) (hK : ∀ a, K0 a H0 → K a H') :
    stepI true P op E H' K := by
  cases op with
  | mov x => exact hK _ h
  | pick c x y =>
    simp only [stepI] at h ⊢
    split at h
    · exact ⟨fun e => hK _ (h.1 e), fun e => hK _ (h.2 e)⟩
    · exact h.elim
  | bld z parts => obtain ⟨h1, cs, h2, h3⟩ := h; exact ⟨h1, cs, h2, hK _ h3⟩
  | nilc x => simp only [stepI] at h ⊢; split at h <;> first | exact hK _ h | exact h.elim
  | bin op x y => obtain ⟨v, h1, h2⟩ := h; exact ⟨v, h1, hK _ h2⟩
  | eqb tg neg x y =>
    simp only [stepI, eqbI] at h ⊢
    split at h
    · exact hK _ h
    · cases h.1
  | eqs neg offs x y =>
    simp only [stepI] at h ⊢
    split at h
    · obtain ⟨t, h1, h2⟩ := h; exact ⟨t, h1, hK _ h2⟩
    · exact h.elim
  | un op x => obtain ⟨v, h1, h2⟩ := h; exact ⟨v, h1, hK _ h2⟩
  | cvi k x => simp only [stepI] at h ⊢; split at h <;> first | exact hK _ h | exact h.elim
  | mki t x => exact hK _ h
  | mkf f a b => exact hK _ h
  | slc k x lo hi mx =>
    simp only [stepI, sliceI] at h ⊢
    split at h
    · obtain ⟨h0, h⟩ := h
      split at h
      · split at h
        · obtain ⟨h1, h2, h3, h4⟩ := h; exact ⟨h0, h1, h2, h3, hK _ h4⟩
        · exact h.elim
      · split at h
        · obtain ⟨h1, h2, h3, h4, h5⟩ := h; exact ⟨h0, h1, h2, h3, h4, hK _ h5⟩
        · exact h.elim
    · split at h
      · obtain ⟨h1, h2, h3, h4⟩ := h; exact ⟨h1, h2, h3, hK _ h4⟩
      · exact h.elim
    · split at h
      · obtain ⟨h1, h2, h3, h4⟩ := h; exact ⟨h1, h2, h3, hK _ h4⟩
      · exact h.elim
    · obtain ⟨h0, h⟩ := h
      split at h
      · split at h
        · obtain ⟨h1, h2, h3, h4⟩ := h; exact ⟨h0, h1, h2, h3, hK _ h4⟩
        · exact h.elim
      · split at h
        · obtain ⟨h1, h2, h3, h4, h5⟩ := h; exact ⟨h0, h1, h2, h3, h4, hK _ h5⟩
        · exact h.elim
    · exact h.elim
  | sls x lo hi =>
    simp only [stepI] at h ⊢
    split at h
    · split at h
      · obtain ⟨h1, h2, h3, h4⟩ := h; exact ⟨h1, h2, h3, hK _ h4⟩
      · exact h.elim
    · exact h.elim
  | fad off x => simp only [stepI] at h ⊢; split at h <;> first | exact hK _ h | exact h.elim
  | fld off sz x =>
    simp only [stepI] at h ⊢
    split at h
    · obtain ⟨v, h1, h2⟩ := h; exact ⟨v, h1, hK _ h2⟩
    · exact h.elim
  | ixs k x i =>
    simp only [stepI] at h ⊢
    split at h
    · obtain ⟨row, h1, h2, h3⟩ := h; exact ⟨row, h1, h2, hK _ h3⟩
    · obtain ⟨h1, h2, h3, h4⟩ := h; exact ⟨h1, h2, h3, hK _ h4⟩
    · exact h.elim
  | ixa n es x i =>
    simp only [stepI] at h ⊢
    split at h
    · obtain ⟨h1, h2, h3⟩ := h; exact ⟨h1, h2, hK _ h3⟩
    · obtain ⟨h1, h2, h3⟩ := h; exact ⟨h1, h2, hK _ h3⟩
    · exact h.elim
  | ixv n es sz x i =>
    simp only [stepI] at h ⊢
    split at h
    · obtain ⟨h1, h2, v, h3, h4⟩ := h; exact ⟨h1, h2, v, h3, hK _ h4⟩
    · exact h.elim
  | ixt x i =>
    simp only [stepI] at h ⊢
    split at h
    · obtain ⟨b, h1, h2⟩ := h; exact ⟨b, h1, hK _ h2⟩
    · exact h.elim
  | ext x n =>
    simp only [stepI] at h ⊢
    split at h
    · obtain ⟨v, h1, h2⟩ := h; exact ⟨v, h1, hK _ h2⟩
    · exact h.elim
  | len str x => cases str <;> simp only [stepI] at h ⊢ <;> split at h <;> first | exact hK _ h | exact h.elim
  | mm mx x y =>
    simp only [stepI] at h ⊢
    split at h
    · obtain ⟨h1, h2⟩ := h; exact ⟨h1, hK _ h2⟩
    · exact h.elim
  | bsl fz k n z parts =>
    cases fz with
    | false => cases hq
    | true => obtain ⟨h1, h2, h3, rows, h4, h5, h6⟩ := h; exact ⟨h1, h2, h3, rows, h4, h5, hK _ h6⟩
  | _ => cases hq

/-- By a guard. -/
def grdI (el : IEl) (E : Env) (yes no : Prop) (s : Stop yes no := .mk) : Prop :=
  match el.grd with
  | none => yes
  | some (g, w) => match get E g with
    | some (.b x) => brG x w yes no
    | some .skp => no
    | _ => False

/-- Phase 1: what computes (0), what makes memory in one order (1), what writes older blocks (3), behind all that reads; variables are made later (2). -/
def ph1 (P : Program) (H0 : List Blk) (l : List (Nat × IEl)) (E : Env) (H : List Blk) (K : Env → List Blk → Prop) (s : StopK K := .mk) : Prop :=
  match l with
  | [] => K E H
  | (tg, ⟨dst, grd, op⟩) :: r =>
    match tg with
    | 2 => ph1 P H0 r E H K
    | 3 => grdI ⟨dst, grd, op⟩ (keep E (rdsE ⟨dst, grd, op⟩)) (stepI true P op (keep E (rdsE ⟨dst, grd, op⟩)) H fun v H2 => ph1 P H0 r (putO E dst v) H2 K) (ph1 P H0 r (putO E dst .skp) H K)
    | 1 => grdI ⟨dst, grd, op⟩ (keep E (rdsE ⟨dst, grd, op⟩)) (stepI true P op (keep E (rdsE ⟨dst, grd, op⟩)) H fun v H2 => H2.take H0.length = H0 ∧ ph1 P H0 r (putO E dst v) H2 K) (ph1 P H0 r (putO E dst .skp) H K)
    | _ => grdI ⟨dst, grd, op⟩ (keep E (rdsE ⟨dst, grd, op⟩)) (qSide H0.length (keep E (rdsE ⟨dst, grd, op⟩)) op ∧ stepI true P op (keep E (rdsE ⟨dst, grd, op⟩)) H0 fun v H2 => H2 = H0 ∧ ph1 P H0 r (putO E dst v) H K) (ph1 P H0 r (putO E dst .skp) H K)

structure TS where
  run : Bool
  v : V
  H2 : List Blk

/-- What one operation does. -/
def did (P : Program) (H0 : List Blk) (tg : Nat) (el : IEl) (E : Env) (H : List Blk) (t : TS) : Prop :=
  (t.run = true ∧ (match el.grd with | none => True | some (g, w) => get (keep E (rdsE el)) g = some (.b w)) ∧
    ((tg = 1 ∧ stepI true P el.op (keep E (rdsE el)) H (fun a b => a = t.v ∧ b = t.H2) ∧ t.H2.take H0.length = H0) ∨
     (tg = 3 ∧ stepI true P el.op (keep E (rdsE el)) H (fun a b => a = t.v ∧ b = t.H2)) ∨
     (tg ≠ 1 ∧ tg ≠ 3 ∧ qSide H0.length (keep E (rdsE el)) el.op ∧ stepI true P el.op (keep E (rdsE el)) H0 (fun a b => a = t.v ∧ b = H0) ∧ t.H2 = H))) ∨
  (t.run = false ∧ (∃ g w, el.grd = some (g, w) ∧ (get (keep E (rdsE el)) g = some (.b (!w)) ∨ get (keep E (rdsE el)) g = some .skp)) ∧ t.v = .skp ∧ t.H2 = H)

def PT (P : Program) (H0 : List Blk) : List (Nat × IEl) → List TS → Env → List Blk → Env → List Blk → Prop
  | [], ts, E, H, E', H' => E = E' ∧ H = H'
  | (tg, el) :: r, [], E, H, E', H' => False
  | (tg, el) :: r, t :: ts, E, H, E', H' => (tg = 2 ∧ t.H2 = H ∧ PT P H0 r ts E H E' H') ∨ (tg ≠ 2 ∧ did P H0 tg el E H t ∧ PT P H0 r ts (putO E el.dst t.v) t.H2 E' H')

theorem grdI_cases {el : IEl} {E : Env} {yes no : Prop} (h : grdI el E yes no) :
    ((match el.grd with | none => True | some (g, w) => get E g = some (.b w)) ∧ yes) ∨ ((∃ g w, el.grd = some (g, w) ∧ (get E g = some (.b (!w)) ∨ get E g = some .skp)) ∧ no) := by
  unfold grdI at h
  split at h
  · rename_i hg; rw [hg]; exact .inl ⟨trivial, h⟩
  · rename_i g w hg
    rw [hg]
    split at h
    · rename_i x hx
      by_cases hxw : x = w
      · subst hxw; exact .inl ⟨hx, h.1 rfl⟩
      · have : x = !w := by cases x <;> cases w <;> simp_all
        subst this
        exact .inr ⟨⟨g, w, rfl, .inl hx⟩, h.2 rfl⟩
    · rename_i hx; exact .inr ⟨⟨g, w, rfl, .inr hx⟩, h⟩
    · exact h.elim

theorem PT_of {H0 : List Blk} {K : Env → List Blk → Prop} : ∀ {els : List (Nat × IEl)} {E : Env} {H : List Blk}, ph1 P H0 els E H K → ∃ ts E' H', PT P H0 els ts E H E' H' ∧ K E' H'
  | [], E, H, h => ⟨[], E, H, ⟨rfl, rfl⟩, h⟩
  | (tg, ⟨dst, grd, op⟩) :: r, E, H, h => by
    simp only [ph1] at h
    split at h
    · obtain ⟨ts, E', H', h1, h2⟩ := PT_of h
      exact ⟨⟨true, .junk, H⟩ :: ts, E', H', .inl ⟨rfl, rfl, h1⟩, h2⟩
    · rcases grdI_cases h with ⟨hg, hy⟩ | ⟨hg, hn⟩
      · obtain ⟨v, H2, h1, h3⟩ := stepI_ex hy
        obtain ⟨ts, E', H', h4, h5⟩ := PT_of h3
        exact ⟨⟨true, v, H2⟩ :: ts, E', H', .inr ⟨by simp, .inl ⟨rfl, hg, .inr (.inl ⟨rfl, h1⟩)⟩, h4⟩, h5⟩
      · obtain ⟨ts, E', H', h4, h5⟩ := PT_of hn
        exact ⟨⟨false, .skp, H⟩ :: ts, E', H', .inr ⟨by simp, .inr ⟨rfl, hg, rfl, rfl⟩, h4⟩, h5⟩
    · rcases grdI_cases h with ⟨hg, hy⟩ | ⟨hg, hn⟩
      · obtain ⟨v, H2, h1, h2, h3⟩ := stepI_ex hy
        obtain ⟨ts, E', H', h4, h5⟩ := PT_of h3
        exact ⟨⟨true, v, H2⟩ :: ts, E', H', .inr ⟨by simp, .inl ⟨rfl, hg, .inl ⟨rfl, h1, h2⟩⟩, h4⟩, h5⟩
      · obtain ⟨ts, E', H', h4, h5⟩ := PT_of hn
        exact ⟨⟨false, .skp, H⟩ :: ts, E', H', .inr ⟨by simp, .inr ⟨rfl, hg, rfl, rfl⟩, h4⟩, h5⟩
    · rename_i hn2 hn3 hn1
      rcases grdI_cases h with ⟨hg, hs, hy⟩ | ⟨hg, hn⟩
      · obtain ⟨v, H2, h1, rfl, h3⟩ := stepI_ex hy
        obtain ⟨ts, E', H', h4, h5⟩ := PT_of h3
        exact ⟨⟨true, v, H⟩ :: ts, E', H', .inr ⟨fun e => hn2 e, .inl ⟨rfl, hg, .inr (.inr ⟨fun e => hn1 e, fun e => hn3 e, hs, h1, rfl⟩)⟩, h4⟩, h5⟩
      · obtain ⟨ts, E', H', h4, h5⟩ := PT_of hn
        exact ⟨⟨false, .skp, H⟩ :: ts, E', H', .inr ⟨fun e => hn2 e, .inr ⟨rfl, hg, rfl, rfl⟩, h4⟩, h5⟩

def envAt : List (Nat × IEl) → List TS → Env → Nat → Env
  | _, _, E, 0 => E
  | (tg, el) :: r, t :: ts, E, i + 1 => envAt r ts (if tg = 2 then E else putO E el.dst t.v) i
  | _, _, E, _ + 1 => E

def heapAt : List (Nat × IEl) → List TS → List Blk → Nat → List Blk
  | _, _, H, 0 => H
  | (_, _) :: r, t :: ts, H, i + 1 => heapAt r ts t.H2 i
  | _, _, H, _ + 1 => H

theorem PT_end {H0 : List Blk} : ∀ {els : List (Nat × IEl)} {ts : List TS} {E : Env} {H : List Blk} {E' : Env} {H' : List Blk}, PT P H0 els ts E H E' H' → envAt els ts E els.length = E' ∧ heapAt els ts H els.length = H'
  | [], ts, E, H, E', H', h => by obtain ⟨rfl, rfl⟩ := h; exact ⟨rfl, rfl⟩
  | (tg, el) :: r, [], E, H, E', H', h => h.elim
  | (tg, el) :: r, t :: ts, E, H, E', H', h => by
    simp only [List.length_cons, envAt, heapAt]
    rcases h with ⟨rfl, h1, h2⟩ | ⟨hn, h1, h2⟩
    · rw [h1]; simpa using PT_end h2
    · rw [if_neg hn]; exact PT_end h2

theorem PT_at {H0 : List Blk} : ∀ {els : List (Nat × IEl)} {ts : List TS} {E : Env} {H : List Blk} {E' : Env} {H' : List Blk}, PT P H0 els ts E H E' H' → ∀ i tg el, els[i]? = some (tg, el) →
    ∃ t, ts[i]? = some t ∧ heapAt els ts H (i + 1) = t.H2 ∧ ((tg = 2 ∧ t.H2 = heapAt els ts H i) ∨ (tg ≠ 2 ∧ did P H0 tg el (envAt els ts E i) (heapAt els ts H i) t))
  | [], ts, E, H, E', H', h, i, tg, el, hi => by simp at hi
  | (tg, el) :: r, [], E, H, E', H', h, _, _, _, _ => h.elim
  | (tg, el) :: r, t :: ts, E, H, E', H', h, 0, tg', el', hi => by
    simp at hi
    obtain ⟨rfl, rfl⟩ := hi
    refine ⟨t, rfl, by simp [heapAt], ?_⟩
    rcases h with ⟨h0, h1, h2⟩ | ⟨hn, h1, h2⟩
    · exact .inl ⟨h0, h1⟩
    · exact .inr ⟨hn, h1⟩
  | (tg, el) :: r, t :: ts, E, H, E', H', h, i + 1, tg', el', hi => by
    simp at hi
    rcases h with ⟨h0, h1, h2⟩ | ⟨hn, h1, h2⟩
    · obtain ⟨t', g1, g2, g3⟩ := PT_at h2 i tg' el' hi
      refine ⟨t', by simpa using g1, ?_, ?_⟩
      · simp only [heapAt]; rw [h1]; exact g2
      · simp only [heapAt, envAt]; rw [h1, if_pos h0]; exact g3
    · obtain ⟨t', g1, g2, g3⟩ := PT_at h2 i tg' el' hi
      refine ⟨t', by simpa using g1, ?_, ?_⟩
      · simp only [heapAt]; exact g2
      · simp only [heapAt, envAt]; rw [if_neg hn]; exact g3

/-- A slot that nobody has written yet. -/
theorem env_old {s : Nat} : ∀ (els : List (Nat × IEl)) (ts : List TS) (E : Env) (i : Nat), (∀ j tg el, j < i → els[j]? = some (tg, el) → tg ≠ 2 → el.dst ≠ some s) → get (envAt els ts E i) s = get E s
  | _, _, E, 0, _ => by simp [envAt]
  | [], ts, E, i + 1, _ => by simp [envAt]
  | (tg, el) :: r, [], E, i + 1, _ => by simp [envAt]
  | (tg, el) :: r, t :: ts, E, i + 1, h => by
    simp only [envAt]
    rw [env_old r ts _ i (fun j tg' el' hj hg ht => h (j + 1) tg' el' (by omega) (by simpa using hg) ht)]
    split
    · rfl
    · rename_i hn
      have := h 0 tg el (by omega) rfl hn
      cases hd : el.dst with
      | none => rfl
      | some d =>
        rw [hd] at this
        exact get_put_other (fun e => this (by rw [e]))

/-- A slot that one operation writes. -/
theorem env_new {s : Nat} : ∀ (els : List (Nat × IEl)) (ts : List TS) (E : Env) (i j tg : Nat) (el : IEl) (t : TS), j < i → els[j]? = some (tg, el) → tg ≠ 2 → el.dst = some s → ts[j]? = some t →
    (∀ j' tg' el', j' ≠ j → els[j']? = some (tg', el') → tg' ≠ 2 → el'.dst ≠ some s) → get (envAt els ts E i) s = some t.v
  | _, _, E, 0, j, tg, el, t, hj, _, _, _, _, _ => by omega
  | [], ts, E, i + 1, j, tg, el, t, _, hg, _, _, _, _ => by simp at hg
  | (tg0, el0) :: r, [], E, i + 1, j, tg, el, t, _, _, _, _, ht, _ => by simp at ht
  | (tg0, el0) :: r, t0 :: ts, E, i + 1, 0, tg, el, t, _, hg, hn, hd, ht, hu => by
    simp at hg ht
    obtain ⟨rfl, rfl⟩ := hg
    subst ht
    simp only [envAt]
    rw [if_neg hn, env_old r ts _ i (fun j tg' el' hj hg ht => hu (j + 1) tg' el' (by omega) (by simpa using hg) ht), hd]
    exact get_put_same _ _ _
  | (tg0, el0) :: r, t0 :: ts, E, i + 1, j + 1, tg, el, t, hj, hg, hn, hd, ht, hu => by
    simp only [envAt]
    exact env_new r ts _ i j tg el t (by omega) (by simpa using hg) hn hd (by simpa using ht) (fun j' tg' el' hne hg' => hu (j' + 1) tg' el' (by omega) (by simpa using hg'))

/-! ### who waits for whom -/
inductive Reach (ops : Array Oper) : Nat → Nat → Prop
  | one {i : Nat} {o : Oper} {e : Edge} : ops[i]? = some o → e ∈ o.after → Region.binds .any e = true → Reach ops i e.on
  | step {i j : Nat} {o : Oper} {e : Edge} : ops[i]? = some o → e ∈ o.after → Region.binds .any e = true → Reach ops e.on j → Reach ops i j

def maskE (acc : List Nat) : List Edge → Nat → Nat
  | [], s => s
  | e :: r, s => maskE acc r (if Region.binds .any e then s ||| 2 ^ e.on ||| acc.getD e.on 0 else s)

def befGo : List Oper → List Nat → List Nat
  | [], acc => acc
  | o :: r, acc => befGo r (acc ++ [maskE acc o.after.toList 0])

def bef (bs : List Nat) (i j : Nat) : Bool := (bs.getD i 0).testBit j

theorem maskE_bit {acc : List Nat} {j : Nat} : ∀ (es : List Edge) (s : Nat), (maskE acc es s).testBit j = true → s.testBit j = true ∨ ∃ e ∈ es, Region.binds .any e = true ∧ (e.on = j ∨ (acc.getD e.on 0).testBit j = true)
  | [], s, h => .inl h
  | e :: r, s, h => by
    rcases maskE_bit r _ h with h1 | ⟨e', h1, h2⟩
    · split at h1
      · rename_i hb
        rw [Nat.testBit_or, Nat.testBit_or, Nat.testBit_two_pow] at h1
        simp only [Bool.or_eq_true, decide_eq_true_eq] at h1
        rcases h1 with (h1 | h1) | h1
        · exact .inl h1
        · exact .inr ⟨e, by simp, hb, .inl h1⟩
        · exact .inr ⟨e, by simp, hb, .inr h1⟩
      · exact .inl h1
    · exact .inr ⟨e', by simp [h1], h2⟩

theorem befGo_reach {ops : Array Oper} : ∀ (l : List Oper) (acc : List Nat), (∀ i, i < l.length → ops[acc.length + i]? = l[i]?) → (∀ i j, (acc.getD i 0).testBit j = true → Reach ops i j) →
    ∀ i j, ((befGo l acc).getD i 0).testBit j = true → Reach ops i j
  | [], acc, _, h => h
  | o :: r, acc, ho, h => by
    refine befGo_reach r _ (fun i hi => ?_) ?_
    · have := ho (i + 1) (by simp; omega)
      simp only [List.length_append, List.length_singleton, List.getElem?_cons_succ] at this ⊢
      rw [← this]; congr 1; omega
    · intro i j hb
      rw [List.getD_eq_getElem?_getD] at hb
      rcases Nat.lt_or_ge i acc.length with hi | hi
      · rw [List.getElem?_append_left hi, ← List.getD_eq_getElem?_getD] at hb
        exact h i j hb
      · by_cases he : i = acc.length
        · subst he
          rw [List.getElem?_append_right (Nat.le_refl _)] at hb
          simp at hb
          have hop : ops[acc.length]? = some o := by have := ho 0 (by simp); simpa using this
          rcases maskE_bit _ _ hb with h1 | ⟨e, h1, h2, h3⟩
          · simp at h1
          · have hm : e ∈ o.after := by simpa using h1
            rcases h3 with h3 | h3
            · exact h3 ▸ .one hop hm h2
            · exact .step hop hm h2 (h _ _ h3)
        · rw [List.getElem?_append_right hi] at hb
          have : (i - acc.length) ≠ 0 := by omega
          obtain ⟨d, hd⟩ : ∃ d, i - acc.length = d + 1 := ⟨i - acc.length - 1, by omega⟩
          rw [hd] at hb
          simp at hb

theorem bef_reach {ops : Array Oper} {i j : Nat} (h : bef (befGo ops.toList []) i j = true) : Reach ops i j :=
  befGo_reach ops.toList [] (fun i hi => by simp) (fun i j h => by simp at h) i j h

/-- Of what has come up all that it waits for has. -/
def ClosedL (ops : Array Oper) (listed : Array Bool) : Prop :=
  ∀ j o, ops[j]? = some o → listed.getD j false = true → ∀ e ∈ o.after, Region.binds .any e = true → listed.getD e.on false = true

theorem reach_listed {ops : Array Oper} {listed : Array Bool} (hc : ClosedL ops listed) {i j : Nat} (h : Reach ops i j) : (∀ o, ops[i]? = some o → ∀ e ∈ o.after, Region.binds .any e = true → listed.getD e.on false = true) → listed.getD j false = true := by
  induction h with
  | one ho he hb => exact fun h => h _ ho _ he hb
  | step ho he hb _ ih => exact fun h => ih fun o' ho' e' he' hb' => hc _ o' ho' (h _ ho _ he hb) e' he' hb'

/-- What comes in one order. -/
def mT (tg : Nat) : Bool := tg == 1 || tg == 3
/-- The check of a region. -/
def drwOk (ops : Array Oper) (bs : List Nat) (els : List (Nat × IEl)) (n1 : Nat) : Bool :=
  (n1 ≤ els.length) &&
  ((List.range els.length).all fun i => ((ops[i]?).map fun o => o.after.toList.all fun e => !Region.binds .any e || e.on < i).getD false) &&
  ((List.range els.length).all fun i => match els[i]? with
    | none => true
    | some (tg, el) =>
      if n1 ≤ i then (List.range i).all fun j => bef bs i j
      else
        (if tg = 2 then (match el.op with | .alloc z => z.all V.one | _ => false) && el.grd.isNone && el.dst.isSome else (mT tg || qKind el.op)) &&
        (List.range n1).all fun j => i == j || match els[j]? with
        | none => true
        | some (tg', el') =>
          (match el'.dst with
            | none => true
            | some s => (el.dst != some s) && (!(rdsE el).contains s || (tg' != 2 && decide (j < i) && bef bs i j))) &&
          (!(mT tg && mT tg' && decide (j < i)) || bef bs i j) &&
          (!(tg == 3 && !mT tg' && tg' != 2 && !pKind el'.op) || bef bs i j))
end Go.Sh
end
section
namespace Go.Sh
open Go.RowKit
set_option linter.unusedVariables false
set_option linter.unusedSimpArgs false

variable {P : Program} {nt : Nat}

theorem lowEls_get {ops : Array Oper} : ∀ {l : List Oper} {els : List IEl}, lowEls P nt ops l = some els → els.length = l.length ∧ ∀ (i : Nat) (o : Oper), l[i]? = some o → ∃ el, els[i]? = some el ∧ lowEl P nt ops o = some el
  | [], els, h => by cases h; exact ⟨rfl, fun i o e => by simp at e⟩
  | o :: r, els, h => by
    simp only [lowEls] at h
    split at h
    · rename_i el l h1 h2
      cases h
      obtain ⟨g1, g2⟩ := lowEls_get h2
      refine ⟨by simp [g1], fun i o' e => ?_⟩
      cases i with
      | zero => simp at e; subst e; exact ⟨el, rfl, h1⟩
      | succ i => exact g2 i o' (by simpa using e)
    · cases h

theorem lowEls_getU {ops : Array Oper} {l : List Oper} {els : List IEl} (h : lowEls P nt ops l = some (els.map unfzE)) : els.length = l.length ∧ ∀ (i : Nat) (o : Oper), l[i]? = some o → ∃ el, els[i]? = some el ∧ lowEl P nt ops o = some (unfzE el) := by
  obtain ⟨h1, h2⟩ := lowEls_get h
  refine ⟨by simpa using h1, fun i o e => ?_⟩
  obtain ⟨el, h3, h4⟩ := h2 i o e
  rw [List.getElem?_map, Option.map_eq_some_iff] at h3
  obtain ⟨el', h5, rfl⟩ := h3
  exact ⟨el', h5, h4⟩

theorem lowEl_inv {ops : Array Oper} {o : Oper} {el : IEl} (h : lowEl P nt ops o = some el) :
    el.dst = o.dst ∧ dstOk nt o.dst = true ∧ lowO P o.op = some el.op ∧ ((o.guard = none ∧ el.grd = none) ∨ ∃ j t s, o.guard = some (j, t) ∧ slotOf ops j = some s ∧ el.grd = some (s, t)) := by
  simp only [lowEl] at h
  split at h
  · cases h
  · rename_i op hop
    split at h
    · rename_i hd
      split at h
      · rename_i hg; cases h; exact ⟨rfl, hd, hop, .inl ⟨hg, rfl⟩⟩
      · rename_i j t hg
        split at h
        · rename_i s hs; cases h; exact ⟨rfl, hd, hop, .inr ⟨j, t, s, hg, hs, rfl⟩⟩
        · cases h
    · cases h

theorem lowEl_invU {ops : Array Oper} {o : Oper} {el : IEl} (h : lowEl P nt ops o = some (unfzE el)) :
    el.dst = o.dst ∧ dstOk nt o.dst = true ∧ lowO P o.op = some (unfz el.op) ∧ ((o.guard = none ∧ el.grd = none) ∨ ∃ j t s, o.guard = some (j, t) ∧ slotOf ops j = some s ∧ el.grd = some (s, t)) := lowEl_inv h

theorem low_alloc {o : Op} {z : List V} (h : lowO P o = some (.alloc z)) : ∃ t, o = .alloc t ∧ zeroI P t = some z := by
  cases o <;> simp only [lowO] at h <;> first
    | (simp only [Option.map_eq_some_iff] at h; obtain ⟨z', h1, h2⟩ := h; cases h2; exact ⟨_, rfl, h1⟩)
    | (exfalso; revert h; (repeat' split) <;> simp)

/-- A variable that is made, and has no name yet. -/
def Pd (c0 c : Cx) (b : Nat) (z : List V) : Prop :=
  c0.w.heap.size ≤ b ∧ c.X b ∧ (∀ id sz, c.ρ id ≠ some (b, sz)) ∧ ∃ cells e, c.w.heap[b]? = some (.cells cells e (0, 0)) ∧ RL c z cells.toList

theorem RL.mono {c c' : Cx} {vs : List V} {us : List Value} (s : Sub c c') (h : RL c vs us) : RL c' vs us := ⟨h.1, fun j v u e1 e2 => (h.2 j v u e1 e2).mono s⟩

theorem Pd.stp {c0 c c' : Cx} {H : List Blk} {b : Nat} {z : List V} (h : Pd c0 c b z) (hH : RH c H) (s : Stp c c') : Pd c0 c' b z := by
  obtain ⟨h1, h2, h3, cells, e, h4, h5⟩ := h
  have hlt := lt_of_get h4
  refine ⟨h1, (s.X b hlt).2 h3 h2, fun id sz e => ?_, cells, e, (s.keep b hlt h3).trans h4, h5.mono (s.sub hH)⟩
  rcases s.own id b sz e with g | ⟨id0, sz0, g⟩
  · omega
  · exact h3 id0 sz0 g

theorem setB_id {w : World} {b : Nat} {o : Obj} (h : w.heap[b]? = some o) : setB w b o = w := by
  unfold setB
  have : w.heap.setIfInBounds b o = w.heap := by
    apply Array.ext_getElem?
    intro j
    rw [Array.getElem?_setIfInBounds]
    obtain ⟨hb, hv⟩ := Array.getElem?_eq_some_iff.1 h
    by_cases e : b = j
    · subst e; simp [hb, hv]
    · simp [e]
  rw [this]

/-- Names for the variables that were made. -/
theorem adopt_all {c0 : Cx} {tmps : Array Value} {tail : List IEl} {K : Env → List Blk → Prop} : ∀ (as : List (IEl × Nat)) (c : Cx) (E : Env) (H : List Blk), seqI P (as.map (·.1) ++ tail) E H K → RE c E tmps → RH c H → Stp c0 c →
    (∀ x ∈ as, ∃ z s, x.1 = ⟨some s, none, .alloc z⟩ ∧ tmps[s]? = some (.pointer (some ⟨x.2, 0, none⟩)) ∧ Pd c0 c x.2 z) → (as.map (·.2)).Nodup →
    ∃ c2 E2 H2, c2.w = c.w ∧ seqI P tail E2 H2 K ∧ RE c2 E2 tmps ∧ RH c2 H2 ∧ Stp c0 c2 ∧ (∀ s, (∀ x ∈ as, x.1.dst ≠ some s) → get E2 s = get E s) ∧ (∀ v u, R c v u → R c2 v u)
  | [], c, E, H, hs, hE, hH, hst, _, _ => ⟨c, E, H, rfl, hs, hE, hH, hst, fun _ _ => rfl, fun _ _ h => h⟩
  | x :: as, c, E, H, hs, hE, hH, hst, hx, hnd => by
    obtain ⟨z, s, hel, ht, hP⟩ := hx x (by simp)
    obtain ⟨h1, h2, h3, cells, e, h4, h5⟩ := hP
    have hs : seqI P (⟨some s, none, .alloc z⟩ :: (as.map (·.1) ++ tail)) E H K := by rw [← hel]; exact hs
    simp only [seqI, stepI] at hs
    obtain ⟨hz, hs⟩ := hs
    have hw : (adopt c x.2 cells.size (.cells cells e (0, 0))).w = c.w := setB_id h4
    have hsub : Sub c (adopt c x.2 cells.size (.cells cells e (0, 0))) := Sub.adopt h2
    have hlen : cells.size = z.length := by simpa using h5.1.symm
    have hH' : RH (adopt c x.2 cells.size (.cells cells e (0, 0))) (H ++ [.row z.length [z]]) := hH.adopt h2 h3 (by simp) ⟨cells, e, by rw [hw]; exact h4, rfl, by simp, by simp [hlen], by simpa using hz, .of_RL (h5.mono hsub)⟩
    have hst' : Stp c0 (adopt c x.2 cells.size (.cells cells e (0, 0))) := by
      refine ⟨?_, ?_, ?_, ?_, ?_, ?_, ?_, ?_, ?_, by rw [hw]; exact hst.drawn⟩
      · rw [hw]; exact hst.os
      · rw [hw]; exact hst.tape
      · rw [hw]; exact hst.output
      · rw [hw]; exact hst.size
      · rw [hw]; exact hst.keep
      · exact hst.X
      · have := hst.N; simp only [adopt]; omega
      · intro id hid
        have := hst.N
        simp only [adopt]
        rw [if_neg (by omega)]
        exact hst.ρ id hid
      · intro id b sz e'
        simp only [adopt] at e'
        split at e'
        · cases e'; exact .inl h1
        · exact hst.own id b sz e'
    obtain ⟨c2, E2, H2, g1, g2, g3, g4, g5, g6, g7⟩ := adopt_all as (adopt c x.2 cells.size (.cells cells e (0, 0))) _ _ hs (by
        intro t v hg
        by_cases hts : s = t
        · subst hts
          rw [putO, get_put_same] at hg
          cases hg
          refine ⟨_, ht, .rpt _ _ _ _ _ (by simp [adopt, hH.N]) rfl fun b sz hρ => ?_⟩
          simp [adopt, hH.N] at hρ
          simp [hρ.1]
        · rw [putO, get_put_other hts] at hg
          obtain ⟨u, k1, k2⟩ := hE t v hg
          exact ⟨u, k1, k2.mono hsub⟩) hH' hst' (by
        intro y hy
        obtain ⟨z', s', k1, k2, k3⟩ := hx y (by simp [hy])
        refine ⟨z', s', k1, k2, ?_⟩
        obtain ⟨p1, p2, p3, cells', e', p4, p5⟩ := k3
        refine ⟨p1, p2, fun id sz hρ => ?_, cells', e', by rw [hw]; exact p4, p5.mono hsub⟩
        simp only [adopt] at hρ
        split at hρ
        · have hb : x.2 = y.2 := by simp at hρ; exact hρ.1
          exact (List.nodup_cons.1 hnd).1 (by show x.2 ∈ _; rw [hb]; exact List.mem_map_of_mem (f := fun x : IEl × Nat => x.2) hy)
        · exact p3 id sz hρ) (List.nodup_cons.1 hnd).2
    refine ⟨c2, E2, H2, g1.trans hw, g2, g3, g4, g5, fun s' hno => ?_, fun v' u' h => g7 v' u' (h.mono hsub)⟩
    rw [g6 s' (fun y hy => hno y (by simp [hy]))]
    have := hno x (by simp)
    rw [hel] at this
    exact get_put_other (fun e => this (by rw [e]))

/-- All below i have come up, and no other. -/
def UpTo (ops : Array Oper) (listed : Array Bool) (i : Nat) : Prop := listed.size = ops.size ∧ ∀ j, j < ops.size → (listed.getD j false = true ↔ j < i)

theorem getD_bool {listed : Array Bool} {i : Nat} (h : i < listed.size) : listed.getD i true = listed.getD i false := by simp [h]

theorem UpTo.set {ops : Array Oper} {listed : Array Bool} {i : Nat} (h : UpTo ops listed i) (hi : i < ops.size) : UpTo ops (listed.setIfInBounds i true) (i + 1) := by
  refine ⟨by simpa using h.1, fun j hj => ?_⟩
  by_cases e : i = j
  · subst e; simp [h.1, hi]
  · have h1 : (listed.setIfInBounds i true).getD j false = listed.getD j false := by simp [Array.getElem?_setIfInBounds_ne e]
    rw [h1, h.2 j hj]; omega

end Go.Sh
end
section
namespace Go.Sh
open Go.RowKit
set_option linter.unusedVariables false
set_option linter.unusedSimpArgs false

variable {P : Program} {nt : Nat}

theorem keep_get {E : Env} {s : Nat} : ∀ {l : List Nat}, s ∈ l → get (Sh.keep E l) s = get E s
  | [], h => by cases h
  | x :: r, h => by
    by_cases hx : x = s
    · subst hx
      simp only [Sh.keep]
      cases hg : get E x with
      | none =>
        -- x may come again
        have : ∀ l : List Nat, get (Sh.keep E l) x = none := by
          intro l
          induction l with
          | nil => rfl
          | cons y r ih =>
            simp only [Sh.keep]
            split
            · rename_i v hv
              simp only [get]
              split
              · rename_i e; subst e; rw [hg] at hv; cases hv
              · exact ih
            · exact ih
        exact this r
      | some v => simp [get]
    · have hr : s ∈ r := by rcases List.mem_cons.1 h with h | h; exact absurd h.symm hx; exact h
      simp only [Sh.keep]
      split
      · simp only [get]; rw [if_neg hx]; exact keep_get hr
      · exact keep_get hr

theorem get_keep_mem {E : Env} {s : Nat} {v : V} : ∀ {l : List Nat}, get (Sh.keep E l) s = some v → s ∈ l ∧ get E s = some v
  | [], h => by simp [Sh.keep, get] at h
  | x :: r, h => by
    simp only [Sh.keep] at h
    split at h
    · rename_i v' hv
      simp only [get] at h
      split at h
      · rename_i e; subst e; cases h; exact ⟨by simp, hv⟩
      · obtain ⟨h1, h2⟩ := get_keep_mem h; exact ⟨by simp [h1], h2⟩
    · obtain ⟨h1, h2⟩ := get_keep_mem h; exact ⟨by simp [h1], h2⟩

/-- What the check says of the i-th operation of the first phase. -/
structure Chk (ops : Array Oper) (tels : List (Nat × IEl)) (n1 i tg : Nat) (el : IEl) : Prop where
  kind2 : tg = 2 → ∃ z s, el = ⟨some s, none, .alloc z⟩ ∧ z.all V.one = true
  kindq : tg ≠ 2 → tg ≠ 1 → tg ≠ 3 → qKind el.op = true
  dst : ∀ j tg' el' s, j < n1 → j ≠ i → tels[j]? = some (tg', el') → el'.dst = some s → el.dst ≠ some s
  rd : ∀ j tg' el' s, j < n1 → j ≠ i → tels[j]? = some (tg', el') → el'.dst = some s → s ∈ rdsE el → tg' ≠ 2 ∧ j < i ∧ Reach ops i j
  ord : mT tg = true → ∀ j tg' el', j < i → j < n1 → tels[j]? = some (tg', el') → mT tg' = true → Reach ops i j
  rdr : tg = 3 → ∀ j tg' el', j < n1 → j ≠ i → tels[j]? = some (tg', el') → mT tg' = false → tg' ≠ 2 → pKind el'.op = false → Reach ops i j

theorem drwOk_inv {ops : Array Oper} {tels : List (Nat × IEl)} {n1 : Nat} (h : drwOk ops (befGo ops.toList []) tels n1 = true) (hlen : tels.length ≤ ops.size) :
    n1 ≤ tels.length ∧ (∀ i o, i < tels.length → ops[i]? = some o → ∀ e ∈ o.after, Region.binds .any e = true → e.on < i) ∧ (∀ i, n1 ≤ i → i < tels.length → ∀ j, j < i → Reach ops i j) ∧
    ∀ i tg el, i < n1 → tels[i]? = some (tg, el) → Chk ops tels n1 i tg el := by
  simp only [drwOk, Bool.and_eq_true, decide_eq_true_eq, List.all_eq_true, List.mem_range] at h
  obtain ⟨⟨h1, h2⟩, h3⟩ := h
  refine ⟨by omega, ?_, ?_, ?_⟩
  · intro i o hlt ho e he hb
    have := h2 i (by omega)
    rw [ho] at this
    simp only [Option.map_some, Option.getD_some, List.all_eq_true] at this
    have := this e (by simpa using he)
    rw [hb] at this
    simpa using this
  · intro i hn hi j hj
    have hlt : i < tels.length := by omega
    have := h3 i hlt
    rw [List.getElem?_eq_getElem hlt] at this
    simp only [hn, if_true, List.all_eq_true, List.mem_range] at this
    exact bef_reach (this j hj)
  · intro i tg el hi hel
    have hlt : i < tels.length := by omega
    have := h3 i hlt
    rw [hel] at this
    simp only at this
    rw [if_neg (by omega)] at this
    simp only [Bool.and_eq_true, List.all_eq_true, List.mem_range] at this
    obtain ⟨k1, k2⟩ := this
    have pair : ∀ j tg' el', j < n1 → j ≠ i → tels[j]? = some (tg', el') → (∀ s, el'.dst = some s → el.dst ≠ some s ∧ (s ∈ rdsE el → tg' ≠ 2 ∧ j < i ∧ Reach ops i j)) ∧ (mT tg = true → mT tg' = true → j < i → Reach ops i j) ∧ (tg = 3 → mT tg' = false → tg' ≠ 2 → pKind el'.op = false → Reach ops i j) := by
      intro j tg' el' hj hne hel'
      have := k2 j hj
      rw [hel'] at this
      simp only [Bool.or_eq_true, beq_iff_eq, Bool.and_eq_true] at this
      rcases this with h | ⟨⟨g1, g2⟩, g3⟩
      · exact absurd h.symm hne
      · refine ⟨fun s hs => ?_, fun ht ht' hji => ?_, fun ht h1 h2 h3 => ?_⟩
        · rw [hs] at g1
          simp only [Bool.and_eq_true, bne_iff_ne, ne_eq, Bool.or_eq_true, Bool.not_eq_true'] at g1
          refine ⟨g1.1, fun hm => ?_⟩
          rcases g1.2 with h | h
          · have : (rdsE el).contains s = true := by simpa using hm
            rw [h] at this; cases this
          · exact ⟨h.1.1, by simpa using h.1.2, bef_reach h.2⟩
        · rcases g2 with h | h
          · simp [ht, ht', hji] at h
          · exact bef_reach h
        · rcases g3 with h | h
          · simp [ht, h1, h2, h3] at h
          · exact bef_reach h
    refine ⟨?_, ?_, fun j tg' el' s hj hne hel' hs => ((pair j tg' el' hj hne hel').1 s hs).1, fun j tg' el' s hj hne hel' hs => ((pair j tg' el' hj hne hel').1 s hs).2,
      fun ht j tg' el' hji hj hel' ht' => (pair j tg' el' hj (by omega) hel').2.1 ht ht' hji, fun ht j tg' el' hj hne hel' h1 h2 h3 => (pair j tg' el' hj hne hel').2.2 ht h1 h2 h3⟩
    · intro ht
      rw [if_pos ht] at k1
      simp only [Bool.and_eq_true] at k1
      obtain ⟨⟨q1, q2⟩, q3⟩ := k1
      obtain ⟨dst, grd, op⟩ := el
      cases op <;> simp at q1
      cases grd <;> simp at q2
      cases dst <;> simp at q3
      exact ⟨_, _, rfl, by simpa using q1⟩
    · intro h1 h2' h3'
      rw [if_neg h1] at k1
      simp only [Bool.or_eq_true, mT, beq_iff_eq] at k1
      exact k1.resolve_left (fun h => h.elim h2' h3')

/-- The state when some operations of the first phase have come up. -/
structure Inv1 (ops : Array Oper) (tels : List (Nat × IEl)) (n1 m nt : Nat) (ts : List TS) (E0 : Env) (H0 : List Blk) (c0 : Cx) (df : List Deferred) (listed : Array Bool) (a : Act) (c : Cx) : Prop where
  len : listed.size = ops.size
  closed : ClosedL ops listed
  low : ∀ j, n1 ≤ j → j < m → listed.getD j false = false
  heap : ∃ k, k ≤ n1 ∧ (∀ j tg el, j < n1 → tels[j]? = some (tg, el) → mT tg = true → (listed.getD j false = true ↔ j < k)) ∧ RH c (heapAt (tels.take n1) ts H0 k)
  stp : Stp c0 c
  size : a.tmps.size = nt
  defers : a.defers = df
  old : ∀ s v, get E0 s = some v → (∀ j tg el, j < n1 → tels[j]? = some (tg, el) → listed.getD j false = true → el.dst ≠ some s) → ∃ u, a.tmps[s]? = some u ∧ R c v u
  new : ∀ j tg el t s, j < n1 → tels[j]? = some (tg, el) → tg ≠ 2 → listed.getD j false = true → el.dst = some s → ts[j]? = some t → ∃ u, a.tmps[s]? = some u ∧ R c t.v u
  pend : ∃ f : Nat → Nat, (∀ j s z, j < n1 → tels[j]? = some (2, ⟨some s, none, .alloc z⟩) → listed.getD j false = true → a.tmps[s]? = some (.pointer (some ⟨f j, 0, none⟩)) ∧ Pd c0 c (f j) z) ∧
    ∀ j j' s s' z z', j < n1 → j' < n1 → tels[j]? = some (2, ⟨some s, none, .alloc z⟩) → tels[j']? = some (2, ⟨some s', none, .alloc z'⟩) → listed.getD j false = true → listed.getD j' false = true → f j = f j' → j = j'

theorem set_get {listed : Array Bool} {i j : Nat} (hi : i < listed.size) : (listed.setIfInBounds i true).getD j false = true ↔ j = i ∨ listed.getD j false = true := by
  by_cases h : i = j
  · subst h; simp [hi]
  · have : (listed.setIfInBounds i true).getD j false = listed.getD j false := by simp [Array.getElem?_setIfInBounds_ne h]
    rw [this]
    constructor
    · exact .inr
    · rintro (h' | h')
      · exact absurd h'.symm h
      · exact h'

theorem heapAt_same {H0 : List Blk} {els : List (Nat × IEl)} {ts : List TS} {E : Env} {H : List Blk} {E' : Env} {H' : List Blk} (hpt : PT P H0 els ts E H E' H') {k : Nat} : ∀ (d : Nat), k + d ≤ els.length → (∀ j tg el, k ≤ j → j < k + d → els[j]? = some (tg, el) → mT tg = false) →
    heapAt els ts H (k + d) = heapAt els ts H k
  | 0, _, _ => rfl
  | d + 1, hle, hno => by
    have ih := heapAt_same hpt d (by omega) (fun j tg el h1 h2 => hno j tg el h1 (by omega))
    have hlt : k + d < els.length := by omega
    obtain ⟨t, g1, g2, g3⟩ := PT_at hpt (k + d) els[k + d].1 els[k + d].2 (by simp [hlt])
    rw [← Nat.add_assoc, g2, ← ih]
    rcases g3 with ⟨_, h⟩ | ⟨hn2, h⟩
    · exact h
    · have hn1 := hno (k + d) els[k + d].1 els[k + d].2 (by omega) (by omega) (by rw [List.getElem?_eq_getElem hlt])
      rcases h with ⟨_, _, h⟩ | ⟨_, _, _, h⟩
      · rcases h with ⟨h, _⟩ | ⟨h, _⟩ | ⟨_, _, _, _, h⟩
        · rw [h] at hn1; cases hn1
        · rw [h] at hn1; cases hn1
        · exact h
      · exact h

theorem heapAt_take {H0 : List Blk} {els : List (Nat × IEl)} {ts : List TS} {E : Env} {E' : Env} {H' : List Blk} (hpt : PT P H0 els ts E H0 E' H') : ∀ (k : Nat), k ≤ els.length → (∀ j el, j < k → els[j]? ≠ some (3, el)) → (heapAt els ts H0 k).take H0.length = H0
  | 0, _, _ => by simp [heapAt]
  | k + 1, hle, hno => by
    have ih := heapAt_take hpt k (by omega) fun j el hj => hno j el (by omega)
    have hlt : k < els.length := by omega
    obtain ⟨t, g1, g2, g3⟩ := PT_at hpt k els[k].1 els[k].2 (by simp [hlt])
    rw [g2]
    rcases g3 with ⟨_, h⟩ | ⟨hn2, h⟩
    · rw [h]; exact ih
    · rcases h with ⟨_, _, h⟩ | ⟨_, _, _, h⟩
      · rcases h with ⟨_, _, h⟩ | ⟨h, _⟩ | ⟨_, _, _, _, h⟩
        · exact h
        · exact absurd (by rw [List.getElem?_eq_getElem hlt, ← h]) (hno k els[k].2 (by omega))
        · rw [h]; exact ih
      · rw [h]; exact ih

theorem take_split {H0 H : List Blk} (h : H.take H0.length = H0) : H = H0 ++ H.drop H0.length := by
  conv => lhs; rw [← List.take_append_drop H0.length H, h]

/-- What is written next. -/
theorem Inv1.next {ops : Array Oper} {tels : List (Nat × IEl)} {n1 m : Nat} {ts : List TS} {E0 : Env} {H0 : List Blk} {c0 : Cx} {df : List Deferred} {listed : Array Bool} {a : Act} {c : Cx} (I : Inv1 ops tels n1 m nt ts E0 H0 c0 df listed a c)
    {E' : Env} {H' : List Blk} (hpt : PT P H0 (tels.take n1) ts E0 H0 E' H') (hlen : n1 ≤ tels.length)
    {i tg : Nat} {el : IEl} (hi : i < n1) (hin : i < ops.size) (hel : tels[i]? = some (tg, el)) (hck : Chk ops tels n1 i tg el) (hchk : ∀ i tg el, i < n1 → tels[i]? = some (tg, el) → Chk ops tels n1 i tg el) (hr : i ∈ Region.ready .any ops listed)
    {u : Value} {c' : Cx} (hs : Stp c c') {kold : Nat} {Hn : List Blk} (hH : RH c (heapAt (tels.take n1) ts H0 kold)) (hRH : RH c' Hn) (hHn : Hn = if mT tg = true then heapAt (tels.take n1) ts H0 (i + 1) else heapAt (tels.take n1) ts H0 kold) (hk : kold ≤ n1)
    (hkl : ∀ j tg el, j < n1 → tels[j]? = some (tg, el) → mT tg = true → (listed.getD j false = true ↔ j < kold))
    (hd : dstOk nt el.dst = true)
    (hv : tg ≠ 2 → ∀ t, ts[i]? = some t → R c' t.v u)
    (hp : tg = 2 → ∀ s z, el = ⟨some s, none, .alloc z⟩ → ∃ b, u = .pointer (some ⟨b, 0, none⟩) ∧ c.w.heap.size ≤ b ∧ Pd c0 c' b z) :
    Inv1 ops tels n1 m nt ts E0 H0 c0 df (listed.setIfInBounds i true) (a.put el.dst u) c' := by
  have hsub := hs.sub hH
  have hset : ∀ j, (listed.setIfInBounds i true).getD j false = true ↔ j = i ∨ listed.getD j false = true := fun j => set_get (by rw [I.len]; exact hin)
  obtain ⟨h0, o, ho, hafter⟩ := mem_ready.1 hr
  have hun : ¬ listed.getD i false = true := by
    rw [getD_bool (by rw [I.len]; exact hin)] at h0
    rw [h0]; simp
  have hput : ∀ s, el.dst ≠ some s → (a.put el.dst u).tmps[s]? = a.tmps[s]? := by
    intro s hne
    cases hds : el.dst with
    | none => rfl
    | some d => simp only [Act.put]; rw [Array.getElem?_setIfInBounds_ne (fun e => hne (by rw [hds, e]))]
  have hputs : ∀ s, el.dst = some s → (a.put el.dst u).tmps[s]? = some u := by
    intro s he
    rw [he] at hd
    have hlt : s < a.tmps.size := by rw [I.size]; simpa [dstOk] using hd
    rw [he]
    simp [Act.put, hlt]
  refine ⟨by simpa using I.len, ?_, ?_, ?_, I.stp.trans hs, by rw [put_size]; exact I.size, by rw [put_defers]; exact I.defers, ?_, ?_, ?_⟩
  · intro j oj hoj hj e he hb
    rw [hset] at hj ⊢
    rcases hj with rfl | hj
    · rw [ho] at hoj; cases hoj
      exact .inr (hafter e he hb)
    · exact .inr (I.closed j oj hoj hj e he hb)
  · intro j hj hjm
    have h1 := I.low j hj hjm
    cases hv : (listed.setIfInBounds i true).getD j false with
    | false => rfl
    | true =>
      rcases (hset j).1 hv with h | h
      · omega
      · rw [h1] at h; cases h
  · by_cases ht : mT tg = true
    · rw [if_pos ht] at hHn
      subst hHn
      refine ⟨i + 1, by omega, fun j tg' el' hj hel' ht' => ?_, hRH⟩
      rw [hset]
      constructor
      · rintro (rfl | h)
        · omega
        · -- j has come up, so i does not wait behind it
          rcases Nat.lt_or_ge j (i + 1) with h' | h'
          · exact h'
          · exfalso
            have hc' := hchk j tg' el' hj hel'
            have hr' := hc'.ord ht' i tg el (by omega) hi hel ht
            exact hun (reach_listed I.closed hr' (fun o' ho' e he hb => I.closed j o' ho' h e he hb))
      · intro h
        by_cases hji : j = i
        · exact .inl hji
        · right
          exact reach_listed I.closed (hck.ord ht j tg' el' (by omega) hj hel' ht') (fun o' ho' e he hb => by rw [ho] at ho'; cases ho'; exact hafter e he hb)
    · rw [if_neg ht] at hHn
      subst hHn
      refine ⟨kold, hk, fun j tg' el' hj hel' ht' => ?_, hRH⟩
      rw [hset, ← hkl j tg' el' hj hel' ht']
      constructor
      · rintro (rfl | h)
        · rw [hel] at hel'; cases hel'; exact absurd ht' ht
        · exact h
      · exact .inr
  · intro s v hg hno
    have hne : el.dst ≠ some s := hno i tg el hi hel ((hset i).2 (.inl rfl))
    obtain ⟨u', h1, h2⟩ := I.old s v hg (fun j tg' el' hj hel' hl => hno j tg' el' hj hel' ((hset j).2 (.inr hl)))
    exact ⟨u', by rw [hput s hne]; exact h1, h2.mono hsub⟩
  · intro j tg' el' t s hj hel' ht' hl hds hts
    rcases (hset j).1 hl with rfl | hl'
    · rw [hel] at hel'; cases hel'
      exact ⟨u, hputs s hds, hv ht' t hts⟩
    · have hne : j ≠ i := fun e => hun (e ▸ hl')
      obtain ⟨u', h1, h2⟩ := I.new j tg' el' t s hj hel' ht' hl' hds hts
      exact ⟨u', by rw [hput s (hck.dst j tg' el' s hj hne hel' hds)]; exact h1, h2.mono hsub⟩
  · obtain ⟨f, hf1, hf2⟩ := I.pend
    by_cases ht : tg = 2
    · obtain ⟨z0, s0, hel0, _⟩ := hck.kind2 ht
      obtain ⟨b, hub, hbl, hPb⟩ := hp ht s0 z0 hel0
      have hold : ∀ j s z, j < n1 → j ≠ i → tels[j]? = some (2, ⟨some s, none, .alloc z⟩) → listed.getD j false = true → f j ≠ b := by
        intro j s z hj hne hej hl e
        obtain ⟨_, _, _, _, cells, ee, hc1, _⟩ := hf1 j s z hj hej hl
        have := lt_of_get hc1
        omega
      refine ⟨fun j => if j = i then b else f j, ?_, ?_⟩
      · intro j s z hj hej hl
        by_cases hji : j = i
        · subst hji
          rw [hel] at hej
          simp only [Option.some.injEq, Prod.mk.injEq] at hej
          obtain ⟨rfl, rfl⟩ := hej
          obtain ⟨rfl, rfl⟩ : s0 = s ∧ z0 = z := by simpa [eq_comm] using hel0
          simp only [if_true]
          exact ⟨by rw [hputs _ rfl, hub], hPb⟩
        · simp only [hji, if_false]
          rcases (hset j).1 hl with h | hl'
          · exact absurd h hji
          · obtain ⟨g1, g2⟩ := hf1 j s z hj hej hl'
            exact ⟨by rw [hput s (hck.dst j 2 _ s hj hji hej rfl)]; exact g1, g2.stp hH hs⟩
      · intro j j' s s' z z' hj hj' hej hej' hl hl' he
        dsimp only at he
        by_cases hji : j = i <;> by_cases hji' : j' = i
        · omega
        · rw [if_pos hji, if_neg hji'] at he
          rcases (hset j').1 hl' with h | hl''
          · exact absurd h hji'
          · exact absurd he.symm (hold j' s' z' hj' hji' hej' hl'')
        · rw [if_neg hji, if_pos hji'] at he
          rcases (hset j).1 hl with h | hl''
          · exact absurd h hji
          · exact absurd he (hold j s z hj hji hej hl'')
        · rw [if_neg hji, if_neg hji'] at he
          rcases (hset j).1 hl with h | g1
          · exact absurd h hji
          · rcases (hset j').1 hl' with h | g2
            · exact absurd h hji'
            · exact hf2 j j' s s' z z' hj hj' hej hej' g1 g2 he
    · have hji : ∀ j s z, tels[j]? = some (2, ⟨some s, none, .alloc z⟩) → j ≠ i := by
        intro j s z hej e
        subst e
        rw [hel] at hej; cases hej; exact ht rfl
      refine ⟨f, fun j s z hj hej hl => ?_, fun j j' s s' z z' hj hj' hej hej' hl hl' he => ?_⟩
      · rcases (hset j).1 hl with h | hl'
        · exact absurd h (hji j s z hej)
        · obtain ⟨g1, g2⟩ := hf1 j s z hj hej hl'
          exact ⟨by rw [hput s (hck.dst j 2 _ s hj (hji j s z hej) hej rfl)]; exact g1, g2.stp hH hs⟩
      · rcases (hset j).1 hl with h | g1
        · exact absurd h (hji j s z hej)
        · rcases (hset j').1 hl' with h | g2
          · exact absurd h (hji j' s' z' hej')
          · exact hf2 j j' s s' z z' hj hj' hej hej' g1 g2 he
end Go.Sh
end
section
namespace Go.Sh
open Go.RowKit
set_option linter.unusedVariables false
set_option linter.unusedSimpArgs false

variable {P : Program} {nt : Nat} {fl : Bool}

def unl (n : Nat) (listed : Array Bool) : Nat := ((List.range n).filter fun j => !listed.getD j false).length

theorem filter_one {p p' : Nat → Bool} {i : Nat} (h1 : p i = true) (h2 : p' i = false) (h : ∀ j, j ≠ i → p' j = p j) : ∀ l : List Nat, l.Nodup → i ∈ l → (l.filter p).length = (l.filter p').length + 1
  | [], _, hi => by cases hi
  | x :: r, hnd, hi => by
    have hr := (List.nodup_cons.1 hnd)
    by_cases hx : x = i
    · subst hx
      have hsame : r.filter p = r.filter p' := by
        apply List.filter_congr
        intro y hy
        exact (h y (fun e => hr.1 (e ▸ hy))).symm
      simp [List.filter_cons, h1, h2, hsame]
    · have hir : i ∈ r := by rcases List.mem_cons.1 hi with h | h; exact absurd h.symm hx; exact h
      have ih := filter_one h1 h2 h r hr.2 hir
      have hxp := h x hx
      simp only [List.filter_cons, hxp]
      split <;> simp [ih]

theorem unl_set {n : Nat} {listed : Array Bool} {i : Nat} (hi : i < n) (hs : listed.size = n) (hu : ¬ listed.getD i false = true) : unl n listed = unl n (listed.setIfInBounds i true) + 1 := by
  refine filter_one (i := i) (by simpa using hu) ?_ ?_ _ List.nodup_range (List.mem_range.2 hi)
  · have := (set_get (listed := listed) (i := i) (j := i) (by omega)).2 (.inl rfl)
    simp [this]
  · intro j hj
    have : (listed.setIfInBounds i true).getD j false = listed.getD j false := by simp [Array.getElem?_setIfInBounds_ne (Ne.symm hj)]
    simp [this]

theorem unl_zero {n : Nat} {listed : Array Bool} (h : unl n listed = 0) : ∀ j, j < n → listed.getD j false = true := by
  intro j hj
  cases hv : listed.getD j false with
  | true => rfl
  | false =>
    exfalso
    have : j ∈ (List.range n).filter (fun j => !listed.getD j false) := List.mem_filter.2 ⟨List.mem_range.2 hj, by simp [hv]⟩
    have hpos := List.length_pos_of_mem this
    unfold unl at h
    omega

/-- A last move that may come at any time behind its source. -/
structure FltOk (P : Program) (nt : Nat) (ops : Array Oper) (tels : List (Nat × IEl)) (n1 d : Nat) (y : A) : Prop where
  size : ops.size = tels.length + 1
  op : ∃ o, ops[tels.length]? = some o ∧ lowEl P nt ops o = some ⟨some d, none, .mov y⟩ ∧ ∀ e ∈ o.after, Region.binds .any e = true → e.on < tels.length
  other : ∀ (j : Nat) (tg : Nat) (el : IEl), tels[j]? = some (tg, el) → el.dst ≠ some d ∧ d ∉ rdsE el
  src : ∀ q, y = .t q → q ≠ d ∧ ∀ (j : Nat) (tg : Nat) (el : IEl), tels[j]? = some (tg, el) → el.dst = some q → j < n1 ∧ tg ≠ 2 ∧ Reach ops tels.length j

theorem get_putO_ne {E : Env} {dst : Option Nat} {v : V} {d : Nat} (h : dst ≠ some d) : get (putO E dst v) d = get E d := by
  cases dst with
  | none => rfl
  | some s => exact get_put_other (fun e => h (by rw [e]))

theorem act_put_ne {a : Act} {dst : Option Nat} {u : Value} {s : Nat} (h : dst ≠ some s) : (a.put dst u).tmps[s]? = a.tmps[s]? := by
  cases dst with
  | none => rfl
  | some d => simp only [Act.put]; rw [Array.getElem?_setIfInBounds_ne (fun e => h (by rw [e]))]

set_option maxHeartbeats 2000000 in
theorem tail_ok {ops : Array Oper} {tels : List (Nat × IEl)} {n1 : Nat} {flt : Option (Nat × A)} (hat : ∀ (i tg : Nat) (el : IEl), tels[i]? = some (tg, el) → ∃ o, ops[i]? = some o ∧ lowEl P nt ops o = some (unfzE el))
    (hsz0 : flt = none → ops.size = tels.length) (hflt : ∀ d y, flt = some (d, y) → FltOk P nt ops tels n1 d y)
    (hfwd : ∀ i o, i < tels.length → ops[i]? = some o → ∀ e ∈ o.after, Region.binds .any e = true → e.on < i) (hall : ∀ i, n1 ≤ i → i < tels.length → ∀ j, j < i → Reach ops i j)
    {v : V} {Ey : Env} (hEy : ∀ d y, flt = some (d, y) → ev Ey y = v ∧ ∀ s w, get Ey s = some w → y = .t s)
    {Q : Exit → Act → World → Prop} {rd : Option Nat} {n : Nat} {c0 : Cx} {df : List Deferred} {K : Env → List Blk → Prop}
    (hK : ∀ E' H' a' c', K E' H' → a'.tmps.size = nt → a'.defers = df → RE c' E' a'.tmps → (∀ d y, flt = some (d, y) → ∃ u, a'.tmps[d]? = some u ∧ R c' v u) → RH c' H' → Stp c0 c' → Q .normal a' c'.w) : ∀ (fuel i : Nat) (listed : Array Bool) (a : Act) (c : Cx) (E : Env) (H : List Blk),
    unl ops.size listed = fuel → n1 ≤ i → i ≤ tels.length → listed.size = ops.size → (∀ j, j < tels.length → (listed.getD j false = true ↔ j < i)) → a.tmps.size = nt → a.defers = df → RE c E a.tmps → (∀ d y, flt = some (d, y) → get E d = none) →
    (∀ d y, flt = some (d, y) → (listed.getD tels.length false = true → ∃ u, a.tmps[d]? = some u ∧ R c v u) ∧ (listed.getD tels.length false = false → RE c Ey a.tmps)) →
    RH c H → Stp c0 c → seqI P ((tels.drop i).map (·.2)) E H K → wpAnyIn (fnc rd) n P .any ops Q fuel listed a c.w := by
  have hm1 : tels.length ≤ ops.size ∧ ops.size ≤ tels.length + 1 := by
    cases hf : flt with
    | none => have := hsz0 hf; omega
    | some p => have := (hflt p.1 p.2 hf).size; omega
  have hsome : ∀ {j}, tels.length ≤ j → j < ops.size → ∃ d y, flt = some (d, y) ∧ j = tels.length := by
    intro j h1 h2
    cases hf : flt with
    | none => have := hsz0 hf; omega
    | some p => exact ⟨p.1, p.2, rfl, by have := (hflt p.1 p.2 hf).size; omega⟩
  intro fuel
  induction fuel with
  | zero =>
    intro i listed a c E H hu hn hi hls hup hsz hdf hE hEd hF hH hst hs
    have hz := unl_zero hu
    have him : i = tels.length := by
      rcases Nat.lt_or_ge i tels.length with h | h
      · have := (hup i h).1 (hz i (by omega)); omega
      · omega
    rw [List.drop_eq_nil_of_le (by omega)] at hs
    refine ⟨?_, hK E H a c hs hsz hdf hE (fun d y hf => (hF d y hf).1 (hz _ (by have := (hflt d y hf).size; omega))) hH hst⟩
    apply List.eq_nil_iff_forall_not_mem.2
    intro j hj
    obtain ⟨h0, o, ho, _⟩ := mem_ready.1 hj
    have hlt := lt_of_get ho
    rw [getD_bool (by rw [hls]; exact hlt), hz j hlt] at h0
    cases h0
  | succ fuel ih =>
    intro i listed a c E H hu hn hi hls hup hsz hdf hE hEd hF hH hst hs
    have hunset : ∀ {j}, j < ops.size → ¬ listed.getD j false = true → unl ops.size (listed.setIfInBounds j true) = fuel := by
      intro j hj h
      have := unl_set hj hls h
      omega
    have hcl : ∀ {j o}, j < tels.length → ops[j]? = some o → ∀ e ∈ o.after, Region.binds .any e = true → e.on < j := fun {j o} h1 h2 => hfwd j o h1 h2
    -- what may come
    have hready : ∀ j, j ∈ Region.ready .any ops listed → ¬ listed.getD j false = true ∧ ((j = i ∧ i < tels.length) ∨ (j = tels.length ∧ ∃ d y, flt = some (d, y))) := by
      intro j hj
      obtain ⟨h0, o, ho, hal⟩ := mem_ready.1 hj
      have hjl := lt_of_get ho
      rw [getD_bool (by rw [hls]; exact hjl)] at h0
      have hnl : ¬ listed.getD j false = true := by rw [h0]; simp
      refine ⟨hnl, ?_⟩
      rcases Nat.lt_or_ge j tels.length with hjm | hjm
      · left
        have h1 : ¬ j < i := fun h => hnl ((hup j hjm).2 h)
        by_cases hji : j = i
        · exact ⟨hji, by omega⟩
        · exfalso
          have hr := hall j (by omega) hjm i (by omega)
          -- i must have come up
          have hcl' : ∀ p, p < tels.length → listed.getD p false = true → ∀ o, ops[p]? = some o → ∀ e ∈ o.after, Region.binds .any e = true → listed.getD e.on false = true := by
            intro p hp hpl o hop e he hb
            have h2 := (hup p hp).1 hpl
            have h3 := hfwd p o hp hop e he hb
            exact (hup e.on (by omega)).2 (by omega)
          have key : ∀ {x y : Nat}, Reach ops x y → x < tels.length → (∀ o', ops[x]? = some o' → ∀ e ∈ o'.after, Region.binds .any e = true → listed.getD e.on false = true) → listed.getD y false = true := by
            intro x y hxy
            induction hxy with
            | one ho he hb => exact fun _ h => h _ ho _ he hb
            | step ho he hb _ ih =>
              intro hx h
              have h3 := hfwd _ _ hx ho _ he hb
              exact ih (by omega) (fun o' ho' e' he' hb' => hcl' _ (by omega) (h _ ho _ he hb) o' ho' e' he' hb')
          have := key hr hjm (fun o' ho' e he hb => by rw [ho] at ho'; cases ho'; exact hal e he hb)
          have := (hup i (by omega)).1 this
          omega
      · obtain ⟨d, y, hf, rfl⟩ := hsome hjm hjl
        exact .inr ⟨rfl, d, y, hf⟩
    refine ⟨fun h => ?_, fun j hj => ?_⟩
    · -- something may come
      exfalso
      have : ∃ j, j ∈ Region.ready .any ops listed := by
        rcases Nat.lt_or_ge i tels.length with him | him
        · refine ⟨i, mem_ready.2 ⟨?_, ops[i]'(by omega), Array.getElem?_eq_getElem _, fun e he hb => ?_⟩⟩
          · rw [getD_bool (by rw [hls]; omega)]
            cases hv : listed.getD i false with
            | false => rfl
            | true => have := (hup i him).1 hv; omega
          · have h3 := hfwd i _ him (Array.getElem?_eq_getElem (by omega)) e he hb
            exact (hup e.on (by omega)).2 h3
        · have hex : ∃ j, j < ops.size ∧ ¬ listed.getD j false = true := by
            apply Classical.byContradiction
            intro hno
            have hall' : ∀ j, j < ops.size → listed.getD j false = true := fun j hj => Classical.byContradiction fun h' => hno ⟨j, hj, h'⟩
            have : unl ops.size listed = 0 := by
              unfold unl
              rw [List.filter_eq_nil_iff.2 (fun j hj => by rw [hall' j (List.mem_range.1 hj)]; simp)]
              rfl
            omega
          obtain ⟨j, hj, hjn⟩ := hex
          have hjm : tels.length ≤ j := by
            rcases Nat.lt_or_ge j tels.length with h | h
            · exact absurd ((hup j h).2 (by omega)) hjn
            · exact h
          obtain ⟨d, y, hf, rfl⟩ := hsome hjm hj
          obtain ⟨o, ho, _, hfw⟩ := (hflt d y hf).op
          refine ⟨_, mem_ready.2 ⟨?_, o, ho, fun e he hb => ?_⟩⟩
          · rw [getD_bool (by rw [hls]; omega)]
            simpa using hjn
          · exact (hup e.on (hfw e he hb)).2 (by have := hfw e he hb; omega)
      obtain ⟨j, hj⟩ := this
      rw [h] at hj
      cases hj
    · obtain ⟨hnl, hc⟩ := hready j hj
      have hjl : j < ops.size := lt_of_get (mem_ready.1 hj).2.choose_spec.1
      rcases hc with ⟨rfl, hjt⟩ | ⟨rfl, d, y, hf⟩
      · -- the next of the text
        rw [List.drop_eq_getElem_cons hjt] at hs
        obtain ⟨o, ho, hle⟩ := hat j tels[j].1 tels[j].2 (by simp [hjt])
        generalize hteq : tels[j].2 = el at hle hs
        rw [List.map_cons, hteq] at hs
        have hel : tels[j]? = some (tels[j].1, el) := by rw [← hteq]; simp [hjt]
        obtain ⟨d1, d2, d3, d4⟩ := lowEl_invU hle
        obtain ⟨dst, grd, op⟩ := el
        simp only at d1 d3 d4
        subst d1
        have hd : ∀ x, o.dst = some x → x < a.tmps.size := by
          intro x hx
          rw [hx] at d2
          simpa [hsz, dstOk] using d2
        have hset : ∀ p, (listed.setIfInBounds j true).getD p false = true ↔ p = j ∨ listed.getD p false = true := fun p => set_get (by omega)
        have hsetm : (listed.setIfInBounds j true).getD tels.length false = listed.getD tels.length false := by
          have h1 := hset tels.length
          cases hv : listed.getD tels.length false with
          | true => exact h1.2 (.inr hv)
          | false =>
            cases hv2 : (listed.setIfInBounds j true).getD tels.length false with
            | false => rfl
            | true =>
              rcases h1.1 hv2 with h | h
              · omega
              · rw [hv] at h; cases h
        have hgo : ∀ (w : V) (H' : List Blk) (c' : Cx) (u : Value), seqI P ((tels.drop (j + 1)).map (·.2)) (putO E o.dst w) H' K → RH c' H' → R c' w u → Stp c c' →
            wpAnyIn (fnc rd) n P .any ops Q fuel (listed.setIfInBounds j true) (a.put o.dst u) c'.w := fun w H' c' u hK' hH' hR hst' => by
          refine ih (j + 1) _ (a.put o.dst u) c' _ H' (hunset hjl hnl) (by omega) (by omega) (by simpa using hls) (fun p hp => ?_) (by rw [put_size]; exact hsz) (by rw [put_defers]; exact hdf) ((hE.mono (hst'.sub hH)).putO hd hR) ?_ ?_ hH' (hst.trans hst') hK'
          · rw [hset, hup p hp]; omega
          · intro d y hf
            rw [get_putO_ne ((hflt d y hf).other j _ _ hel).1]
            exact hEd d y hf
          · intro d y hf
            rw [hsetm]
            obtain ⟨f1, f2⟩ := hF d y hf
            refine ⟨fun hl => ?_, fun hl => ?_⟩
            · obtain ⟨u', k1, k2⟩ := f1 hl
              exact ⟨u', by rw [act_put_ne ((hflt d y hf).other j _ _ hel).1]; exact k1, k2.mono (hst'.sub hH)⟩
            · intro s w' hg
              obtain ⟨u', k1, k2⟩ := f2 hl s w' hg
              have hys := (hEy d y hf).2 s w' hg
              refine ⟨u', ?_, k2.mono (hst'.sub hH)⟩
              rw [act_put_ne (fun e => ?_)]
              · exact k1
              · have := (((hflt d y hf).src s hys).2 j _ _ hel e).1
                omega
        unfold wpOpIn
        simp only [ho]
        rcases d4 with ⟨hg, rfl⟩ | ⟨q, t, s, hg, hsl, rfl⟩
        · rw [if_pos (by simp [Region.wanted, hg])]
          exact op_okU d3 rd n a c E H _ _ Q hE hH hs hgo
        · simp only [seqI] at hs
          split at hs
          · rename_i x hx
            obtain ⟨u, hu1, hu2⟩ := hE s _ hx
            rw [hu2.bool_inv] at hu1
            have hy := yielded_of hsl hu1
            by_cases hxt : x = t
            · rw [if_pos (by simp [Region.wanted, hg, hy, hxt])]
              exact op_okU d3 rd n a c E H _ _ Q hE hH (hs.1 hxt) hgo
            · rw [if_neg (by simp [Region.wanted, hg, hy, hxt])]
              refine ⟨fun f _ => fnc_fn rd f, ?_⟩
              exact hgo .skp H c undef (hs.2 (by cases x <;> cases t <;> simp_all)) hH .skp (Stp.refl c)
          · rename_i hx
            obtain ⟨u, hu1, hu2⟩ := hE s _ hx
            rw [hu2.skp_inv] at hu1
            have hy := yielded_und (ops := ops) hsl hu1
            rw [if_neg (by simp [Region.wanted, hg, hy])]
            refine ⟨fun f _ => fnc_fn rd f, ?_⟩
            exact hgo .skp H c undef hs hH .skp (Stp.refl c)
          · exact hs.elim
      · -- the move
        obtain ⟨o, ho, hle, hfw⟩ := (hflt d y hf).op
        obtain ⟨d1, d2, d3, d4⟩ := lowEl_inv hle
        simp only at d1 d3 d4
        have hset : ∀ p, (listed.setIfInBounds tels.length true).getD p false = true ↔ p = tels.length ∨ listed.getD p false = true := fun p => set_get (by omega)
        have hRy : RE c Ey a.tmps := (hF d y hf).2 (by simpa using hnl)
        have hdlt : d < a.tmps.size := by rw [← d1] at d2; simpa [hsz, dstOk] using d2
        unfold wpOpIn
        simp only [ho]
        rcases d4 with ⟨hg, _⟩ | ⟨q, t, s, _, _, h⟩
        · rw [if_pos (by simp [Region.wanted, hg])]
          refine op_ok d3 rd n a c Ey H (fun w H' => w = v ∧ H' = H) _ Q hRy hH ⟨(hEy d y hf).1, rfl⟩ (fun w H' c' u hw hH' hR hst' => ?_)
          obtain ⟨rfl, rfl⟩ := hw
          rw [← d1]
          refine ih i _ (a.put (some d) u) c' E H' (hunset hjl hnl) hn hi (by simpa using hls) (fun p hp => ?_) (by rw [put_size]; exact hsz) (by rw [put_defers]; exact hdf) ?_ hEd ?_ hH' (hst.trans hst') hs
          · rw [hset, hup p hp]
            constructor
            · rintro (h | h)
              · omega
              · exact h
            · exact .inr
          · intro s w' hg'
            obtain ⟨u', k1, k2⟩ := hE s w' hg'
            have hne : s ≠ d := fun e => by subst e; rw [hEd s y hf] at hg'; cases hg'
            exact ⟨u', by rw [act_put_ne (fun e => hne (by cases e; rfl))]; exact k1, k2.mono (hst'.sub hH)⟩
          · intro d' y' hf'
            rw [hf] at hf'
            simp only [Option.some.injEq, Prod.mk.injEq] at hf'
            obtain ⟨rfl, rfl⟩ := hf'
            have hlm := (hset tels.length).2 (.inl rfl)
            exact ⟨fun _ => ⟨u, by simp [Act.put, hdlt], hR⟩, fun h => by rw [hlm] at h; cases h⟩
        · cases h

def dropE (E : Env) (l : List Nat) : Env := E.filter fun p => !l.contains p.1

theorem get_dropE {E : Env} {l : List Nat} {s : Nat} {v : V} (h : get (dropE E l) s = some v) : get E s = some v ∧ s ∉ l := by
  induction E with
  | nil => simp [dropE, get] at h
  | cons p r ih =>
    obtain ⟨t, x⟩ := p
    simp only [dropE, List.filter_cons] at h
    split at h
    · rename_i hc
      simp only [get] at h ⊢
      split at h
      · rename_i e
        subst e
        simp at hc
        exact ⟨by rw [if_pos rfl]; exact h, hc⟩
      · rename_i e
        rw [if_neg e]
        exact ih h
    · rename_i hc
      have hm : t ∈ l := by simpa using hc
      obtain ⟨h1, h2⟩ := ih h
      simp only [get]
      rw [if_neg (fun (e : t = s) => h2 (by rw [← e]; exact hm))]
      exact ⟨h1, h2⟩

def allocs : List (Nat × IEl) → List IEl
  | [] => []
  | (tg, el) :: r => if tg = 2 then el :: allocs r else allocs r

def adsts : List (Nat × IEl) → List Nat
  | [] => []
  | (tg, el) :: r => if tg = 2 then (match el.dst with | some s => s :: adsts r | none => adsts r) else adsts r

theorem adsts_mem {s : Nat} : ∀ {l : List (Nat × IEl)}, (∃ el, (2, el) ∈ l ∧ el.dst = some s) → s ∈ adsts l
  | [], ⟨_, h, _⟩ => by cases h
  | (tg, el) :: r, ⟨el', h, hd⟩ => by
    simp only [adsts]
    rcases List.mem_cons.1 h with h | h
    · cases h
      rw [if_pos rfl, hd]
      simp
    · have := adsts_mem ⟨el', h, hd⟩
      split
      · split
        · exact List.mem_cons_of_mem _ this
        · exact this
      · exact this

/-- The variables of the first phase, with their places. -/
def withB (f : Nat → Nat) : Nat → List (Nat × IEl) → List (IEl × Nat)
  | _, [] => []
  | i, (tg, el) :: r => if tg = 2 then (el, f i) :: withB f (i + 1) r else withB f (i + 1) r

theorem withB_fst (f : Nat → Nat) : ∀ (l : List (Nat × IEl)) (i : Nat), (withB f i l).map (·.1) = allocs l
  | [], i => rfl
  | (tg, el) :: r, i => by
    simp only [withB, allocs]
    split
    · simp [withB_fst f r (i + 1)]
    · exact withB_fst f r (i + 1)

theorem withB_mem (f : Nat → Nat) : ∀ (l : List (Nat × IEl)) (i : Nat) (x : IEl × Nat), x ∈ withB f i l → ∃ j, l[j]? = some (2, x.1) ∧ x.2 = f (i + j)
  | [], i, x, h => by cases h
  | (tg, el) :: r, i, x, h => by
    simp only [withB] at h
    split at h
    · rename_i ht
      rcases List.mem_cons.1 h with h | h
      · subst h; exact ⟨0, by simp [ht], rfl⟩
      · obtain ⟨j, h1, h2⟩ := withB_mem f r (i + 1) x h
        exact ⟨j + 1, by simpa using h1, by rw [h2]; congr 1; omega⟩
    · obtain ⟨j, h1, h2⟩ := withB_mem f r (i + 1) x h
      exact ⟨j + 1, by simpa using h1, by rw [h2]; congr 1; omega⟩

theorem withB_nodup (f : Nat → Nat) : ∀ (l : List (Nat × IEl)) (i : Nat), (∀ j j' el el', l[j]? = some (2, el) → l[j']? = some (2, el') → f (i + j) = f (i + j') → j = j') → ((withB f i l).map (·.2)).Nodup
  | [], i, h => by simp [withB]
  | (tg, el) :: r, i, h => by
    have hr := withB_nodup f r (i + 1) (fun j j' e e' h1 h2 h3 => by
      have := h (j + 1) (j' + 1) e e' (by simpa using h1) (by simpa using h2) (by rw [show i + (j + 1) = i + 1 + j by omega, show i + (j' + 1) = i + 1 + j' by omega]; exact h3)
      omega)
    simp only [withB]
    split
    · rename_i ht
      simp only [List.map_cons]
      refine List.nodup_cons.2 ⟨fun hm => ?_, hr⟩
      obtain ⟨x, hx1, hx2⟩ := List.mem_map.1 hm
      obtain ⟨j, h1, h2⟩ := withB_mem f r (i + 1) x hx1
      have := h 0 (j + 1) el x.1 (by simp [ht]) (by simpa using h1) (by rw [Nat.add_zero, ← hx2, h2]; congr 1; omega)
      omega
    · exact hr

theorem alloc_pend {c0 c : Cx} {H : List Blk} (hH : RH c H) (h0 : c0.w.heap.size ≤ c.w.heap.size) {cells : Array Value} {t : TypeId} {z : List V} (hz : RL c z cells.toList) :
    ∃ c' : Cx, c'.w = c.w.alloc (.cells cells t) ∧ RH c' H ∧ Stp c c' ∧ Pd c0 c' c.w.heap.size z := by
  let c' : Cx := { w := c.w.alloc (.cells cells t), X := fun b => c.X b ∨ b = c.w.heap.size, ρ := c.ρ, N := c.N }
  have hst : Stp c c' := ⟨rfl, rfl, rfl, by simp [c'], fun b hb _ => Below.heap_alloc _ _ _ hb, fun b hb => by simp only [c']; constructor; (rintro (h | h); exact h; omega); exact fun _ => .inl, Nat.le_refl _, fun _ _ => .inl rfl, fun id b sz e => .inr ⟨id, sz, e⟩, Nat.le_refl _⟩
  have hsub := hst.sub hH
  refine ⟨c', rfl, ⟨hH.N, ?_, hH.gone, ?_, hH.inj⟩, hst, h0, .inr rfl, fun id sz e => ?_, cells, t, alloc_new _ _, hz.mono hsub⟩
  · intro b hb
    simp only [c', World.size_alloc]
    rcases hb with h | h
    · have := hH.X b h; omega
    · omega
  · intro id blk hb hd
    obtain ⟨b, sz, h1, h2, h3⟩ := hH.live id blk hb hd
    have hh : c'.w.heap[b]? = c.w.heap[b]? := Below.heap_alloc _ _ _ (hH.lt h1)
    refine ⟨b, sz, h1, .inl h2, ?_⟩
    exact h3.move hh hsub
  · have := hH.lt e; omega

set_option maxHeartbeats 2000000 in
theorem ph1_any {ops : Array Oper} {tels : List (Nat × IEl)} {n1 : Nat} {flt : Option (Nat × A)} (hat : ∀ (i tg : Nat) (el : IEl), tels[i]? = some (tg, el) → ∃ o, ops[i]? = some o ∧ lowEl P nt ops o = some (unfzE el))
    (hsz0 : flt = none → ops.size = tels.length) (hflt : ∀ d y, flt = some (d, y) → FltOk P nt ops tels n1 d y) (hchk : drwOk ops (befGo ops.toList []) tels n1 = true)
    {ts : List TS} {E0 E1 : Env} {H0 H1 : List Blk} (hpt : PT P H0 (tels.take n1) ts E0 H0 E1 H1) (hE0d : ∀ d y, flt = some (d, y) → get E0 d = none)
    {v : V} {Ey : Env} (hEy : ∀ d y, flt = some (d, y) → ev Ey y = v ∧ ∀ s w, get Ey s = some w → y = .t s ∧ get E1 s = some w) {Q : Exit → Act → World → Prop} {rd : Option Nat} {n : Nat} {c0 : Cx} (h0 : RH c0 H0) {df : List Deferred} {K : Env → List Blk → Prop}
    (hs : seqI P (allocs (tels.take n1) ++ (tels.drop n1).map (·.2)) (dropE E1 (adsts (tels.take n1))) H1 K)
    (hK : ∀ E' H' a' c', K E' H' → a'.tmps.size = nt → a'.defers = df → RE c' E' a'.tmps → (∀ d y, flt = some (d, y) → ∃ u, a'.tmps[d]? = some u ∧ R c' v u) → RH c' H' → Stp c0 c' → Q .normal a' c'.w) : ∀ (fuel : Nat) (listed : Array Bool) (a : Act) (c : Cx),
    unl ops.size listed = fuel → Inv1 ops tels n1 tels.length nt ts E0 H0 c0 df listed a c → (∀ d y, flt = some (d, y) → listed.getD tels.length false = true → ∃ u, a.tmps[d]? = some u ∧ R c v u) → wpAnyIn (fnc rd) n P .any ops Q fuel listed a c.w := by
  have hlen : tels.length ≤ ops.size ∧ ops.size ≤ tels.length + 1 := by
    cases hf : flt with
    | none => have := hsz0 hf; omega
    | some p => have := (hflt p.1 p.2 hf).size; omega
  obtain ⟨hn1, hfwd, hall, hck⟩ := drwOk_inv hchk hlen.1
  have hget1 : ∀ j, j < n1 → (tels.take n1)[j]? = tels[j]? := fun j hj => by rw [List.getElem?_take, if_pos hj]
  have hl1 : (tels.take n1).length = n1 := by simp; omega
  have hlowat := hat
  -- a slot's value, by who wrote it
  have slot : ∀ (m : Nat) (listed : Array Bool) (a : Act) (c : Cx) (s : Nat) (v : V), m ≤ n1 → Inv1 ops tels n1 tels.length nt ts E0 H0 c0 df listed a c → get (envAt (tels.take n1) ts E0 m) s = some v →
      (∀ j tg el, j < n1 → tels[j]? = some (tg, el) → el.dst = some s → (tg ≠ 2 ∧ j < m ∧ listed.getD j false = true) ∨ ¬ listed.getD j false = true ∧ m ≤ j) → ∃ u, a.tmps[s]? = some u ∧ R c v u := by
    intro m listed a c s v hm I hg hw
    by_cases hex : ∃ j tg el, j < n1 ∧ tels[j]? = some (tg, el) ∧ el.dst = some s ∧ j < m
    · obtain ⟨j, tg, el, hj, hel, hd, hjm⟩ := hex
      rcases hw j tg el hj hel hd with ⟨h1, h2, h3⟩ | ⟨_, h2⟩
      · obtain ⟨t, g1, _, _⟩ := PT_at hpt j tg el (by rw [hget1 j hj]; exact hel)
        have := env_new (s := s) (tels.take n1) ts E0 m j tg el t h2 (by rw [hget1 j hj]; exact hel) h1 hd g1 (fun j' tg' el' hne hel' _ hd' => by
          have hj' : j' < n1 := by have := (List.getElem?_eq_some_iff.1 hel').1; omega
          rw [hget1 j' hj'] at hel'
          exact (hck j' tg' el' hj' hel').dst j tg el s hj (Ne.symm hne) hel hd hd')
        rw [hg] at this
        cases this
        exact I.new j tg el t s hj hel h1 h3 hd g1
      · omega
    · have hno : ∀ j tg el, j < m → (tels.take n1)[j]? = some (tg, el) → tg ≠ 2 → el.dst ≠ some s := by
        intro j tg el hj hel _ hd
        have hj' : j < n1 := by omega
        rw [hget1 j hj'] at hel
        exact hex ⟨j, tg, el, hj', hel, hd, hj⟩
      rw [env_old (tels.take n1) ts E0 m hno] at hg
      refine I.old s v hg (fun j tg el hj hel hl hd => ?_)
      rcases hw j tg el hj hel hd with ⟨_, h2, _⟩ | ⟨h1, _⟩
      · exact hex ⟨j, tg, el, hj, hel, hd, h2⟩
      · exact h1 hl
  have fin : ∀ (fuel : Nat) (listed : Array Bool) (a : Act) (c : Cx), unl ops.size listed = fuel → Inv1 ops tels n1 tels.length nt ts E0 H0 c0 df listed a c → (∀ j, j < n1 → listed.getD j false = true) → (∀ d y, flt = some (d, y) → listed.getD tels.length false = true → ∃ u, a.tmps[d]? = some u ∧ R c v u) → wpAnyIn (fnc rd) n P .any ops Q fuel listed a c.w := by
    intro fuel listed a c hu I hl hF
    have hup : ∀ j, j < tels.length → (listed.getD j false = true ↔ j < n1) := fun j hj => ⟨fun h => (by
      rcases Nat.lt_or_ge j n1 with h' | h'
      · exact h'
      · rw [I.low j h' hj] at h; cases h), hl j⟩
    obtain ⟨k, hk, hkl, hRH⟩ := I.heap
    obtain ⟨e1, e2⟩ := PT_end hpt
    rw [hl1] at e1 e2
    have hkk : heapAt (tels.take n1) ts H0 k = H1 := by
      have := heapAt_same hpt (k := k) (n1 - k) (by omega) (fun j tg el h1 h2 hel => by
        have hj : j < n1 := by omega
        rw [hget1 j hj] at hel
        cases hmt : mT tg with
        | false => rfl
        | true => exfalso; have := (hkl j tg el hj hel hmt).1 (hl j hj); omega)
      rw [show k + (n1 - k) = n1 by omega, e2] at this
      exact this.symm
    rw [hkk] at hRH
    have hRE : RE c (dropE E1 (adsts (tels.take n1))) a.tmps := by
      intro s v hg
      obtain ⟨g1, g2⟩ := get_dropE hg
      rw [← e1] at g1
      refine slot n1 listed a c s v (Nat.le_refl _) I g1 (fun j tg el hj hel hd => .inl ⟨?_, hj, hl j hj⟩)
      intro ht
      subst ht
      exact g2 (adsts_mem ⟨el, List.mem_of_getElem? (by rw [hget1 j hj]; exact hel), hd⟩)
    obtain ⟨f, hf1, hf2⟩ := I.pend
    have hmem2 : ∀ j el, (tels.take n1)[j]? = some (2, el) → j < n1 ∧ ∃ s z, el = ⟨some s, none, .alloc z⟩ := by
      intro j el hel
      have hj : j < n1 := by have := (List.getElem?_eq_some_iff.1 hel).1; omega
      rw [hget1 j hj] at hel
      obtain ⟨z, s, h, _⟩ := (hck j 2 el hj hel).kind2 rfl
      exact ⟨hj, s, z, h⟩
    obtain ⟨c2, E2, H2, hw, g1, g2, g3, g4, g5, g6⟩ := adopt_all (c0 := c0) (tmps := a.tmps) (tail := (tels.drop n1).map (·.2)) (K := K) (withB f 0 (tels.take n1)) c _ _ (by rw [withB_fst]; exact hs) hRE hRH I.stp (by
      intro x hx
      obtain ⟨j, h1, h2⟩ := withB_mem f _ 0 x hx
      obtain ⟨hj, s, z, hel⟩ := hmem2 j x.1 h1
      rw [hget1 j hj, hel] at h1
      obtain ⟨k1, k2⟩ := hf1 j s z hj h1 (hl j hj)
      exact ⟨z, s, hel, by rw [h2, Nat.zero_add]; exact k1, by rw [h2, Nat.zero_add]; exact k2⟩) (withB_nodup f _ 0 (by
      intro j j' el el' h1 h2 h3
      obtain ⟨hj, s, z, rfl⟩ := hmem2 j el h1
      obtain ⟨hj', s', z', rfl⟩ := hmem2 j' el' h2
      rw [hget1 j hj] at h1
      rw [hget1 j' hj'] at h2
      rw [Nat.zero_add, Nat.zero_add] at h3
      exact hf2 j j' s s' z z' hj hj' h1 h2 (hl j hj) (hl j' hj') h3))
    rw [← hw]
    have hmono : ∀ {v' : V} {u' : Value}, R c v' u' → R c2 v' u' := fun {v' u'} h => g6 v' u' h
    refine tail_ok hat hsz0 hflt hfwd hall (fun d y hf => ⟨(hEy d y hf).1, fun s w hg => ((hEy d y hf).2 s w hg).1⟩) hK fuel n1 listed a c2 E2 H2 hu (Nat.le_refl _) hn1 I.len hup I.size I.defers g2 ?_ ?_ g3 g4 g1
    · intro d y hf
      rw [g5 d (fun x hx => ?_)]
      · cases hg : get (dropE E1 (adsts (tels.take n1))) d with
        | none => rfl
        | some w =>
          exfalso
          obtain ⟨g1', _⟩ := get_dropE hg
          rw [← e1, env_old (tels.take n1) ts E0 n1 (fun j tg el hj hel _ hd => by
            have hj' : j < n1 := hj
            rw [hget1 j hj'] at hel
            exact ((hflt d y hf).other j tg el hel).1 hd), hE0d d y hf] at g1'
          cases g1'
      · obtain ⟨j, h1, _⟩ := withB_mem f _ 0 x hx
        have hj : j < n1 := (hmem2 j x.1 h1).1
        rw [hget1 j hj] at h1
        exact ((hflt d y hf).other j 2 x.1 h1).1
    · intro d y hf
      refine ⟨fun hlm => let ⟨u, k1, k2⟩ := hF d y hf hlm; ⟨u, k1, hmono k2⟩, fun _ s w hg => ?_⟩
      obtain ⟨hys, hg1⟩ := (hEy d y hf).2 s w hg
      rw [← e1] at hg1
      obtain ⟨u, k1, k2⟩ := slot n1 listed a c s w (Nat.le_refl _) I hg1 (fun j tg el hj hel hd => by
        have := ((hflt d y hf).src s hys).2 j tg el hel hd
        exact .inl ⟨this.2.1, hj, hl j hj⟩)
      exact ⟨u, k1, hmono k2⟩
  intro fuel
  induction fuel with
  | zero =>
    intro listed a c hu I hF
    refine fin 0 listed a c hu I (fun j hj => ?_) hF
    cases hv : listed.getD j false with
    | true => rfl
    | false =>
      exfalso
      have : j ∈ (List.range ops.size).filter (fun j => !listed.getD j false) := List.mem_filter.2 ⟨List.mem_range.2 (by omega), by simp [hv]⟩
      have hpos := List.length_pos_of_mem this
      unfold unl at hu
      omega
  | succ fuel ih =>
    intro listed a c hu I hF
    by_cases hcomp : ∀ j, j < n1 → listed.getD j false = true
    · exact fin (fuel + 1) listed a c hu I hcomp hF
    · -- some operation of the first phase is left: the least one may come
      have hex : ∃ j, j < n1 ∧ ¬ listed.getD j false = true := by
        apply Classical.byContradiction
        intro h
        exact hcomp fun j hj => Classical.byContradiction fun h' => h ⟨j, hj, h'⟩
      obtain ⟨j, hj⟩ := hex
      obtain ⟨i0, ⟨hi0, hu0⟩, hmin⟩ := least (fun j => j < n1 ∧ ¬ listed.getD j false = true) j hj
      have hready0 : i0 ∈ Region.ready .any ops listed := by
        have hlt : i0 < ops.size := by omega
        refine mem_ready.2 ⟨?_, ops[i0], by simp [hlt], fun e he hb => ?_⟩
        · rw [getD_bool (by rw [I.len]; exact hlt)]
          cases hv : listed.getD i0 false with
          | false => rfl
          | true => exact absurd hv hu0
        · have h3 := hfwd i0 _ (by omega) (by simp [hlt]) e he hb
          exact Classical.byContradiction fun h' => hmin e.on h3 ⟨by omega, h'⟩
      refine ⟨fun h => absurd hready0 (by rw [h]; simp), fun i hr => ?_⟩
      obtain ⟨h00, o, ho, hafter⟩ := mem_ready.1 hr
      have hin : i < ops.size := lt_of_get ho
      have hui : ¬ listed.getD i false = true := by
        rw [getD_bool (by rw [I.len]; exact hin)] at h00
        rw [h00]; simp
      by_cases hif : i = tels.length
      · -- the last move
        subst hif
        obtain ⟨d, y, hf⟩ : ∃ d y, flt = some (d, y) := by
          cases hf : flt with
          | none => have := hsz0 hf; omega
          | some p => exact ⟨p.1, p.2, rfl⟩
        have FO := hflt d y hf
        obtain ⟨o', ho', hle, hfw⟩ := FO.op
        rw [ho] at ho'
        cases ho'
        obtain ⟨d1, d2, d3, d4⟩ := lowEl_inv hle
        simp only at d1 d3 d4
        obtain ⟨kold, hk, hkl, hRH⟩ := I.heap
        obtain ⟨e1, _⟩ := PT_end hpt
        rw [hl1] at e1
        have hRy : RE c Ey a.tmps := by
          intro s w hg
          obtain ⟨hys, hg1⟩ := (hEy d y hf).2 s w hg
          rw [← e1] at hg1
          exact slot n1 listed a c s w (Nat.le_refl _) I hg1 (fun j tg el hj hel hd => by
            have := (FO.src s hys).2 j tg el hel hd
            exact .inl ⟨this.2.1, hj, reach_listed I.closed this.2.2 (fun o' ho' e he hb => by rw [ho] at ho'; cases ho'; exact hafter e he hb)⟩)
        have hdlt : d < a.tmps.size := by rw [← d1] at d2; simpa [I.size, dstOk] using d2
        have hset : ∀ p, (listed.setIfInBounds tels.length true).getD p false = true ↔ p = tels.length ∨ listed.getD p false = true := fun p => set_get (by rw [I.len]; exact hin)
        have hsetlt : ∀ {p}, p < tels.length → ((listed.setIfInBounds tels.length true).getD p false = true ↔ listed.getD p false = true) := fun {p} hp => by
          rw [hset]
          constructor
          · rintro (h | h)
            · omega
            · exact h
          · exact .inr
        have hunl : unl ops.size (listed.setIfInBounds tels.length true) = fuel := by
          have := unl_set hin I.len hui
          omega
        unfold wpOpIn
        simp only [ho]
        rcases d4 with ⟨hg, _⟩ | ⟨q, t, s, _, _, h⟩
        · rw [if_pos (by simp [Region.wanted, hg])]
          refine op_ok d3 rd n a c Ey _ (fun w H' => w = v ∧ H' = heapAt (tels.take n1) ts H0 kold) _ Q hRy hRH ⟨(hEy d y hf).1, rfl⟩ (fun w H' c' u hw hH' hR hst' => ?_)
          obtain ⟨rfl, rfl⟩ := hw
          have hsub := hst'.sub hRH
          rw [← d1]
          have hput : ∀ s, s ≠ d → (a.put (some d) u).tmps[s]? = a.tmps[s]? := fun s hne => act_put_ne (fun e => hne (by cases e; rfl))
          refine ih _ _ _ hunl ⟨by simpa using I.len, ?_, ?_, ⟨kold, hk, fun j tg el hj hel ht => (hsetlt (by omega)).trans (hkl j tg el hj hel ht), hH'⟩, I.stp.trans hst', by rw [put_size]; exact I.size, by rw [put_defers]; exact I.defers, ?_, ?_, ?_⟩ ?_
          · intro j oj hoj hj e he hb
            rcases (hset j).1 hj with rfl | hj
            · rw [ho] at hoj; cases hoj
              exact (hset _).2 (.inr (hafter e he hb))
            · exact (hset _).2 (.inr (I.closed j oj hoj hj e he hb))
          · intro j h1 h2
            have h3 := I.low j h1 h2
            cases hv : (listed.setIfInBounds tels.length true).getD j false with
            | false => rfl
            | true => rw [(hsetlt h2).1 hv] at h3; cases h3
          · intro s w' hg' hno
            have hne : s ≠ d := fun e => by subst e; rw [hE0d s y hf] at hg'; cases hg'
            obtain ⟨u', k1, k2⟩ := I.old s w' hg' (fun j tg el hj hel hl => hno j tg el hj hel ((hsetlt (by omega)).2 hl))
            exact ⟨u', by rw [hput s hne]; exact k1, k2.mono hsub⟩
          · intro j tg el t s hj hel htg hl hds hts
            have hne : s ≠ d := fun e => (FO.other j tg el hel).1 (by rw [hds, e])
            obtain ⟨u', k1, k2⟩ := I.new j tg el t s hj hel htg ((hsetlt (by omega)).1 hl) hds hts
            exact ⟨u', by rw [hput s hne]; exact k1, k2.mono hsub⟩
          · obtain ⟨f, hf1, hf2⟩ := I.pend
            refine ⟨f, fun j s z hj hel hl => ?_, fun j j' s s' z z' hj hj' hel hel' hl hl' => hf2 j j' s s' z z' hj hj' hel hel' ((hsetlt (by omega)).1 hl) ((hsetlt (by omega)).1 hl')⟩
            obtain ⟨k1, k2⟩ := hf1 j s z hj hel ((hsetlt (by omega)).1 hl)
            have hne : s ≠ d := fun e => (FO.other j 2 _ hel).1 (by rw [e])
            exact ⟨by rw [hput s hne]; exact k1, k2.stp hRH hst'⟩
          · intro d' y' hf' _
            rw [hf] at hf'
            simp only [Option.some.injEq, Prod.mk.injEq] at hf'
            obtain ⟨rfl, rfl⟩ := hf'
            exact ⟨u, by simp [Act.put, hdlt], hR⟩
        · cases h
      have him : i < tels.length := by omega
      have hi : i < n1 := by
        rcases Nat.lt_or_ge i n1 with h | h
        · exact h
        · exfalso
          exact hu0 (reach_listed I.closed (hall i h him i0 (by omega)) (fun o' ho' e he hb => by rw [ho] at ho'; cases ho'; exact hafter e he hb))
      obtain ⟨tg, el, hel⟩ : ∃ tg el, tels[i]? = some (tg, el) := ⟨(tels[i]'him).1, (tels[i]'him).2, by simp [him]⟩
      obtain ⟨o', ho', hle⟩ := hlowat i tg el hel
      rw [ho] at ho'
      cases ho'
      obtain ⟨d1, d2, d3, d4⟩ := lowEl_invU hle
      have hcki := hck i tg el hi hel
      obtain ⟨kold, hk, hkl, hRH⟩ := I.heap
      obtain ⟨t, ht1, ht2, ht3⟩ := PT_at hpt i tg el (by rw [hget1 i hi]; exact hel)
      have hunl : unl ops.size (listed.setIfInBounds i true) = fuel := by
        have := unl_set hin I.len hui
        omega
      -- one step more
      have go : ∀ (u : Value) (c' : Cx) (Hn : List Blk), Stp c c' → RH c' Hn → Hn = (if mT tg = true then heapAt (tels.take n1) ts H0 (i + 1) else heapAt (tels.take n1) ts H0 kold) → (tg ≠ 2 → ∀ t, ts[i]? = some t → R c' t.v u) →
          (tg = 2 → ∀ s z, el = ⟨some s, none, .alloc z⟩ → ∃ b, u = .pointer (some ⟨b, 0, none⟩) ∧ c.w.heap.size ≤ b ∧ Pd c0 c' b z) → wpAnyIn (fnc rd) n P .any ops Q fuel (listed.setIfInBounds i true) (a.put o.dst u) c'.w := by
        intro u c' Hn hs' hR' hHn hv hp
        rw [← d1]
        refine ih _ _ _ hunl (I.next hpt (by omega) hi hin hel hcki hck hr hs' hRH hR' hHn hk hkl (by rw [d1]; exact d2) hv hp) (fun d y hf hlm => ?_)
        obtain ⟨u', k1, k2⟩ := hF d y hf (by
          rcases (set_get (listed := listed) (i := i) (j := tels.length) (by rw [I.len]; exact hin)).1 hlm with h | h
          · omega
          · exact h)
        exact ⟨u', by rw [act_put_ne ((hflt d y hf).other i tg el hel).1]; exact k1, k2.mono (hs'.sub hRH)⟩
      unfold wpOpIn
      simp only [ho]
      rcases ht3 with ⟨rfl, hH2⟩ | ⟨htg, hdid⟩
      · -- a variable
        obtain ⟨z, s, rfl, hz1⟩ := hcki.kind2 rfl
        rcases d4 with ⟨hg, _⟩ | ⟨_, _, _, _, _, h⟩
        · rw [if_pos (by simp [Region.wanted, hg])]
          obtain ⟨ty, hop, hz⟩ := low_alloc d3
          obtain ⟨u, hrun, hsz, hRL, hone⟩ := zeroI_R (c := c) hz hz1
          obtain ⟨c', hw, k1, k2, k3⟩ := alloc_pend (c0 := c0) (t := ty) hRH I.stp.size hRL
          refine wpIn_value (by simp [hop]) (u := .pointer (some ⟨c.w.heap.size, 0, none⟩)) (w' := c'.w) ?_ (go _ c' _ k2 k1 (by rw [if_neg (by decide)]) (fun h => absurd rfl h) (fun _ s' z' he => ?_))
          · rw [hw]; simp [execOp, hop, Instr.alloc, hrun, newVar, newRow]
          · simp at he
            obtain ⟨rfl, rfl⟩ := he
            exact ⟨_, rfl, Nat.le_refl _, k3⟩
        · cases h
      · have hRE : RE c (Sh.keep (envAt (tels.take n1) ts E0 i) (rdsE el)) a.tmps := by
          intro s v hg
          obtain ⟨hm, hg'⟩ := get_keep_mem hg
          refine slot i listed a c s v (by omega) I hg' (fun j tg' el' hj hel' hd => ?_)
          by_cases hji : j = i
          · subst hji; exact .inr ⟨hui, Nat.le_refl _⟩
          · obtain ⟨q1, q2, q3⟩ := hcki.rd j tg' el' s hj hji hel' hd hm
            exact .inl ⟨q1, q2, reach_listed I.closed q3 (fun o' ho' e he hb => by rw [ho] at ho'; cases ho'; exact hafter e he hb)⟩
        rcases hdid with ⟨hrun, hgd, hst⟩ | ⟨hrun, hgd, hv, hH2⟩
        · have hwant : Region.wanted o (yielded ops a.tmps) = true := by
            rcases d4 with ⟨hg, _⟩ | ⟨q, w, s, hg, hsl, hgr⟩
            · simp [Region.wanted, hg]
            · rw [hgr] at hgd
              obtain ⟨u, hu1, hu2⟩ := hRE s _ hgd
              rw [hu2.bool_inv] at hu1
              simp [Region.wanted, hg, yielded_of hsl hu1]
          rw [if_pos hwant]
          have hsame : mT tg = true → heapAt (tels.take n1) ts H0 i = heapAt (tels.take n1) ts H0 kold := fun hmt => by
            have hki : kold ≤ i := by
              rcases Nat.lt_or_ge i kold with h | h
              · exact absurd ((hkl i tg el hi hel hmt).2 h) hui
              · exact h
            have := heapAt_same hpt (k := kold) (i - kold) (by omega) (fun j tg' el' h1 h2 hel' => by
              have hj : j < n1 := by omega
              rw [hget1 j hj] at hel'
              cases hmt' : mT tg' with
              | false => rfl
              | true =>
                exfalso
                have hr' := hcki.ord hmt j tg' el' (by omega) hj hel' hmt'
                have := (hkl j tg' el' hj hel' hmt').1 (reach_listed I.closed hr' (fun o' ho' e he hb => by rw [ho] at ho'; cases ho'; exact hafter e he hb))
                omega)
            rw [show kold + (i - kold) = i by omega] at this
            exact this
          rcases hst with ⟨rfl, hstep, htake⟩ | ⟨rfl, hstep⟩ | ⟨hn1', hn3', hside, hstep, hH2⟩
          · rw [hsame rfl] at hstep
            refine op_okU d3 rd n a c _ _ _ _ Q hRE hRH (stepI_weak hstep) (fun v H' c' u hvH hRH' hR hst' => ?_)
            obtain ⟨rfl, rfl⟩ := hvH
            exact go u c' _ hst' hRH' (by rw [if_pos (by decide), ht2]) (fun _ t' ht' => by rw [ht1] at ht'; cases ht'; exact hR) (fun h => by cases h)
          · rw [hsame rfl] at hstep
            refine op_okU d3 rd n a c _ _ _ _ Q hRE hRH (stepI_weak hstep) (fun v H' c' u hvH hRH' hR hst' => ?_)
            obtain ⟨rfl, rfl⟩ := hvH
            exact go u c' _ hst' hRH' (by rw [if_pos (by decide), ht2]) (fun _ t' ht' => by rw [ht1] at ht'; cases ht'; exact hR) (fun h => by cases h)
          · have hmt : mT tg = false := by simp [mT, hn1', hn3']
            have hstep' : stepI true P el.op (Sh.keep (envAt (tels.take n1) ts E0 i) (rdsE el)) (heapAt (tels.take n1) ts H0 kold) (fun a b => a = t.v ∧ b = heapAt (tels.take n1) ts H0 kold) := by
              cases hpk : pKind el.op with
              | true => exact p_any hpk hstep fun a h => ⟨h.1, rfl⟩
              | false =>
                have hno3 : ∀ j el', j < kold → (tels.take n1)[j]? ≠ some (3, el') := fun j el' hj hel' => by
                  have hj1 : j < n1 := by omega
                  rw [hget1 j hj1] at hel'
                  have hlj := (hkl j 3 el' hj1 hel' rfl).2 hj
                  have hr' := (hck j 3 el' hj1 hel').rdr rfl i tg el hi (fun e => by subst e; exact hui hlj) hel hmt htg hpk
                  have hoj : j < ops.size := by omega
                  exact hui (reach_listed I.closed hr' (fun o' ho' e he hb => I.closed j o' ho' hlj e he hb))
                have hsp := take_split (heapAt_take hpt kold (by omega) hno3)
                have := q_more (G := (heapAt (tels.take n1) ts H0 kold).drop H0.length) (K := fun a b => a = t.v ∧ b = heapAt (tels.take n1) ts H0 kold) h0 (hcki.kindq htg hn1' hn3') hside hstep (fun a b h => h.2) (fun a h => ⟨h.1, hsp.symm⟩)
                rw [← hsp] at this
                exact this
            refine op_okU d3 rd n a c _ _ _ _ Q hRE hRH (stepI_weak hstep') (fun v H' c' u hvH hRH' hR hst' => ?_)
            obtain ⟨rfl, rfl⟩ := hvH
            exact go u c' _ hst' hRH' (by rw [if_neg (by rw [hmt]; simp)]) (fun _ t' ht' => by rw [ht1] at ht'; cases ht'; exact hR) (fun h => absurd h htg)
        · obtain ⟨g, w, hgr, hgv⟩ := hgd
          have hwant : Region.wanted o (yielded ops a.tmps) = false := by
            rcases d4 with ⟨_, hg2⟩ | ⟨q, w', s, hg, hsl, hgr'⟩
            · rw [hgr] at hg2; cases hg2
            · rw [hgr] at hgr'
              simp at hgr'
              obtain ⟨rfl, rfl⟩ := hgr'
              rcases hgv with hgv | hgv
              · obtain ⟨u, hu1, hu2⟩ := hRE g _ hgv
                rw [hu2.bool_inv] at hu1
                simp [Region.wanted, hg, yielded_of hsl hu1]
              · obtain ⟨u, hu1, hu2⟩ := hRE g _ hgv
                rw [hu2.skp_inv] at hu1
                simp [Region.wanted, hg, yielded_und hsl hu1]
          rw [if_neg (by rw [hwant]; simp)]
          refine ⟨fun f _ => fnc_fn rd f, ?_⟩
          have hHn : heapAt (tels.take n1) ts H0 kold = (if mT tg = true then heapAt (tels.take n1) ts H0 (i + 1) else heapAt (tels.take n1) ts H0 kold) := by
            by_cases ht : mT tg = true
            · rw [if_pos ht, ht2, hH2]
              have hki : kold ≤ i := by
                rcases Nat.lt_or_ge i kold with h | h
                · exact absurd ((hkl i tg el hi hel ht).2 h) hui
                · exact h
              have := heapAt_same hpt (k := kold) (i - kold) (by omega) (fun j tg' el' h1 h2 hel' => by
                have hj : j < n1 := by omega
                rw [hget1 j hj] at hel'
                cases hmt' : mT tg' with
                | false => rfl
                | true =>
                  exfalso
                  have hr' := hcki.ord ht j tg' el' (by omega) hj hel' hmt'
                  have := (hkl j tg' el' hj hel' hmt').1 (reach_listed I.closed hr' (fun o' ho' e he hb => by rw [ho] at ho'; cases ho'; exact hafter e he hb))
                  omega)
              rw [show kold + (i - kold) = i by omega] at this
              exact this.symm
            · rw [if_neg ht]
          exact go undef c _ (Stp.refl c) hRH hHn (fun _ t' ht' => by rw [ht1] at ht'; cases ht'; rw [hv]; exact .skp) (fun h => absurd h htg)

theorem lowat_of {ops : Array Oper} {tels : List (Nat × IEl)} {fs : List IEl} (hlow : lowEls P nt ops ops.toList = some ((tels.map (·.2) ++ fs).map unfzE)) :
    ops.size = tels.length + fs.length ∧ (∀ (i tg : Nat) (el : IEl), tels[i]? = some (tg, el) → ∃ o, ops[i]? = some o ∧ lowEl P nt ops o = some (unfzE el)) ∧
    ∀ (i : Nat) (el : IEl), fs[i]? = some el → ∃ o, ops[tels.length + i]? = some o ∧ lowEl P nt ops o = some (unfzE el) := by
  obtain ⟨h1, h2⟩ := lowEls_getU hlow
  have hs : ops.size = tels.length + fs.length := by simpa using h1.symm
  refine ⟨hs, fun i tg el hi => ?_, fun i el hi => ?_⟩
  · have hlt : i < ops.size := by have := (List.getElem?_eq_some_iff.1 hi).1; omega
    obtain ⟨el', k1, k2⟩ := h2 i ops[i] (by simp [hlt])
    rw [List.getElem?_append_left (by simpa using (List.getElem?_eq_some_iff.1 hi).1), List.getElem?_map, hi] at k1
    simp at k1
    subst k1
    exact ⟨ops[i], by simp [hlt], k2⟩
  · have hlt : tels.length + i < ops.size := by have := (List.getElem?_eq_some_iff.1 hi).1; omega
    obtain ⟨el', k1, k2⟩ := h2 (tels.length + i) ops[tels.length + i] (by simp [hlt])
    rw [List.getElem?_append_right (by simp)] at k1
    simp only [List.length_map, Nat.add_sub_cancel_left, hi] at k1
    cases k1
    exact ⟨ops[tels.length + i], by simp [hlt], k2⟩

theorem inv1_start {ops : Array Oper} {tels : List (Nat × IEl)} {n1 m : Nat} {ts : List TS} {E : Env} {H : List Blk} {a : Act} {c : Cx} (hHd : RH { c with w := c.w.drew } H) (hsub : Sub c { c with w := c.w.drew }) (hsz : a.tmps.size = nt) (hE : RE c E a.tmps) :
    Inv1 ops tels n1 m nt ts E H { c with w := c.w.drew } a.defers (Array.replicate ops.size false) a { c with w := c.w.drew } := by
  have hfalse : ∀ j, (Array.replicate ops.size false).getD j false = false := fun j => by
    rw [Array.getD_eq_getD_getElem?]
    rcases Nat.lt_or_ge j ops.size with h | h
    · simp [h]
    · rw [Array.getElem?_eq_none (by simpa using h)]; rfl
  refine ⟨by simp, fun j o _ hj => absurd hj (by rw [hfalse j]; simp), fun j _ _ => hfalse j, ⟨0, by omega, fun j el _ _ => by rw [hfalse j]; simp, by simpa [heapAt] using hHd⟩, Stp.refl _, hsz, rfl, ?_, fun j tg el t s _ _ _ hl => absurd hl (by rw [hfalse j]; simp), ?_⟩
  · intro s v hg _
    obtain ⟨u, h1, h2⟩ := hE s v hg
    exact ⟨u, h1, h2.mono hsub⟩
  · exact ⟨fun _ => 0, fun j s z _ _ hl => absurd hl (by rw [hfalse j]; simp), fun j j' s s' z z' _ _ _ _ hl => absurd hl (by rw [hfalse j]; simp)⟩

theorem unl_start {n : Nat} : unl n (Array.replicate n false) = n := by
  unfold unl
  rw [List.filter_eq_self.2 (fun j _ => by
    rw [Array.getD_eq_getD_getElem?]
    rcases Nat.lt_or_ge j n with h | h
    · simp [h]
    · rw [Array.getElem?_eq_none (by simpa using h)]; rfl)]
  simp

/-- **A REGION THAT DRAWS ITS ORDER.** -/
theorem AW_draw {id : Nat} {ops : Array Oper} {tels : List (Nat × IEl)} {n1 : Nat} {E : Env} {H : List Blk} {Q : Exit → Env → List Blk → Prop} (hm : P.follows .mixedOrders = true)
    (hlow : lowEls P nt ops ops.toList = some ((tels.map (·.2)).map unfzE)) (hchk : drwOk ops (befGo ops.toList []) tels n1 = true)
    (hs : ph1 P H (tels.take n1) E H fun E' H' => seqI P (allocs (tels.take n1) ++ (tels.drop n1).map (·.2)) (dropE E' (adsts (tels.take n1))) H' (Q .normal)) : AW P nt fl (.region id ops true) E H Q := by
  intro rd n a c hsz hE hH hrd
  refine wpIn_region_any hm ?_
  obtain ⟨hHd, hSd⟩ := hH.drew
  have hsub := hSd.sub hH
  obtain ⟨ts, E1, H1, hpt, hs1⟩ := PT_of hs
  obtain ⟨k1, k2, k3⟩ := lowat_of (fs := []) (by simpa using hlow)
  refine ph1_any (flt := none) k2 (fun _ => by simpa using k1) (fun d y h => by cases h) hchk hpt (fun d y h => by cases h) (v := .junk) (Ey := []) (fun d y h => by cases h) (c0 := { c with w := c.w.drew }) (df := a.defers) hHd hs1 ?_ ops.size _ a { c with w := c.w.drew } unl_start
    (inv1_start hHd hsub hsz hE) (fun d y h => by cases h)
  intro E' H' a' c' k1 k2 k3 k4 _ k5 k6
  exact ⟨E', H', c', rfl, k1, k2, k4, k5, hSd.trans k6, [], List.nodup_nil, by simp [k3], fun D h => by cases h⟩

/-- The check of a last move. -/
def fltB (ops : Array Oper) (bs : List Nat) (tels : List (Nat × IEl)) (n1 d : Nat) (y : A) : Bool :=
  (((ops[tels.length]?).map fun o => o.after.toList.all fun e => !Region.binds .any e || e.on < tels.length).getD false) &&
  (tels.all fun p => p.2.dst != some d && !(rdsE p.2).contains d) &&
  match y with
  | .c _ => true
  | .t q => q != d && (List.range tels.length).all fun j => match tels[j]? with
    | none => true
    | some (tg, el) => el.dst != some q || (decide (j < n1) && tg != 2 && bef bs tels.length j)

theorem flt_of {ops : Array Oper} {tels : List (Nat × IEl)} {n1 d : Nat} {y : A} (h : fltB ops (befGo ops.toList []) tels n1 d y = true) (hsz : ops.size = tels.length + 1) (hop : ∃ o, ops[tels.length]? = some o ∧ lowEl P nt ops o = some ⟨some d, none, .mov y⟩) : FltOk P nt ops tels n1 d y := by
  simp only [fltB, Bool.and_eq_true, List.all_eq_true] at h
  obtain ⟨⟨h1, h2⟩, h3⟩ := h
  obtain ⟨o, ho, hle⟩ := hop
  refine ⟨hsz, ⟨o, ho, hle, fun e he hb => ?_⟩, fun j tg el hel => ?_, fun q hq => ?_⟩
  · rw [ho] at h1
    simp only [Option.map_some, Option.getD_some, List.all_eq_true] at h1
    have := h1 e (by simpa using he)
    rw [hb] at this
    simpa using this
  · have := h2 _ (List.mem_of_getElem? hel)
    simp at this
    exact ⟨fun e => this.1 e, fun hm => this.2 hm⟩
  · subst hq
    simp only [Bool.and_eq_true, bne_iff_ne, ne_eq, List.all_eq_true, List.mem_range] at h3
    refine ⟨h3.1, fun j tg el hel hd => ?_⟩
    have := h3.2 j (List.getElem?_eq_some_iff.1 hel).1
    rw [hel] at this
    simp only [hd, Bool.or_eq_true, bne_iff_ne, ne_eq, not_true_eq_false, false_or, Bool.and_eq_true, decide_eq_true_eq] at this
    exact ⟨this.1.1, this.1.2, bef_reach this.2⟩

theorem ev_keep {E : Env} {y : A} : ev (Sh.keep E (rdsA y)) y = ev E y := by
  cases y with
  | c v => rfl
  | t q => simp only [ev, rdsA]; rw [keep_get (by simp)]

/-- **A REGION THAT DRAWS ITS ORDER, WITH A LAST MOVE THAT MAY COME AT ANY TIME.** -/
theorem AW_drf {id : Nat} {ops : Array Oper} {tels : List (Nat × IEl)} {n1 d : Nat} {y : A} {E : Env} {H : List Blk} {Q : Exit → Env → List Blk → Prop} (hm : P.follows .mixedOrders = true)
    (hlow : lowEls P nt ops ops.toList = some ((tels.map (fun p => p.2) ++ [(⟨some d, none, .mov y⟩ : IEl)]).map unfzE)) (hchk : drwOk ops (befGo ops.toList []) tels n1 = true) (hfl : fltB ops (befGo ops.toList []) tels n1 d y = true)
    (hs : ph1 P H (tels.take n1) (dropE E [d]) H fun E' H' => seqI P (allocs (tels.take n1) ++ (tels.drop n1).map (·.2)) (dropE E' (adsts (tels.take n1))) H' fun E'' H'' => Q .normal (put E'' d (ev E' y)) H'') : AW P nt fl (.region id ops true) E H Q := by
  intro rd n a c hsz hE hH hrd
  refine wpIn_region_any hm ?_
  obtain ⟨hHd, hSd⟩ := hH.drew
  have hsub := hSd.sub hH
  obtain ⟨ts, E1, H1, hpt, hs1⟩ := PT_of hs
  obtain ⟨k1, k2, k3⟩ := lowat_of hlow
  obtain ⟨o, ho, hle⟩ := k3 0 _ rfl
  have FO := flt_of (P := P) (nt := nt) hfl (by simpa using k1) ⟨o, by simpa using ho, hle⟩
  have hdrop : ∀ s v, get (dropE E [d]) s = some v → get E s = some v := fun s v h => (get_dropE h).1
  have hd0 : get (dropE E [d]) d = none := by
    cases h : get (dropE E [d]) d with
    | none => rfl
    | some v => exact absurd (get_dropE h).2 (by simp)
  have hsame : ∀ {d' y'}, some (d, y) = some (d', y') → d = d' ∧ y = y' := fun h => by cases h; exact ⟨rfl, rfl⟩
  refine ph1_any (flt := some (d, y)) k2 (fun h => by cases h) (fun d' y' h => by obtain ⟨rfl, rfl⟩ := hsame h; exact FO) hchk hpt (fun d' y' h => by obtain ⟨rfl, rfl⟩ := hsame h; exact hd0) (v := ev E1 y) (Ey := Sh.keep E1 (rdsA y))
    (fun d' y' h => by
      obtain ⟨rfl, rfl⟩ := hsame h
      refine ⟨ev_keep, fun s w hg => ?_⟩
      obtain ⟨g1, g2⟩ := get_keep_mem hg
      cases y with
      | c v => simp [rdsA] at g1
      | t q => simp [rdsA] at g1; subst g1; exact ⟨rfl, g2⟩)
    (c0 := { c with w := c.w.drew }) (df := a.defers) hHd hs1 ?_ ops.size _ a { c with w := c.w.drew } unl_start
    (inv1_start hHd hsub hsz (fun s v hg => hE s v (hdrop s v hg))) (fun d' y' h hl => ?_)
  · intro E' H' a' c' k1 k2 k3 k4 kf k5 k6
    refine ⟨_, H', c', rfl, k1, k2, fun t w hg => ?_, k5, hSd.trans k6, [], List.nodup_nil, by simp [k3], fun D h => by cases h⟩
    by_cases e : d = t
    · subst e
      rw [get_put_same] at hg
      cases hg
      exact kf d y rfl
    · rw [get_put_other e] at hg
      exact k4 t w hg
  · exfalso
    have : (Array.replicate ops.size false).getD tels.length false = false := by
      rw [Array.getD_eq_getD_getElem?]
      rcases Nat.lt_or_ge tels.length ops.size with h | h
      · simp [h]
      · rw [Array.getElem?_eq_none (by simpa using h)]; rfl
    rw [this] at hl
    cases hl
end Go.Sh
end
section
namespace Go.Sh
open Go.RowKit
set_option linter.unusedVariables false
set_option linter.unusedSimpArgs false

variable {P : Program} {nt : Nat} {fl : Bool}

/-- What lies at the places F may have changed, and there may be more; nothing else has. -/
structure Grow (F F' : List Nat) (H H' : List Blk) : Prop where
  len : H.length ≤ H'.length
  keep : ∀ p, p < H.length → p ∉ F → H'[p]? = H[p]?
  new : ∀ p, p ∈ F' → p ∈ F ∨ H.length ≤ p

theorem Grow.refl (F : List Nat) (H : List Blk) : Grow F F H H := ⟨Nat.le_refl _, fun _ _ _ => rfl, fun _ h => .inl h⟩

theorem Grow.trans {F F' F'' : List Nat} {H H' H'' : List Blk} (h : Grow F F' H H') (k : Grow F' F'' H' H'') : Grow F F'' H H'' where
  len := Nat.le_trans h.len k.len
  keep := fun p hp hn => (k.keep p (Nat.lt_of_lt_of_le hp h.len) (fun hm => by rcases h.new p hm with g | g; exact hn g; omega)).trans (h.keep p hp hn)
  new := fun p hp => by
    rcases k.new p hp with g | g
    · exact h.new p g
    · exact .inr (Nat.le_trans h.len g)

/-- The same where the loop's record at q has changed, too. -/
structure GrowQ (q : Nat) (F F' : List Nat) (H H' : List Blk) : Prop where
  len : H.length ≤ H'.length
  keep : ∀ p, p < H.length → p ∉ F → p ≠ q → H'[p]? = H[p]?
  new : ∀ p, p ∈ F' → p ∈ F ∨ H.length ≤ p

/-- Facts on the blocks at the places F. -/
structure Loc (J : Nat → List Nat → List Blk → Prop) : Prop where
  move : ∀ {i F H H'}, J i F H → H.length ≤ H'.length → (∀ p, p ∈ F → H'[p]? = H[p]?) → J i F H'
  lt : ∀ {i F H}, J i F H → ∀ p, p ∈ F → p < H.length

/-- **AN ITERATOR**: it yields these lists of values, one after the other, whatever the rounds do at their own places. -/
def IterJ (P : Program) (fv : V) (xs : List (List V)) : Prop :=
  ∀ (id : Nat) (J : Nat → List Nat → List Blk → Prop) (n : Nat) (st : Bool), n ≤ xs.length → (st = true → 0 < n) → (st = false → n = xs.length) → Loc J →
    (∀ i x F H, i < n → xs[i]? = some x → J i F H → SndX P (.yld id) x H fun r H' => r = .b (!(st && i + 1 == n)) ∧ ∃ F', J (i + 1) F' H' ∧ Grow F F' H H') →
    ∀ F H, J 0 F H → SndX P fv [.yld id] H fun r H' => r = .tup [] ∧ ∃ F', J n F' H' ∧ Grow F F' H H'

/-- How a loop over a function that yields len times is left behind n rounds. -/
def rngOk (n len : Nat) : Exit → Bool
  | .normal => n == len
  | .ret => decide (0 < n ∧ n ≤ len)
  | .exit _ => decide (0 < n ∧ n ≤ len)
  | _ => false

def jmpOf : Exit → Option Code
  | .ret => some .ret
  | .exit id => some (.exit id)
  | _ => none

def binds : Env → List Nat → List V → Env
  | E, p :: ps, v :: vs => binds (put E p v) ps vs
  | E, _, _ => E

theorem RE.put {c : Cx} {E : Env} {tmps : Array Value} (h : RE c E tmps) {p : Nat} (hp : p < tmps.size) {v : V} {u : Value} (hv : R c v u) : RE c (Sh.put E p v) (tmps.setIfInBounds p u) := by
  intro t v' hg
  by_cases e : p = t
  · subst e
    rw [get_put_same] at hg
    cases hg
    exact ⟨u, by simp [hp], hv⟩
  · rw [get_put_other e] at hg
    obtain ⟨u', h1, h2⟩ := h t v' hg
    exact ⟨u', by rw [Array.getElem?_setIfInBounds_ne e]; exact h1, h2⟩

theorem RE.binds {c : Cx} : ∀ {ps : List Nat} {vs : List V} {us : List Value} {E : Env} {tmps : Array Value}, RE c E tmps → RL c vs us → (∀ p ∈ ps, p < tmps.size) →
    RE c (Sh.binds E ps vs) ((ps.zip us).foldl (fun t (p, v) => t.setIfInBounds p v) tmps) ∧ ((ps.zip us).foldl (fun t (p, v) => t.setIfInBounds p v) tmps).size = tmps.size
  | [], vs, us, E, tmps, h, hl, hp => by cases vs <;> exact ⟨h, rfl⟩
  | p :: ps, [], us, E, tmps, h, hl, hp => by
    obtain rfl : us = [] := List.eq_nil_of_length_eq_zero (by simpa using hl.1.symm)
    exact ⟨h, rfl⟩
  | p :: ps, v :: vs, [], E, tmps, h, hl, hp => by have := hl.1; simp at this
  | p :: ps, v :: vs, u :: us, E, tmps, h, hl, hp => by
    have h1 := (h.put (hp p (by simp)) (hl.2 0 v u rfl rfl))
    have := RE.binds (ps := ps) h1 ⟨by simpa using hl.1, fun j v' u' e1 e2 => hl.2 (j + 1) v' u' (by simpa using e1) (by simpa using e2)⟩ (fun q hq => by simpa using hp q (by simp [hq]))
    exact ⟨this.1, this.2.trans (by simp)⟩

theorem putObj_setB (w : World) (l : Nat) (o : Obj) : w.putObj l o = setB w l o := rfl

/-- A loop's record is turned: its slots are not. -/
theorem RH.lpTurn {c : Cx} {H : List Blk} (h : RH c H) {id b sz : Nat} {r r' : Loop} {E : Env} (hb : H[id]? = some (.lp r E)) (hρ : c.ρ id = some (b, sz)) (ht : r'.tmps = r.tmps) :
    RH { c with w := setB c.w b (.loop r') } (H.set id (.lp r' E)) ∧ Stp c { c with w := setB c.w b (.loop r') } := by
  refine h.turned hb (by simp) hρ (by simp) ⟨setB_same (h.lt hρ), ?_⟩
  obtain ⟨b', sz', h1, h2, h3, h4⟩ := h.live id _ hb (by simp)
  rw [ht]
  exact h4.mono ⟨fun i hi hx => ⟨setB_other (fun e => hx (e ▸ h.ownX hρ)), hx⟩, Nat.le_refl _, fun _ _ => .inl rfl⟩

/-- A round's record. -/
def busyL (r : Loop) : Loop := { r with state := .busy }
def leftL (r : Loop) (e : Exit) : Loop := { r with state := if (jmpOf e).isNone then .ready else .done, pending := jmpOf e }

/-- **YIELD** at a loop whose round runs so. -/
theorem snd_yld {id : Nat} {r : Loop} {E : Env} {x : List V} {H : List Blk} {K : V → List Blk → Prop} {ex : Exit} (hid : H[id]? = some (.lp r E)) (hr : r.state = .ready) (hsz : r.tmps.size = nt) (hps : ∀ p ∈ r.params.toList, p < nt) (hx : x.length = r.params.size)
    (hex : ex = .normal ∨ ex = .ret ∨ ∃ k, ex = .exit k)
    (hround : AW P nt false r.assign (binds E r.params.toList x) H (th (fun E1 H1 => H1[id]? = some (.lp r E) ∧ AW P nt false r.body E1 (H1.set id (.lp (busyL r) E)) fun e1 _ H3 => e1 = ex ∧ H3[id]? = some (.lp (busyL r) E) ∧ K (.b (jmpOf ex).isNone) (H3.set id (.lp (leftL r ex) E))) fun _ _ _ => False)) :
    SndX P (.yld id) x H K := by
  intro c hH fu us hfu hargs
  cases hfu with
  | yld _ a hi hp =>
    refine ⟨{ target := .fn (.yield a) #[], args := us.toArray }, by simp [Deferred.ofValue, Sem.pure]; rfl, ?_⟩
    obtain ⟨b, sz, h1, h2, h3, h4⟩ := hH.live id _ hid (by simp)
    obtain rfl := hp b sz h1
    have hy := run_yield (P := P) (args := us.toArray) h3 (by rw [← hx]; simpa using hargs.1.symm)
    have hinv : (invoke (.fn (.yield a) #[]) us.toArray).run P c.w = .ok (.round a r.fn ((r.params.zip us.toArray).foldl (fun tmps (t, a) => tmps.setIfInBounds t a) r.tmps) r.assign r.body) c.w := by
      simp only [invoke]
      exact hy
    simp only [Inv, hinv]
    intro m
    refine roundIn_of_wpIn trivial ?_
    have hz : (r.params.zip us.toArray).foldl (fun tmps (t, a) => tmps.setIfInBounds t a) r.tmps = (r.params.toList.zip us).foldl (fun t (p, v) => t.setIfInBounds p v) r.tmps := by
      rw [← Array.foldl_toList]; simp
    have hb := RE.binds (ps := r.params.toList) h4 hargs (by rw [hsz]; exact hps)
    rw [← hz] at hb
    refine wpIn_mono (hround (some a) m { tmps := _, defers := [] } c (by rw [hb.2, hsz]) hb.1 hH (fun h => by cases h)) ?_
    rintro e a1 w1 ⟨E1, H1, c1, rfl, g1, g2, g3, g4, g5, g6⟩
    cases e with
    | normal =>
      obtain ⟨k1, k2⟩ := g1
      have hrho : c1.ρ id = some (a, sz) := by
        obtain ⟨b', sz', q1, _⟩ := g4.live id _ k1 (by simp)
        rcases g5.ρ id (by rw [hH.N]; exact (List.getElem?_eq_some_iff.1 hid).1) with e | e
        · rw [e, h1]
        · rw [e] at q1; cases q1
      obtain ⟨b', sz', q1, q2, q3, q4⟩ := g4.live id _ k1 (by simp)
      rw [hrho] at q1
      cases q1
      obtain ⟨t1, t2⟩ := g4.lpTurn (r' := busyL r) k1 hrho rfl
      refine ⟨_, run_beginRound q3 hr, ?_⟩
      rw [putObj_setB]
      refine wpIn_mono (k2 (some a) m a1 { c1 with w := setB c1.w a (.loop (busyL r)) } g2 (g3.mono (t2.sub g4)) t1 (fun h => by cases h)) ?_
      rintro e a2 w2 ⟨E2, H3, c2, rfl, ⟨rfl, hid2, hK⟩, l2, l3, l4, l5, l6⟩
      have hrho2 : c2.ρ id = some (a, sz) := by
        obtain ⟨b', sz', q1, _⟩ := l4.live id _ hid2 (by simp)
        rcases l5.ρ id (by rw [t1.N]; simpa using (List.getElem?_eq_some_iff.1 k1).1) with e | e
        · rw [e]; exact hrho
        · rw [e] at q1; cases q1
      obtain ⟨b', sz', q1, q2', q3', q4'⟩ := l4.live id _ hid2 (by simp)
      rw [hrho2] at q1
      cases q1
      obtain ⟨t3, t4⟩ := l4.lpTurn (r' := leftL r e) hid2 hrho2 rfl
      have he := run_endRound (P := P) (jmpOf e) q3'
      have fin : ∃ v w', (Instr.endRound a (jmpOf e)).run P c2.w = .ok v w' ∧ ∃ v', (Ending.returned v : Ending) = .returned v' ∧ ∃ r' H', K r' H' ∧ Post c H' r' v' w' :=
        ⟨_, _, he, _, rfl, _, _, hK, _, rfl, t3, .b _, (g5.trans t2).trans (l5.trans t4)⟩
      rcases hex with rfl | rfl | ⟨k, rfl⟩
      · exact fin
      · exact fin
      · exact fin
    | _ => exact g1.elim

/-- Where a function that is called is entered. -/
def isFn (P : Program) (g : FuncId) : Prop := ∃ fn, P.funcs[g]? = some fn ∧ (fn.name == "runtime.NumGoroutine") = false ∧ fn.body.isSome = true

/-- The record of a loop, and the block where a round's deferred calls would lie, are laid. -/
theorem RH.layLoop {c : Cx} {H : List Blk} (hH : RH c H) {E : Env} {r : Loop} (hE : RE c E r.tmps) :
    ∃ c2 : Cx, c2.w = (c.w.alloc (.deferred (some []))).alloc (.loop r) ∧ RH c2 (H ++ [.lp r E]) ∧ Stp c c2 ∧ c2.ρ H.length = some (c.w.heap.size + 1, 0) ∧
      c2.w.heap[c.w.heap.size]? = some (.deferred (some [])) ∧ c2.X c.w.heap.size ∧ ∀ id sz, c2.ρ id ≠ some (c.w.heap.size, sz) := by
  let cD : Cx := { w := c.w.alloc (.deferred (some [])), X := fun b => c.X b ∨ b = c.w.heap.size, ρ := c.ρ, N := c.N }
  have hst : Stp c cD := ⟨rfl, rfl, rfl, by simp [cD], fun b hb _ => Below.heap_alloc _ _ _ hb, fun b hb => by simp only [cD]; constructor; (rintro (h | h); exact h; omega); exact fun _ => .inl, Nat.le_refl _, fun _ _ => .inl rfl, fun id b sz e => .inr ⟨id, sz, e⟩, Nat.le_refl _⟩
  have hsub := hst.sub hH
  have hD : RH cD H := by
    refine ⟨hH.N, ?_, hH.gone, ?_, hH.inj⟩
    · intro b hb
      simp only [cD, World.size_alloc]
      rcases hb with h | h
      · have := hH.X b h; omega
      · omega
    · intro id blk hb hd
      obtain ⟨b, sz, h1, h2, h3⟩ := hH.live id blk hb hd
      exact ⟨b, sz, h1, .inl h2, h3.move (Below.heap_alloc _ _ _ (hH.lt h1)) hsub⟩
  have hsz : cD.w.heap.size = c.w.heap.size + 1 := by simp [cD]
  have hm := hD.stp_more (.loop r) 0
  have hL := hD.alloc (o := .loop r) (sz := 0) (blk := .lp r E) (by simp) ⟨alloc_new _ _, (hE.mono hsub).mono (hm.sub hD)⟩
  refine ⟨more cD (.loop r) 0, rfl, hL, hst.trans hm, ?_, ?_, ?_, ?_⟩
  · simp only [more]
    rw [if_pos (by show H.length = c.N; rw [hH.N]), hsz]
  · exact (Below.heap_alloc _ _ _ (by omega)).trans (alloc_new c.w _)
  · exact .inl (.inr rfl)
  · intro id sz e
    simp only [more] at e
    split at e
    · simp only [Option.some.injEq, Prod.mk.injEq] at e; omega
    · have := hH.lt e; omega

/-- **A LOOP OVER A FUNCTION.** -/
theorem AW_rng (hfl : fl = true) {f : Operand} {ps : Array Nat} {as bd : Code} {x : A} (hl : lowA f = some x) (hps : ∀ p ∈ ps.toList, p < nt) {E : Env} {H : List Blk} {Q : Exit → Env → List Blk → Prop}
    {g : FuncId} {fs cs : List V} (hx : ev E x = .fn (.func g) fs cs) (hg : isFn P g) (xs : List (List V)) (n : Nat) (ex : Exit) (J : Nat → List Nat → List Blk → Prop) (F0 : List Nat) (hit : IterJ P (ev E x) xs) (hok : rngOk n xs.length ex = true)
    (hJ : Loc J) (h0 : J 0 F0 H)
    (hr : ∀ (L Lb : Blk) i y F H1, i < n → xs[i]? = some y → J i F H1 → H.length ∉ F → H1[H.length]? = some L → y.length = ps.size ∧ AW P nt false as (binds E ps.toList y) H1 (th (fun E1 H2 => H2[H.length]? = some L ∧
      AW P nt false bd E1 (H2.set H.length Lb) fun e1 _ H3 => e1 = (if i + 1 = n then ex else .normal) ∧ H3[H.length]? = some Lb ∧ ∃ F', J (i + 1) F' H3 ∧ GrowQ H.length F F' H1 H3) fun _ _ _ => False))
    (hQ : ∀ F' H', J n F' H' → Grow F0 F' (H ++ [.dead]) H' → Q ex E H') : AW P nt fl (.rangeFunc f ps as bd) E H Q := by
  intro rd n0 a c hsz hE hH hrd
  obtain rfl : rd = none := hrd hfl
  refine wpIn_rangeFunc ?_
  intro fn hfn
  obtain ⟨r, hrr⟩ : ∃ r : Loop, r = { state := .ready, pending := none, fn, tmps := a.tmps, params := ps, assign := as, body := bd, defers := c.w.heap.size } := ⟨_, rfl⟩
  have hrt : r.tmps = a.tmps := by rw [hrr]
  obtain ⟨c2, hw2, hH2, hst, hρ, hD1, hD2, hD3⟩ := hH.layLoop (r := r) (E := E) (by rw [hrt]; exact hE)
  have hexk : ex = .normal ∨ ex = .ret ∨ ∃ k, ex = .exit k := by
    cases ex with
    | normal => exact .inl rfl
    | ret => exact .inr (.inl rfl)
    | exit k => exact .inr (.inr ⟨k, rfl⟩)
    | _ => simp [rngOk] at hok
  have hnle : n ≤ xs.length := by cases ex <;> simp [rngOk] at hok <;> omega
  have hleft : leftL r .normal = r := by rw [hrr]; rfl
  -- the loop's record lies beside what the rounds' facts speak of
  let J' : Nat → List Nat → List Blk → Prop := fun i F H1 => ∃ F1, F = H.length :: F1 ∧ J i F1 H1 ∧ H.length ∉ F1 ∧ H1[H.length]? = some (.lp (if i = n then leftL r ex else r) E)
  have hJ' : Loc J' := by
    refine ⟨?_, ?_⟩
    · rintro i F H1 H2 ⟨F1, rfl, h1, h2, h3⟩ hlen hk
      exact ⟨F1, rfl, hJ.move h1 hlen (fun p hp => hk p (by simp [hp])), h2, (hk H.length (by simp)).trans h3⟩
    · rintro i F H1 ⟨F1, rfl, h1, h2, h3⟩ p hp
      rcases List.mem_cons.1 hp with rfl | hp
      · exact (List.getElem?_eq_some_iff.1 h3).1
      · exact hJ.lt h1 p hp
  have hsnd := hit H.length J' n (!(jmpOf ex).isNone) hnle
    (by intro h; cases ex <;> simp [rngOk, jmpOf] at hok h <;> omega)
    (by intro h; cases ex <;> simp [rngOk, jmpOf] at hok h <;> omega) hJ' (by
      rintro i y F H1 hi hy ⟨F1, rfl, h1, h2, h3⟩
      rw [if_neg (by omega)] at h3
      obtain ⟨q1, q2⟩ := hr (.lp r E) (.lp (busyL r) E) i y F1 H1 hi hy h1 h2 h3
      have hrp : r.params = ps := by rw [hrr]
      have hlt := (List.getElem?_eq_some_iff.1 h3).1
      have e3 : (jmpOf (if i + 1 = n then ex else .normal)).isNone = !(!(jmpOf ex).isNone && i + 1 == n) := by
        by_cases h : i + 1 = n
        · simp [h]
        · simp [h, jmpOf]
      have e4 : leftL r (if i + 1 = n then ex else .normal) = if i + 1 = n then leftL r ex else r := by
        split
        · rfl
        · exact hleft
      refine snd_yld (P := P) (nt := nt) (id := H.length) (r := r) (E := E) (x := y) (H := H1) (ex := if i + 1 = n then ex else .normal)
        h3 (by rw [hrr]) (by rw [hrt]; exact hsz) (by rw [hrp]; exact hps) (by rw [hrp]; exact q1) (by split; exact hexk; exact .inl rfl) ?_
      rw [hrp, show r.assign = as by rw [hrr], show r.body = bd by rw [hrr]]
      refine q2.mono fun e E1 H2 hq => ?_
      cases e with
      | normal =>
        obtain ⟨k1, k2⟩ := hq
        refine ⟨k1, k2.mono ?_⟩
        rintro e1 E2 H3 ⟨rfl, k3, F', k4, k5⟩
        have hF' : H.length ∉ F' := fun hm => by
          rcases k5.new _ hm with g | g
          · exact h2 g
          · omega
        refine ⟨rfl, k3, by rw [e3], H.length :: F', ⟨F', rfl, ?_, hF', ?_⟩, ?_⟩
        · exact hJ.move k4 (by simp) (fun p hp => List.getElem?_set_ne (fun e => hF' (by rw [e]; exact hp)))
        · rw [e4, List.getElem?_set_self (by have := k5.len; omega)]
        · refine ⟨by simpa using k5.len, fun p hp hn => ?_, fun p hp => ?_⟩
          · simp at hn
            rw [List.getElem?_set_ne (fun e => hn.1 e.symm)]
            exact k5.keep p hp hn.2 hn.1
          · rcases List.mem_cons.1 hp with rfl | hp
            · exact .inl (by simp)
            · exact (k5.new p hp).imp (by intro h; simp [h]) id
      | _ => exact hq) (H.length :: F0) (H ++ [.lp r E]) ⟨F0, rfl, hJ.move h0 (by simp) (fun p hp => by rw [List.getElem?_append_left (hJ.lt h0 p hp)]), fun hm => by have := hJ.lt h0 _ hm; omega, by
        split
        · rename_i h
          subst h
          have : ex = .normal := by cases ex <;> simp [rngOk] at hok <;> rfl
          rw [this, hleft]; simp
        · simp⟩
  have hRx : R c2 (ev E x) (a.eval f) := (evA hE hl).mono (hst.sub hH)
  have hy : R c2 (.yld H.length) (.func (.yield (c.w.heap.size + 1)) #[] #[]) := .yld _ _ (by rw [hH2.N]; simp) (fun b sz e => by rw [hρ] at e; cases e; rfl)
  obtain ⟨d, hd, hi⟩ := hsnd c2 hH2 (a.eval f) [.func (.yield (c.w.heap.size + 1)) #[] #[]] hRx ⟨rfl, fun j v u e1 e2 => by
    cases j with
    | zero => simp at e1 e2; subst e1 e2; exact hy
    | succ j => simp at e1⟩
  -- the call
  obtain ⟨us, vs, hfu⟩ : ∃ us vs, a.eval f = .func (.func g) us vs := by
    rw [hx] at hRx
    generalize a.eval f = u at hRx
    cases hRx with
    | fn _ _ _ us vs _ _ _ _ => exact ⟨_, _, rfl⟩
  have hd' : d = { target := .fn (.func g) vs, args := us ++ #[.func (.yield (c.w.heap.size + 1)) #[] #[]] } := by
    rw [hfu] at hd
    have : (Sem.pure { target := Target.fn (.func g) vs, args := us ++ [Value.func (.yield (c.w.heap.size + 1)) #[] #[]].toArray } : Sem Deferred) = Sem.pure d := hd
    injection this with h; exact h.symm
  obtain ⟨fn', hf1, hf2, hf3⟩ := hg
  have hinv : (invoke d.target d.args).run P c2.w = .ok (.enter g (us ++ #[.func (.yield (c.w.heap.size + 1)) #[] #[]] ++ vs)) c2.w := by
    rw [hd']
    simp only [invoke]
    rw [run_callFunc hf1 hf2 hf3]
  simp only [Inv, hinv] at hi
  refine ⟨c.w.heap.size + 1, [{ target := .collected c.w.heap.size, args := #[] }], c2.w, d, c2.w, g, _, c2.w, ?_, ?_, ?_, hinv, (fun h => by simp [fnc, Fence.wide] at h), ?_⟩
  · rw [hw2, hrr]
    exact run_enterLoop_outer _ _ _ _ _
  · simp only [resolve, rangeCall]
    have : (#[Operand.const (.func (.yield (c.w.heap.size + 1)) #[] #[])].map a.eval) = [Value.func (.yield (c.w.heap.size + 1)) #[] #[]].toArray := by simp [Act.eval]
    rw [this, hd]
    rfl
  · intro f' _; exact fnc_fn none f'
  · refine callsIn_wide.2 (hi.mono ?_)
    rintro e w3 ⟨v, rfl, r3, Hn, ⟨rfl, F3, ⟨F4, rfl, j1, j2, hid3⟩, j3⟩, c3, rfl, k1, k2, k3⟩
    rw [if_pos rfl] at hid3
    obtain ⟨b, sz, q1, q2, q3, q4⟩ := k1.live _ _ hid3 (by simp)
    have hρ3 : c3.ρ H.length = some (c.w.heap.size + 1, 0) := by
      rcases k3.ρ H.length (by rw [hH2.N]; simp) with e | e
      · rw [e, hρ]
      · rw [e] at q1; cases q1
    rw [hρ3] at q1
    cases q1
    have hnb : (leftL r ex).state ≠ .busy := by rcases hexk with rfl | rfl | ⟨k, rfl⟩ <;> simp [leftL, jmpOf]
    have hend := run_endLoop (P := P) q3 hnb
    obtain ⟨t1, t2⟩ := k1.lpTurn (r' := { leftL r ex with state := .exhausted }) hid3 hρ3 rfl
    have t3 := t1.without H.length
    rw [List.set_set] at t3
    have hlt3 := (List.getElem?_eq_some_iff.1 hid3).1
    have hQ' : Q ex E (Hn.set H.length .dead) := by
      refine hQ F4 _ (hJ.move j1 (by simp) (fun p hp => List.getElem?_set_ne (fun e => j2 (by rw [e]; exact hp)))) ⟨by have := j3.len; simp at this ⊢; omega, fun p hp hn => ?_, fun p hp => ?_⟩
      · simp at hp
        rcases Nat.lt_or_ge p H.length with h | h
        · rw [List.getElem?_set_ne (by omega), j3.keep p (by simp; omega) (by simp; exact ⟨by omega, hn⟩), List.getElem?_append_left h, List.getElem?_append_left h]
        · obtain rfl : p = H.length := by omega
          rw [List.getElem?_set_self hlt3]; simp
      · rcases j3.new p (by simp [hp]) with g | g
        · rcases List.mem_cons.1 g with rfl | g
          · exact absurd hp j2
          · exact .inl g
        · exact .inr (by simpa using g)
    have t4 := Stp.without (c := { c3 with w := setB c3.w (c.w.heap.size + 1) (.loop { leftL r ex with state := .exhausted }) }) H.length
    have hstp : Stp c2 (without { c3 with w := setB c3.w (c.w.heap.size + 1) (.loop { leftL r ex with state := .exhausted }) } H.length) := (k3.trans t2).trans t4
    have fin : APost nt c a Q ex { a with defers := [{ target := .collected c.w.heap.size, args := #[] }] ++ a.defers } (c3.w.putObj (c.w.heap.size + 1) (.loop { leftL r ex with state := .exhausted })) := by
      refine ⟨E, _, without { c3 with w := setB c3.w (c.w.heap.size + 1) (.loop { leftL r ex with state := .exhausted }) } H.length, rfl, hQ', hsz, ?_, t3, hst.trans hstp, [c.w.heap.size], by simp, rfl, ?_⟩
      · exact (hE.mono (hst.sub hH)).mono (hstp.sub hH2)
      · intro D hD
        obtain rfl : D = c.w.heap.size := by simpa using hD
        have hlt := lt_of_get hD1
        refine ⟨Nat.le_refl _, (hstp.keep _ hlt hD3).trans hD1, (hstp.X _ hlt).2 hD3 hD2, fun id sz e => ?_⟩
        rcases hstp.own id _ sz e with g | ⟨id0, sz0, g⟩
        · omega
        · exact hD3 id0 sz0 g
    have hpend : (leftL r ex).pending = jmpOf ex := rfl
    refine ⟨_, _, hend, ?_⟩
    rw [hpend]
    rcases hexk with rfl | rfl | ⟨k, rfl⟩
    · exact fin
    · exact wpIn_ret fin
    · exact wpIn_exit fin
end Go.Sh
end
section
namespace Go.Sh
open Go.RowKit
set_option linter.unusedVariables false
set_option linter.unusedSimpArgs false
variable {P : Program}

/-- The blocks that k names are dead. -/
def killB (k : Nat → Bool) (H : List Blk) : List Blk := H.mapIdx fun i b => if k i then .dead else b
theorem killB_length (k : Nat → Bool) (H : List Blk) : (killB k H).length = H.length := by simp [killB]
theorem killB_get (k : Nat → Bool) (H : List Blk) (i : Nat) : (killB k H)[i]? = (H[i]?).map fun b => if k i then .dead else b := by simp [killB, List.getElem?_mapIdx]
theorem killB_keep {k : Nat → Bool} {H : List Blk} {i : Nat} (h : k i = false) : (killB k H)[i]? = H[i]? := by rw [killB_get, h]; simp

/-- Lists of blocks that k names are read as lists from now on. -/
inductive Give (k : Nat → Bool) (H : List Blk) : V → V → Prop
  | keep (v : V) : Give k H v v
  | sl (id kk off len cap : Nat) (ex : Bool) (rows rows' : List (List V)) : k id = true → H[id]? = some (.row kk rows) → off + len ≤ rows.length → rows'.length = len → (∀ row ∈ rows', belL 0 row = true) →
      (∀ (i : Nat) (row row' : List V), ((rows.drop off).take len)[i]? = some row → rows'[i]? = some row' → row.length = row'.length) →
      (∀ (i : Nat) (row row' : List V) (j : Nat) (v v' : V), ((rows.drop off).take len)[i]? = some row → rows'[i]? = some row' → row[j]? = some v → row'[j]? = some v' → Give k H v v') →
      Give k H (.rsl id kk off len cap ex) (.fsl rows')
  | nil : Give k H .nsl (.fsl [])
  | emp : Give k H .fs0 (.fsl [])
  | agg (cs cs' : List V) : cs.length = cs'.length → (∀ (j : Nat) (v v' : V), cs[j]? = some v → cs'[j]? = some v' → Give k H v v') → Give k H (.agg cs) (.agg cs')
  | tup (cs cs' : List V) : cs.length = cs'.length → (∀ (j : Nat) (v v' : V), cs[j]? = some v → cs'[j]? = some v' → Give k H v v') → Give k H (.tup cs) (.tup cs')
  | pt (id kk r off : Nat) (rows : List (List V)) (row row' : List V) : k id = true → H[id]? = some (.row kk rows) → rows[r]? = some row → row.length = row'.length → belL 0 row' = true →
      (∀ (j : Nat) (v v' : V), row[j]? = some v → row'[j]? = some v' → Give k H v v') → Give k H (.rpt id kk r off) (.fpt row' off)
  | fn (f : Fn) (fs fs' cs cs' : List V) : fs.length = fs'.length → cs.length = cs'.length → (∀ (j : Nat) (v v' : V), fs[j]? = some v → fs'[j]? = some v' → Give k H v v') →
      (∀ (j : Nat) (v v' : V), cs[j]? = some v → cs'[j]? = some v' → Give k H v v') → Give k H (.fn f fs cs) (.fn f fs' cs')
  | ifc (t : TypeId) (v v' : V) : Give k H v v' → Give k H (.ifc t v) (.ifc t v')

/-- The context where they are nobody's. -/
def gave (c : Cx) (k : Nat → Bool) : Cx := { w := c.w, X := fun b => c.X b ∧ ∀ id sz, k id = true → c.ρ id ≠ some (b, sz), ρ := fun id => if k id then none else c.ρ id, N := c.N }

theorem gave_sub (c : Cx) (k : Nat → Bool) : Sub c (gave c k) := ⟨fun b _ hx => ⟨rfl, fun h => hx h.1⟩, Nat.le_refl _, fun id _ => by simp only [gave]; split <;> simp⟩
theorem gave_stp (c : Cx) (k : Nat → Bool) : Stp c (gave c k) := ⟨rfl, rfl, rfl, Nat.le_refl _, fun _ _ _ => rfl, fun b _ => ⟨fun h => h.1, fun hn h => ⟨h, fun id sz _ => hn id sz⟩⟩, Nat.le_refl _, fun id _ => by simp only [gave]; split <;> simp,
  fun id b sz e => by
    simp only [gave] at e
    split at e
    · cases e
    · exact .inr ⟨id, sz, e⟩, Nat.le_refl _⟩
theorem gave_RH {c : Cx} {H : List Blk} (h : RH c H) (k : Nat → Bool) : RH (gave c k) (killB k H) := by
  refine ⟨by simp [gave, killB_length, h.N], fun b hb => h.X b hb.1, fun id hid => ?_, fun id blk hb hd => ?_, fun id id' b s s' e e' => ?_⟩
  · simp only [gave]
    split
    · rfl
    · rename_i hk
      rw [killB_keep (by simpa using hk)] at hid
      exact h.gone id hid
  · cases hk : k id with
    | true =>
      rw [killB_get, hk] at hb
      simp at hb
      exact absurd hb.2.symm hd
    | false =>
      rw [killB_keep hk] at hb
      obtain ⟨b, sz, h1, h2, h3⟩ := h.live id blk hb hd
      refine ⟨b, sz, by simp [gave, hk, h1], ⟨h2, fun id' sz' hk' e => ?_⟩, h3.move rfl (gave_sub c k)⟩
      have := h.inj id id' b sz sz' h1 e
      subst this
      rw [hk] at hk'; cases hk'
  · simp only [gave] at e e'
    split at e
    · cases e
    · split at e'
      · cases e'
      · exact h.inj id id' b s s' e e'

theorem give_R {c : Cx} {H : List Blk} (hH : RH c H) {k : Nat → Bool} {v r : V} (hf : Give k H v r) : ∀ {u : Value}, R c v u → R (gave c k) r u := by
  have hsub := gave_sub c k
  induction hf with
  | nil => intro u h; cases h; exact .fsl0 none 0 (fun _ => rfl)
  | emp => intro u h; cases h; exact .fsl0 _ 0 (fun _ => rfl)
  | keep v => intro u h; exact h.mono hsub
  | sl id kk off len cap ex rows rows' hid hb hle hl hbel hel _ ih =>
    intro u h
    cases h with
    | rsl _ _ _ _ _ _ a q hi hsp hlq hcq hex hp =>
      obtain ⟨b, sz, hρ, _, cells, e, g1, g2, g3, g4, g5, g6⟩ := hH.live id _ hb (by simp)
      obtain ⟨p1, p2⟩ := hp b sz hρ
      by_cases h0 : len = 0
      · subst h0
        have : rows' = [] := List.eq_nil_of_length_eq_zero hl
        subst this
        exact .fsl0 (some a) q (by simp)
      · rw [p1 (by omega)]
        subst hl
        have htl : ((rows.drop off).take rows'.length).length = rows'.length := take_len hle
        refine .fsl rows' b (off * kk) kk q cells e (0, 0) g1 (fun hx => hx.2 id sz hid hρ) ?_ ?_ hlq hbel ?_
        · intro row' hr'
          obtain ⟨i, hi'⟩ := List.getElem?_of_mem hr'
          have hil := (List.getElem?_eq_some_iff.1 hi').1
          have hrow : ((rows.drop off).take rows'.length)[i]? = some (((rows.drop off).take rows'.length)[i]'(by omega)) := by simp [htl, hil]
          rw [← hel i _ row' hrow hi']
          exact g3 _ (List.mem_of_mem_drop (List.mem_of_mem_take (List.getElem_mem _)))
        · have : (off + rows'.length) * kk ≤ rows.length * kk := Nat.mul_le_mul_right _ hle
          rw [Nat.add_mul] at this
          omega
        · intro i row' j v' u' h1 h2 h3
          have hil := (List.getElem?_eq_some_iff.1 h1).1
          have hrow : ((rows.drop off).take rows'.length)[i]? = some (((rows.drop off).take rows'.length)[i]'(by omega)) := by simp [htl, hil]
          have e1 := hel i _ row' hrow h1
          have hjl : j < (((rows.drop off).take rows'.length)[i]'(by omega)).length := by rw [e1]; exact (List.getElem?_eq_some_iff.1 h2).1
          have hv : (((rows.drop off).take rows'.length)[i]'(by omega))[j]? = some ((((rows.drop off).take rows'.length)[i]'(by omega))[j]) := by simp [hjl]
          refine ih i _ row' j _ v' hrow h1 hv h2 ?_
          rw [List.getElem?_take, if_pos hil, List.getElem?_drop] at hrow
          refine g6 (off + i) _ j _ u' hrow hv ?_
          rw [Nat.zero_add, Nat.add_mul]
          exact h3
  | agg cs cs' hl _ ih =>
    intro u h
    obtain ⟨us, rfl, h1, h2⟩ := h.agg_inv
    refine .agg cs' us (by omega) (fun j v' u' e1 e2 => ?_)
    have hjl : j < cs.length := by rw [hl]; exact (List.getElem?_eq_some_iff.1 e1).1
    have hv : cs[j]? = some cs[j] := by simp [hjl]
    exact ih j _ v' hv e1 (h2 j _ u' hv e2)
  | tup cs cs' hl _ ih =>
    intro u h
    obtain ⟨us, rfl, h1, h2⟩ := h.tup_inv
    refine .tup cs' us (by omega) (fun j v' u' e1 e2 => ?_)
    have hjl : j < cs.length := by rw [hl]; exact (List.getElem?_eq_some_iff.1 e1).1
    have hv : cs[j]? = some cs[j] := by simp [hjl]
    exact ih j _ v' hv e1 (h2 j _ u' hv e2)
  | pt id kk r off rows row row' hid hb hr hl hbel _ ih =>
    intro u h
    cases h with
    | rpt _ _ _ _ ad hi _ hp =>
      obtain ⟨b, sz, hρ, ⟨cells, e, fz, g1, g2, g3⟩, hk⟩ := hH.seen hb hr
      rw [hp b sz hρ]
      refine .fpt row' off b (r * kk) cells e fz g1 (fun hx => hx.2 id sz hid hρ) (by omega) hbel (fun j v' u' e1 e2 => ?_)
      have hjl : j < row.length := by rw [hl]; exact (List.getElem?_eq_some_iff.1 e1).1
      have hv : row[j]? = some row[j] := by simp [hjl]
      exact ih j _ v' hv e1 (g3 j _ u' hv e2)
  | fn f fs fs' cs cs' h1 h2 _ _ ih1 ih2 =>
    intro u h
    cases h with
    | fn _ _ _ us vs k1 k2 k3 k4 =>
      refine .fn f fs' cs' us vs (by omega) (by omega) (fun j v' u' e1 e2 => ?_) (fun j v' u' e1 e2 => ?_)
      · have hjl : j < fs.length := by rw [h1]; exact (List.getElem?_eq_some_iff.1 e1).1
        have hv : fs[j]? = some fs[j] := by simp [hjl]
        exact ih1 j _ v' hv e1 (k3 j _ u' hv e2)
      · have hjl : j < cs.length := by rw [h2]; exact (List.getElem?_eq_some_iff.1 e1).1
        have hv : cs[j]? = some cs[j] := by simp [hjl]
        exact ih2 j _ v' hv e1 (k4 j _ u' hv e2)
  | ifc t v v' _ ih =>
    intro u h
    cases h with
    | ifc _ _ u0 h0 => exact .ifc t v' u0 (ih h0)

/-- Arguments, one by one. -/
def GiveL (k : Nat → Bool) (H : List Blk) (args args' : List V) : Prop := args.length = args'.length ∧ ∀ (j : Nat) (v v' : V), args[j]? = some v → args'[j]? = some v' → Give k H v v'
theorem GiveL.nil {k : Nat → Bool} {H : List Blk} : GiveL k H [] [] := ⟨rfl, fun j v v' e => by simp at e⟩
theorem GiveL.cons {k : Nat → Bool} {H : List Blk} {v v' : V} {a a' : List V} (h : Give k H v v') (hl : GiveL k H a a') : GiveL k H (v :: a) (v' :: a') := ⟨by simp [hl.1], fun j x x' e1 e2 => by
  cases j with
  | zero => simp at e1 e2; subst e1 e2; exact h
  | succ j => exact hl.2 j x x' (by simpa using e1) (by simpa using e2)⟩
theorem GiveL.same {k : Nat → Bool} {H : List Blk} (a : List V) : GiveL k H a a := ⟨rfl, fun j x x' e1 e2 => by rw [e1] at e2; cases e2; exact .keep _⟩

theorem GiveL.R {c : Cx} {H : List Blk} (hH : RH c H) {k : Nat → Bool} {args args' : List V} (h : GiveL k H args args') {us : List Value} (hu : RL c args us) : RL (gave c k) args' us := by
  refine ⟨by rw [← h.1]; exact hu.1, fun j v' u e1 e2 => ?_⟩
  have hj : j < args.length := by rw [h.1]; exact (List.getElem?_eq_some_iff.1 e1).1
  have hv : args[j]? = some args[j] := by simp [hj]
  exact give_R hH (h.2 j _ v' hv e1) (hu.2 j _ u hv e2)

/-- **GIVEN**: the callee, and all that comes behind, reads them as lists. -/
theorem sndx_give {fv : V} {args args' : List V} {H : List Blk} {K : V → List Blk → Prop} (k : Nat → Bool) (ha : GiveL k H args args') (h : SndX P fv args' (killB k H) K) : SndX P fv args H K := by
  intro c hH fu us hfu hargs
  obtain ⟨d, hd, hi⟩ := h (gave c k) (gave_RH hH k) fu us (hfu.mono (gave_sub c k)) (ha.R hH hargs)
  refine ⟨d, hd, hi.mono ?_⟩
  rintro v w' ⟨r, H', hk, c2, rfl, h1, h2, h3⟩
  exact ⟨r, H', hk, c2, rfl, h1, h2, (gave_stp c k).trans h3⟩

theorem snd_give {fv : V} {args args' : List V} {H H' : List Blk} {r : V} (k : Nat → Bool) (ha : GiveL k H args args') (h : SndC P fv args' (killB k H) r H') : SndC P fv args H r H' := by
  intro c hH fu us hfu hargs
  obtain ⟨d, hd, hi⟩ := h (gave c k) (gave_RH hH k) fu us (hfu.mono (gave_sub c k)) (ha.R hH hargs)
  refine ⟨d, hd, hi.mono ?_⟩
  rintro v w' ⟨c2, rfl, h1, h2, h3⟩
  exact ⟨c2, rfl, h1, h2, (gave_stp c k).trans h3⟩

theorem callI_give {d : Bool} {fv : V} {args args' : List V} {H : List Blk} {K : V → List Blk → Prop} (k : Nat → Bool) (ha : GiveL k H args args') (h : callI d P fv args' (killB k H) K) : callI d P fv args H K := by
  cases d with
  | true =>
    obtain ⟨r, H', h1, h2⟩ := h
    exact ⟨r, H', snd_give k ha h1, h2⟩
  | false => exact sndx_give k ha h

/-! ### lent: they come back -/
def Blk.flat : Blk → Prop
  | .row _ rows => ∀ row ∈ rows, flatL row = true
  | .mp es => ∀ e ∈ es, e.1.flat = true ∧ e.2.flat = true
  | .lp _ _ => False
  | .dead => True
theorem flatL_mem : ∀ {l : List V} {v : V}, flatL l = true → v ∈ l → v.flat = true := fun h hv => by
  obtain ⟨j, hj⟩ := List.getElem?_of_mem hv
  exact flatL_get h hj
theorem Blk.flat_has {blk : Blk} (h : blk.flat) {v : V} (hv : blk.has v) : v.flat = true := by
  cases blk with
  | row k rows => obtain ⟨row, hr, hv⟩ := hv; exact flatL_mem (h row hr) hv
  | mp es => obtain ⟨e, he, hv⟩ := hv; rcases hv with rfl | rfl; exact (h e he).1; exact (h e he).2
  | lp _ _ => exact h.elim
  | dead => exact hv.elim

def restB (k : Nat → Bool) (H H' : List Blk) : List Blk := H'.mapIdx fun i b => if k i then (H[i]?).getD b else b
theorem restB_length (k : Nat → Bool) (H H' : List Blk) : (restB k H H').length = H'.length := by simp [restB]
theorem restB_get (k : Nat → Bool) (H H' : List Blk) (i : Nat) : (restB k H H')[i]? = (H'[i]?).map fun b => if k i then (H[i]?).getD b else b := by simp [restB, List.getElem?_mapIdx]

theorem sndx_lend {fv : V} {args args' : List V} {H : List Blk} {K K' : V → List Blk → Prop} (k : Nat → Bool) (hkl : ∀ i, k i = true → i < H.length) (ha : GiveL k H args args') (h : SndX P fv args' (killB k H) K')
    (hK : ∀ r H', K' r H' → r.flat = true ∧ H.length ≤ H'.length ∧ (∀ id blk, k id = false → H'[id]? = some blk → blk.flat) ∧ K r (restB k H H')) : SndX P fv args H K := by
  intro c hH fu us hfu hargs
  obtain ⟨d, hd, hi⟩ := h (gave c k) (gave_RH hH k) fu us (hfu.mono (gave_sub c k)) (ha.R hH hargs)
  refine ⟨d, hd, hi.mono ?_⟩
  rintro v w' ⟨r, H', hk, c2, rfl, h1, h2, h3⟩
  obtain ⟨hr, hlen, hflat, hk⟩ := hK r H' hk
  let c3 : Cx := { w := c2.w, X := fun b => c2.X b ∨ ∃ id sz, k id = true ∧ c.ρ id = some (b, sz), ρ := fun id => if k id then c.ρ id else c2.ρ id, N := c2.N }
  have rk : ∀ id, k id = true → c3.ρ id = c.ρ id := fun id h => by simp [c3, h]
  have rn : ∀ id, k id = false → c3.ρ id = c2.ρ id := fun id h => by simp [c3, h]
  have g1 : ∀ id b sz, (gave c k).ρ id = some (b, sz) → k id = false ∧ c.ρ id = some (b, sz) := fun id b sz e => by
    simp only [gave] at e
    split at e
    · cases e
    · rename_i hk; exact ⟨by simpa using hk, e⟩
  have heap : ∀ b, b < c.w.heap.size → (∀ id sz, k id = false → c.ρ id ≠ some (b, sz)) → c2.w.heap[b]? = c.w.heap[b]? := fun b hb hn => h3.keep b hb fun id sz e => hn id sz (g1 id b sz e).1 (g1 id b sz e).2
  have hsub : Sub c c3 := ⟨fun b hb hx => ⟨heap b hb (fun id sz _ e => hx (hH.ownX e)), fun hx' => by
      rcases hx' with hx' | ⟨id, sz, _, e⟩
      · exact hx ((h3.X b hb).1 hx').1
      · exact hx (hH.ownX e)⟩, h3.N, fun id hid => by
      cases hk : k id with
      | true => exact .inl (rk id hk)
      | false =>
        rw [rn id hk]
        rcases h3.ρ id hid with e | e
        · left; rw [e]; simp [gave, hk]
        · exact .inr e⟩
  refine ⟨r, _, hk, c3, rfl, ⟨?_, ?_, ?_, ?_, ?_⟩, h2.flat hr, ⟨h3.os, h3.tape, h3.output, h3.size, ?_, ?_, h3.N, hsub.ρ, ?_, h3.drawn⟩⟩
  · rw [restB_length]; exact h1.N
  · intro b hb
    rcases hb with hb | ⟨id, sz, _, e⟩
    · exact h1.X b hb
    · exact Nat.lt_of_lt_of_le (hH.lt e) h3.size
  · intro id hid
    cases hk : k id with
    | true =>
      rw [rk id hk]
      have hl := hkl id hk
      rw [restB_get, hk] at hid
      have e1 : H'[id]? = some (H'[id]'(by omega)) := by simp [show id < H'.length by omega]
      have e2 : H[id]? = some (H[id]) := by simp [hl]
      rw [e1, e2] at hid
      exact hH.gone id (by rw [e2]; simpa using hid)
    | false =>
      rw [rn id hk]
      rw [restB_get, hk] at hid
      exact h1.gone id (by simpa using hid)
  · intro id blk hb hd
    cases hk : k id with
    | true =>
      have hl := hkl id hk
      rw [restB_get, hk] at hb
      have e1 : H'[id]? = some (H'[id]'(by omega)) := by simp [show id < H'.length by omega]
      have e2 : H[id]? = some (H[id]) := by simp [hl]
      rw [e1, e2] at hb
      obtain ⟨b, sz, q1, q2, q3⟩ := hH.live id blk (by rw [e2]; simpa using hb) hd
      refine ⟨b, sz, by rw [rk id hk]; exact q1, .inr ⟨id, sz, hk, q1⟩, q3.move (heap b (hH.lt q1) fun id' sz' hk' e => ?_) hsub⟩
      have := hH.inj id id' b sz sz' q1 e
      subst this
      rw [hk] at hk'; cases hk'
    | false =>
      rw [restB_get, hk] at hb
      obtain ⟨b, sz, q1, q2, q3⟩ := h1.live id blk (by simpa using hb) hd
      exact ⟨b, sz, by rw [rn id hk]; exact q1, .inl q2, q3.moveC rfl fun v u hv hR => hR.flat (Blk.flat_has (hflat id blk hk (by simpa using hb)) hv)⟩
  · have cross : ∀ id id' b s s', k id = true → k id' = false → c.ρ id = some (b, s) → c2.ρ id' = some (b, s') → False := by
      intro id id' b s s' hk hk' e e'
      rcases h3.own id' b s' e' with g | ⟨id0, s0, g⟩
      · have h1 := hH.lt e
        exact absurd g (Nat.not_le.2 h1)
      · obtain ⟨g2, g3⟩ := g1 _ _ _ g
        have := hH.inj id id0 b s s0 e g3
        subst this
        rw [hk] at g2; cases g2
    intro id id' b s s' e e'
    cases hk : k id <;> cases hk' : k id'
    · rw [rn id hk] at e; rw [rn id' hk'] at e'; exact h1.inj id id' b s s' e e'
    · rw [rn id hk] at e; rw [rk id' hk'] at e'; exact (cross id' id b s' s hk' hk e' e).elim
    · rw [rk id hk] at e; rw [rn id' hk'] at e'; exact (cross id id' b s s' hk hk' e e').elim
    · rw [rk id hk] at e; rw [rk id' hk'] at e'; exact hH.inj id id' b s s' e e'
  · intro b hb hn
    exact heap b hb fun id sz _ => hn id sz
  · intro b hb
    refine ⟨fun hx => ?_, fun hn hx => ?_⟩
    · rcases hx with hx | ⟨id, sz, _, e⟩
      · exact ((h3.X b hb).1 hx).1
      · exact hH.ownX e
    · exact .inl ((h3.X b hb).2 (fun id sz e => hn id sz (g1 id b sz e).2) ⟨hx, fun id sz _ => hn id sz⟩)
  · intro id b sz e
    cases hk : k id with
    | true => rw [rk id hk] at e; exact .inr ⟨id, sz, e⟩
    | false =>
      rw [rn id hk] at e
      rcases h3.own id b sz e with g | ⟨id0, s0, g⟩
      · exact .inl g
      · exact .inr ⟨id0, s0, (g1 _ _ _ g).2⟩

/-! ### one's own blocks read otherwise from a place in the code on -/
theorem give_one {k : Nat → Bool} {H : List Blk} {v v' : V} (h : Give k H v v') (ho : v.one = true) : v'.one = true := by
  cases h <;> first | exact ho | rfl | cases ho
/-- What a block holds is given. -/
def BlkG (k : Nat → Bool) (H : List Blk) (b b' : Blk) : Prop :=
  b = b' ∨ ∃ kk rows rows', b = .row kk rows ∧ b' = .row kk rows' ∧ rows.length = rows'.length ∧ (∀ (i : Nat) (row row' : List V), rows[i]? = some row → rows'[i]? = some row' → row.length = row'.length ∧ ∀ (j : Nat) (v v' : V), row[j]? = some v → row'[j]? = some v' → Give k H v v')
structure ShiftH (k : Nat → Bool) (H H' : List Blk) : Prop where
  len : H'.length = H.length
  dead : ∀ id, id < H.length → k id = true → H'[id]? = some .dead
  blk : ∀ id b', k id = false → H'[id]? = some b' → ∃ b, H[id]? = some b ∧ BlkG k H b b'
theorem shift_RH {c : Cx} {H H' : List Blk} {k : Nat → Bool} (hs : ShiftH k H H') (h : RH c H) : RH (gave c k) H' := by
  have h1 := gave_RH h k
  have hsub := gave_sub c k
  refine ⟨by rw [hs.len]; simpa [gave] using h.N, h1.X, fun id hid => ?_, fun id blk hb hd => ?_, h1.inj⟩
  · simp only [gave]
    split
    · rfl
    · rename_i hk
      refine h.gone id ?_
      rcases hid with hid | hid
      · left
        rw [List.getElem?_eq_none_iff] at hid ⊢
        rw [hs.len] at hid; exact hid
      · obtain ⟨b, g1, g2⟩ := hs.blk id .dead (by simpa using hk) hid
        rcases g2 with rfl | ⟨_, _, _, _, e, _⟩
        · exact .inr g1
        · cases e
  · cases hk : k id with
    | true =>
      have hlt := (List.getElem?_eq_some_iff.1 hb).1
      rw [hs.len] at hlt
      rw [hs.dead id hlt hk] at hb
      cases hb; exact absurd rfl hd
    | false =>
      obtain ⟨b, g1, g2⟩ := hs.blk id blk hk hb
      rcases g2 with rfl | ⟨kk, rows, rows', rfl, rfl, hl, hrow⟩
      · exact h1.live id b (by rw [killB_keep hk]; exact g1) hd
      · obtain ⟨p, sz, q1, q2, q3⟩ := h1.live id (.row kk rows) (by rw [killB_keep hk]; exact g1) (by simp)
        refine ⟨p, sz, q1, q2, ?_⟩
        obtain ⟨p', sz', e1, e2, cells, e, r1, r2, r3, r4, r5, r6⟩ := h.live id (.row kk rows) g1 (by simp)
        have hp : p = p' ∧ sz = sz' := by
          simp only [gave, hk] at q1
          rw [if_neg (by simp), e1] at q1
          cases q1; exact ⟨rfl, rfl⟩
        obtain ⟨rfl, rfl⟩ := hp
        have row_of : ∀ {i : Nat} {row' : List V}, rows'[i]? = some row' → ∃ row, rows[i]? = some row ∧ row ∈ rows := fun {i row'} hi => by
          have hil := (List.getElem?_eq_some_iff.1 hi).1
          exact ⟨rows[i]'(by omega), by simp, by simp⟩
        refine ⟨cells, e, r1, r2, fun row' hr => ?_, by rw [← hl]; exact r4, fun row' hr v' hv => ?_, fun i row' j v' u hi hj hu => ?_⟩
        · obtain ⟨i, hi⟩ := List.getElem?_of_mem hr
          obtain ⟨row, hrow1, hm⟩ := row_of hi
          rw [← (hrow i row row' hrow1 hi).1]; exact r3 row hm
        · obtain ⟨i, hi⟩ := List.getElem?_of_mem hr
          obtain ⟨j, hj⟩ := List.getElem?_of_mem hv
          obtain ⟨row, hrow1, hm⟩ := row_of hi
          obtain ⟨t1, t2⟩ := hrow i row row' hrow1 hi
          have hjl : j < row.length := by rw [t1]; exact (List.getElem?_eq_some_iff.1 hj).1
          exact give_one (t2 j row[j] v' (by simp) hj) (r5 row hm _ (List.getElem_mem hjl))
        · obtain ⟨row, hrow1, hm⟩ := row_of hi
          obtain ⟨t1, t2⟩ := hrow i row row' hrow1 hi
          have hjl : j < row.length := by rw [t1]; exact (List.getElem?_eq_some_iff.1 hj).1
          exact give_R h (t2 j row[j] v' (by simp) hj) (r6 i row j row[j] u hrow1 (by simp) hu)
/-- Slots that read otherwise. -/
def Shift (E : Env) (H : List Blk) (E' : Env) (H' : List Blk) : Prop := ∃ k, ShiftH k H H' ∧ ∀ t v', get E' t = some v' → ∃ v, get E t = some v ∧ Give k H v v'
theorem AW_shift {nt : Nat} {fl : Bool} {cd : Code} {E E' : Env} {H H' : List Blk} {Q : Exit → Env → List Blk → Prop} (hs : Shift E H E' H') (h : AW P nt fl cd E' H' Q) : AW P nt fl cd E H Q := by
  obtain ⟨k, hk, hE'⟩ := hs
  intro rd n a c hsz hE hH hrd
  refine wpIn_mono (h rd n a (gave c k) hsz (fun t v' e => ?_) (shift_RH hk hH) hrd) fun _ _ _ => APost.trans (gave_stp c k) ⟨[], List.nodup_nil, by simp, fun D hD => by cases hD⟩
  obtain ⟨v, e1, e2⟩ := hE' t v' e
  obtain ⟨u, u1, u2⟩ := hE t v e1
  exact ⟨u, u1, give_R hH e2 u2⟩
theorem Shift.refl (E : Env) (H : List Blk) : Shift E H E H := ⟨fun _ => false, ⟨rfl, fun _ _ h => (by cases h), fun id b' _ h => ⟨b', h, .inl rfl⟩⟩, fun t v' e => ⟨v', e, .keep _⟩⟩
end Go.Sh
end
section
namespace Go.Sh
open Go.RowKit
set_option linter.unusedVariables false
set_option linter.unusedSimpArgs false

variable {P : Program} {nt : Nat} {fl : Bool}

inductive IC where
  | skip
  | reg (ops : List IEl) (live : List Nat)
  | drg (ops : List (Nat × IEl)) (n1 : Nat) (live : List Nat)
  | drf (ops : List (Nat × IEl)) (n1 d : Nat) (y : A) (live : List Nat)
  | seq (a b : IC)
  | cond (c : A) (x y : IC)
  | block (id : Nat) (body : IC)
  | loop (body : IC)
  | rng (f : A) (params : List Nat) (assign body : IC)
  | scope (body : IC)
  | exit (id : Nat)
  | ret
  deriving Inhabited

def IC.erase : IC → IC
  | .reg ops _ => .reg (ops.map unfzE) []
  | .drg ops n _ => .drg ops n []
  | .drf ops n d y _ => .drf ops n d y []
  | .seq a b => .seq a.erase b.erase
  | .cond c x y => .cond c x.erase y.erase
  | .block id b => .block id b.erase
  | .loop b => .loop b.erase
  | .rng f ps a b => .rng f ps a.erase b.erase
  | .scope b => .scope b.erase
  | c => c

/-- What an operation of a region that draws its order is: 0 in any order, 1 in the order of the text, 2 a variable. -/
def tagOf (al : Nat) (tainted : List Nat) (el : IEl) : Nat :=
  match el.op with
  | .alloc _ => al % 10
  | .bsl fz .. => if fz then 0 else 1
  | .st .. => if 100 ≤ al then 3 else 1
  | .app .. | .mks .. | .box _ | .clr .. | .mkm | .mup .. => 1
  | .calv .. | .inv .. => if 10 ≤ al % 100 || (rdsE el).any tainted.contains then 1 else 0
  | .ld .. | .lk .. | .lenm .. => if (rdsE el).any tainted.contains then 1 else 0
  | _ => 0

def tagAll (al : Nat) : List IEl → List Nat → List (Nat × IEl)
  | [], _ => []
  | el :: r, tainted =>
    (tagOf al tainted el, el) :: tagAll al r (match el.dst with
      | some d => if tagOf al tainted el = 1 || (rdsE el).any tainted.contains then d :: tainted else tainted
      | none => tainted)

/-- A literal that is only appended, or appended to where it is empty. -/
def onlyApp (els : List IEl) (n d : Nat) : Bool := els.all fun e =>
  (match e.grd with | some (g, _) => g != d | none => true) &&
  match e.op with
  | .app _ _ x _ => n == 0 || !(rdsA x).contains d
  | o => !(rds o).contains d

def frz (els : List IEl) : List IEl := els.map fun el => match el.op, el.dst with
  | .bsl fz k n z ps, some d => if onlyApp els n d then ⟨some d, el.grd, .bsl true k n z ps⟩ else ⟨some d, el.grd, .bsl fz k n z ps⟩
  | _, _ => el

theorem frz_unfz (els : List IEl) : (frz els).map unfzE = els.map unfzE := by
  unfold frz
  rw [List.map_map]
  refine List.map_congr_left fun el _ => ?_
  obtain ⟨dst, grd, op⟩ := el
  simp only [Function.comp]
  split
  · split <;> rfl
  · rfl

/-- Every literal a list that nobody writes. -/
def frzA (els : List IEl) : List IEl := els.map fun el => match el.op with
  | .bsl _ k n z ps => ⟨el.dst, el.grd, .bsl true k n z ps⟩
  | _ => el

theorem frzA_unfz (els : List IEl) : (frzA els).map unfzE = els.map unfzE := by
  unfold frzA
  rw [List.map_map]
  refine List.map_congr_left fun el _ => ?_
  obtain ⟨dst, grd, op⟩ := el
  simp only [Function.comp]
  split <;> rfl

theorem lowO_unfz {o : Op} {io : IOp} (h : lowO P o = some io) : unfz io = io := by
  cases io <;> try rfl
  rename_i fz k n z ps
  obtain ⟨t, m, parts, rfl⟩ := low_bsl h
  simp only [lowO] at h
  split at h
  · split at h
    · split at h
      · simp only [Option.map_eq_some_iff] at h
        obtain ⟨x, _, e⟩ := h
        injection e with e1
        subst e1
        rfl
      · cases h
    · cases h
  · cases h

theorem lowEls_unfz {ops : Array Oper} : ∀ {l : List Oper} {els : List IEl}, lowEls P nt ops l = some els → els.map unfzE = els
  | [], els, h => by cases h; rfl
  | o :: r, els, h => by
    simp only [lowEls] at h
    split at h
    · rename_i el l h1 h2
      cases h
      have h3 := (lowEl_inv h1).2.2.1
      simp only [List.map_cons, lowEls_unfz h2, List.cons.injEq, and_true]
      simp only [unfzE, lowO_unfz h3]
    · cases h

def cutAt (bs : List Nat) (n : Nat) : Nat :=
  ((List.range (n + 1)).find? fun k => (List.range n).all fun i => i < k || (List.range i).all fun j => bef bs i j).getD n

def drwTry (al : Nat) (ops : Array Oper) (els : List IEl) : Option IC :=
  if drwOk ops (befGo ops.toList []) (tagAll al els []) (cutAt (befGo ops.toList []) els.length) then some (.drg (tagAll al els []) (cutAt (befGo ops.toList []) els.length) [])
  else match els.getLast? with
    | some ⟨some d, none, .mov y⟩ =>
      if drwOk ops (befGo ops.toList []) (tagAll al els.dropLast []) (cutAt (befGo ops.toList []) els.dropLast.length) && fltB ops (befGo ops.toList []) (tagAll al els.dropLast []) (cutAt (befGo ops.toList []) els.dropLast.length) d y then
        some (.drf (tagAll al els.dropLast []) (cutAt (befGo ops.toList []) els.dropLast.length) d y [])
      else none
    | _ => none

theorem tagAll_snd {al : Nat} : ∀ (els : List IEl) (t : List Nat), (tagAll al els t).map (·.2) = els
  | [], _ => rfl
  | el :: r, t => by simp [tagAll, tagAll_snd r]

theorem drwTry_drg {al : Nat} {ops : Array Oper} {els : List IEl} {tels : List (Nat × IEl)} {n1 : Nat} {l : List Nat} (h : drwTry al ops els = some (.drg tels n1 l)) : tels.map (·.2) = els ∧ drwOk ops (befGo ops.toList []) tels n1 = true := by
  unfold drwTry at h
  split at h
  · rename_i hok
    simp at h
    obtain ⟨rfl, rfl, _⟩ := h
    exact ⟨tagAll_snd _ _, hok⟩
  · split at h
    · split at h <;> simp at h
    · cases h

theorem drwTry_drf {al : Nat} {ops : Array Oper} {els : List IEl} {tels : List (Nat × IEl)} {n1 d : Nat} {y : A} {l : List Nat} (h : drwTry al ops els = some (.drf tels n1 d y l)) :
    els = tels.map (fun p => p.2) ++ [(⟨some d, none, .mov y⟩ : IEl)] ∧ drwOk ops (befGo ops.toList []) tels n1 = true ∧ fltB ops (befGo ops.toList []) tels n1 d y = true := by
  unfold drwTry at h
  split at h
  · simp at h
  · split at h
    · rename_i d' y' hl
      split at h
      · rename_i hok
        simp only [Bool.and_eq_true] at hok
        injection h with h
        injection h with h1 h2 h3 h4 h5
        subst h1 h2 h3 h4
        refine ⟨?_, hok.1, hok.2⟩
        rw [show (tagAll al els.dropLast []).map (fun p => p.2) = els.dropLast from tagAll_snd _ _]
        obtain ⟨ys, he⟩ := List.getLast?_eq_some_iff.1 hl
        rw [he]; simp
      · cases h
    · cases h

theorem drwTry_reg {al : Nat} {ops : Array Oper} {els : List IEl} {ic : IC} (h : drwTry al ops els = some ic) : (∃ a b c, ic = .drg a b c) ∨ ∃ a b c d e, ic = .drf a b c d e := by
  unfold drwTry at h
  split at h
  · cases h; exact .inl ⟨_, _, _, rfl⟩
  · split at h
    · split at h
      · cases h; exact .inr ⟨_, _, _, _, _, rfl⟩
      · cases h
    · cases h

def firstO {α β : Type} (f : α → Option β) : List α → Option β
  | [] => none
  | a :: r => match f a with | some b => some b | none => firstO f r
theorem firstO_inv {α β : Type} {f : α → Option β} {b : β} : ∀ {l : List α}, firstO f l = some b → ∃ a ∈ l, f a = some b
  | [], h => by cases h
  | a :: r, h => by
    simp only [firstO] at h
    split at h
    · rename_i e; cases h; exact ⟨a, by simp, e⟩
    · obtain ⟨a', h1, h2⟩ := firstO_inv h; exact ⟨a', by simp [h1], h2⟩

/-- The ways to read a region that draws its order: how variables and calls are told, and which literals are lists that nobody writes. -/
def waysD (s : Nat) : List (Nat × Nat) :=
  match s with
  | 0 => [(2, 0), (2, 1), (1, 0), (1, 1), (2, 2), (1, 2)]
  | 1 => [(12, 0), (12, 1), (11, 0), (11, 1), (12, 2), (11, 2), (2, 0), (2, 1), (1, 0), (1, 1), (2, 2), (1, 2)]
  | _ => [(102, 0), (102, 1), (101, 0), (101, 1), (112, 0), (112, 1), (111, 0), (111, 1), (2, 0), (2, 1), (1, 0), (1, 1), (2, 2), (1, 2)]
def frzN (k : Nat) (els : List IEl) : List IEl := match k with | 0 => els | 1 => frz els | _ => frzA els
theorem frzN_unfz (k : Nat) (els : List IEl) : (frzN k els).map unfzE = els.map unfzE := by
  unfold frzN
  split
  · rfl
  · exact frz_unfz els
  · exact frzA_unfz els
def drwAny (ops : Array Oper) (els : List IEl) (s : Nat) : Option IC := firstO (fun w => drwTry w.1 ops (frzN w.2 els)) (waysD s)
theorem drwAny_inv {ops : Array Oper} {els : List IEl} {s : Nat} {ic : IC} (h : drwAny ops els s = some ic) : ∃ al els', els'.map unfzE = els.map unfzE ∧ drwTry al ops els' = some ic := by
  obtain ⟨w, _, h⟩ := firstO_inv h
  exact ⟨w.1, _, frzN_unfz _ _, h⟩

def lowC (P : Program) (nt : Nat) (code : Code) (s : Nat := 0) : Option IC :=
  match code with
  | .skip => some .skip
  | .label _ => some .skip
  | .region _ ops draw =>
    match lowEls P nt ops ops.toList with
    | none => none
    | some els =>
      if draw then drwAny ops els s else some (.reg els [])
  | .seq a b => match lowC P nt a s, lowC P nt b s with | some a, some b => some (.seq a b) | _, _ => none
  | .cond c x y => match lowA c, lowC P nt x s, lowC P nt y s with | some c, some x, some y => some (.cond c x y) | _, _, _ => none
  | .block id b => (lowC P nt b s).map (.block id)
  | .loop b => (lowC P nt b s).map .loop
  | .scope b => (lowC P nt b s).map .scope
  | .rangeFunc f ps a b => match lowA f, lowC P nt a s, lowC P nt b s with | some f, some a, some b => if ps.toList.all (· < nt) then some (.rng f ps.toList a b) else none | _, _, _ => none
  | .exit id => some (.exit id)
  | .ret => some .ret
  | _ => none

def AWI (P : Program) (nt : Nat) (fl : Bool) (ic : IC) (E : Env) (H : List Blk) (Q : Exit → Env → List Blk → Prop) : Prop := ∀ (code : Code) (s : Nat), lowC P nt code s = some ic.erase → AW P nt fl code E H Q

/-- A loop stands still for simp. -/
def loopI (b : Env → List Blk → (Exit → Env → List Blk → Prop) → Prop) (E : Env) (H : List Blk) (Q : Exit → Env → List Blk → Prop) (s : StopK (b, Q) := .mk) : Prop :=
  (∃ (I : Nat → Env → List Blk → Prop) (j : Nat), I j E H ∧ ∀ j E H, I j E H → b E H (th (fun E' H' => ∃ j', j' < j ∧ I j' E' H') Q)) ∨
  ∃ (I : Nat → Env → List Blk → Prop) (j : Nat) (E0 : Env) (H0 : List Blk), Shift E H E0 H0 ∧ I j E0 H0 ∧ ∀ j E H, I j E H → b E H (th (fun E' H' => ∃ j', j' < j ∧ ∃ E2 H2, Shift E' H' E2 H2 ∧ I j' E2 H2) Q)

/-- No loop over a function within. -/
def IC.noRng : IC → Bool
  | .seq a b => a.noRng && b.noRng
  | .cond _ x y => x.noRng && y.noRng
  | .block _ b => b.noRng
  | .loop b => b.noRng
  | .scope b => b.noRng
  | .rng .. => false
  | _ => true

/-- A loop over a function: its iterator's yields; how many rounds run, and how the last is left; the facts ahead of each round, and at which places. -/
def rngI (P : Program) (wa wb : Env → List Blk → (Exit → Env → List Blk → Prop) → Prop) (f : A) (ps : List Nat) (E : Env) (H : List Blk) (Q : Exit → Env → List Blk → Prop) (s : StopK (wa, wb, Q) := .mk) : Prop :=
  ∃ g fs cs, ev E f = .fn (.func g) fs cs ∧ isFn P g ∧ ∃ (xs : List (List V)) (n : Nat) (ex : Exit) (J : Nat → List Nat → List Blk → Prop) (F0 : List Nat), IterJ P (ev E f) xs ∧ rngOk n xs.length ex = true ∧ Loc J ∧ J 0 F0 H ∧
    (∀ (L Lb : Blk) i y F H1, i < n → xs[i]? = some y → J i F H1 → H.length ∉ F → H1[H.length]? = some L → y.length = ps.length ∧ wa (binds E ps y) H1 (th (fun E1 H2 => H2[H.length]? = some L ∧
      wb E1 (H2.set H.length Lb) fun e1 _ H3 => e1 = (if i + 1 = n then ex else .normal) ∧ H3[H.length]? = some Lb ∧ ∃ F', J (i + 1) F' H3 ∧ GrowQ H.length F F' H1 H3) fun _ _ _ => False)) ∧
    ∀ F' H', J n F' H' → Grow F0 F' (H ++ [.dead]) H' → Q ex E H'

/-- What comes behind the first phase, and the variables' slots, reckoned out. -/
def tailH (l : List (Nat × IEl)) (acc : List IEl) (ds : List Nat) (F : List IEl → List Nat → Prop) : Prop :=
  match l with
  | [] => F acc ds
  | (_, el) :: r => tailH r (acc ++ [el]) ds F
def tailG (n : Nat) (l : List (Nat × IEl)) (acc : List IEl) (ds : List Nat) (F : List IEl → List Nat → Prop) : Prop :=
  match n, l with
  | 0, l => tailH l acc ds F
  | _ + 1, [] => F acc ds
  | n + 1, (2, ⟨some s, g, op⟩) :: r => tailG n r (acc ++ [⟨some s, g, op⟩]) (ds ++ [s]) F
  | n + 1, (2, ⟨none, g, op⟩) :: r => tailG n r (acc ++ [⟨none, g, op⟩]) ds F
  | n + 1, (_, _) :: r => tailG n r acc ds F

theorem tailH_eq {F : List IEl → List Nat → Prop} {ds : List Nat} : ∀ {l : List (Nat × IEl)} {acc : List IEl}, tailH l acc ds F = F (acc ++ l.map (·.2)) ds
  | [], acc => by simp [tailH]
  | (tg, el) :: r, acc => by simp [tailH, tailH_eq (l := r)]
theorem tailG_eq {F : List IEl → List Nat → Prop} : ∀ {n : Nat} {l : List (Nat × IEl)} {acc : List IEl} {ds : List Nat}, tailG n l acc ds F = F (acc ++ (allocs (l.take n) ++ (l.drop n).map (·.2))) (ds ++ adsts (l.take n))
  | 0, l, acc, ds => by simp [tailG, tailH_eq, allocs, adsts]
  | n + 1, [], acc, ds => by simp [tailG, allocs, adsts]
  | n + 1, (tg, el) :: r, acc, ds => by
    by_cases h : tg = 2
    · subst h
      obtain ⟨dst, g, op⟩ := el
      cases dst <;> simp only [tailG, List.take_succ_cons, List.drop_succ_cons, allocs, adsts] <;> rw [tailG_eq (n := n) (l := r)] <;> simp
    · have : tailG (n + 1) ((tg, el) :: r) acc ds F = tailG n r acc ds F := by
        rw [tailG.eq_def]
        split
        · contradiction
        · contradiction
        · rename_i h1 h2; simp at h2; exact absurd h2.1.1 h
        · rename_i h1 h2; simp at h2; exact absurd h2.1.1 h
        · rename_i h1 h2; simp at h1 h2; rw [h1, h2.2]
      rw [this, tailG_eq (n := n) (l := r)]
      simp only [List.take_succ_cons, List.drop_succ_cons, allocs, adsts, if_neg h]

theorem ph1_eq {H0 : List Blk} {l : List (Nat × IEl)} {E : Env} {H : List Blk} {K K' : Env → List Blk → Prop} (e : K = K') (h : ph1 P H0 l E H K) : ph1 P H0 l E H K' := by subst e; exact h

/-- **WHAT IS ASKED OF CODE.** -/
def wpC (P : Program) (c : IC) (E : Env) (H : List Blk) (Q : Exit → Env → List Blk → Prop) (s : StopK (c, Q) := .mk) : Prop :=
  match c with
  | .skip => Q .normal E H
  | .reg ops live => seqI P ops E H fun E' H' => Q .normal (keep E' live) H'
  | .drg tels n1 live => ph1 P H (tels.take n1) E H fun E' H' => tailG n1 tels [] [] fun l ds => seqI P l (dropE E' ds) H' fun E'' H'' => Q .normal (keep E'' live) H''
  | .drf tels n1 d y live => ph1 P H (tels.take n1) (dropE E [d]) H fun E' H' => tailG n1 tels [] [] fun l ds => seqI P l (dropE E' ds) H' fun E'' H'' => Q .normal (keep (put E'' d (ev E' y)) live) H''
  | .seq a b => wpC P a E H (th (fun E' H' => wpC P b E' H' Q) Q)
  | .cond c x y => match ev E c with
    | .b t => brG t true (wpC P x E H Q) (wpC P y E H Q)
    | _ => False
  | .block id b => wpC P b E H (inB id Q)
  | .scope b => wpC P b E H (noG Q)
  | .loop b => loopI (fun E H Q => wpC P b E H Q) E H Q
  | .rng f ps a b => a.noRng = true ∧ b.noRng = true ∧ rngI P (fun E H Q => wpC P a E H Q) (fun E H Q => wpC P b E H Q) f ps E H Q
  | .exit id => Q (.exit id) E H
  | .ret => Q .ret E H

theorem AW_label {l : Nat} {E : Env} {H : List Blk} {Q : Exit → Env → List Blk → Prop} (h : Q .normal E H) : AW P nt fl (.label l) E H Q :=
  fun rd n a c hsz hE hH hrd => wpIn_label ⟨E, H, c, rfl, h, hsz, hE, hH, Stp.refl c, Marks.refl c rfl⟩

theorem AW_live {cd : Code} {E : Env} {H : List Blk} {Q : Exit → Env → List Blk → Prop} (live : List Nat) (h : AW P nt fl cd E H (th (fun E H => Q .normal (keep E live) H) Q)) : AW P nt fl cd E H Q := by
  intro rd n a c hsz hE hH hrd
  refine wpIn_mono (h rd n a c hsz hE hH hrd) ?_
  rintro e a' w' ⟨E', H', c', rfl, h1, h2, h3, h4, h5, h6⟩
  cases e with
  | normal => exact ⟨keep E' live, H', c', rfl, h1, h2, h3.keep live, h4, h5, h6⟩
  | _ => exact ⟨E', H', c', rfl, h1, h2, h3, h4, h5, h6⟩

def IC.isReg : IC → Bool
  | .reg .. => true
  | .drg .. => true
  | .drf .. => true
  | _ => false

theorem lowC_region {id : Nat} {ops : Array Oper} {draw : Bool} {ic : IC} {s : Nat} (h : lowC P nt (.region id ops draw) s = some ic) :
    ∃ els, lowEls P nt ops ops.toList = some els ∧ ((draw = false ∧ ic = .reg els []) ∨ (draw = true ∧ ∃ al els', els'.map unfzE = els.map unfzE ∧ drwTry al ops els' = some ic)) := by
  simp only [lowC] at h
  split at h
  · cases h
  · rename_i els hl
    refine ⟨els, hl, ?_⟩
    split at h
    · rename_i hd
      right
      exact ⟨by simpa using hd, drwAny_inv h⟩
    · rename_i hd
      cases h
      exact .inl ⟨by simpa using hd, rfl⟩

theorem lowC_isReg {id : Nat} {ops : Array Oper} {draw : Bool} {ic : IC} {s : Nat} (h : lowC P nt (.region id ops draw) s = some ic) : ic.isReg = true := by
  obtain ⟨els, _, ⟨_, rfl⟩ | ⟨_, al, els2, hu, h⟩⟩ := lowC_region h
  · rfl
  · rcases drwTry_reg h with ⟨a, b, c, rfl⟩ | ⟨a, b, c, d, e, rfl⟩ <;> rfl

theorem wpC_ok (hm : P.follows .mixedOrders = true) : ∀ (ic : IC) {fl : Bool}, (fl = true ∨ ic.noRng = true) → ∀ {E : Env} {H : List Blk} {Q : Exit → Env → List Blk → Prop}, wpC P ic E H Q → AWI P nt fl ic E H Q := by
  intro ic
  induction ic with
  | skip =>
    intro fl hfl E H Q h code s hc
    cases code with
    | skip => exact AW_skip h
    | label l => exact AW_label h
    | region id ops draw => exact absurd (lowC_isReg hc) (by simp [IC.erase, IC.isReg])
    | _ => simp only [lowC, IC.erase] at hc <;> (exfalso; revert hc; (repeat' split) <;> simp)
  | reg els live =>
    intro fl hfl E H Q h code s hc
    cases code with
    | region id ops draw =>
      obtain ⟨els', hl, ⟨rfl, he⟩ | ⟨_, al, els2, hu, he⟩⟩ := lowC_region hc
      · simp [IC.erase] at he
        subst he
        exact AW_live live (AW_region hl h)
      · rcases drwTry_reg he with ⟨a, b, c, e⟩ | ⟨a, b, c, d, e, e'⟩ <;> simp [IC.erase] at *
    | _ => simp only [lowC, IC.erase] at hc <;> (exfalso; revert hc; (repeat' split) <;> simp)
  | drg tels n1 live =>
    intro fl hfl E H Q h code s hc
    cases code with
    | region id ops draw =>
      obtain ⟨els', hl, ⟨_, he⟩ | ⟨rfl, al, els2, hu, he⟩⟩ := lowC_region hc
      · simp [IC.erase] at he
      · obtain ⟨h1, h2⟩ := drwTry_drg he
        exact AW_live live (AW_draw hm (by rw [h1, hu, lowEls_unfz hl]; exact hl) h2 (ph1_eq (by funext E' H'; exact tailG_eq) h))
    | _ => simp only [lowC, IC.erase] at hc <;> (exfalso; revert hc; (repeat' split) <;> simp)
  | drf tels n1 d y live =>
    intro fl hfl E H Q h code s hc
    cases code with
    | region id ops draw =>
      obtain ⟨els', hl, ⟨_, he⟩ | ⟨rfl, al, els2, hu, he⟩⟩ := lowC_region hc
      · simp [IC.erase] at he
      · obtain ⟨h1, h2, h3⟩ := drwTry_drf he
        exact AW_live live (AW_drf hm (by rw [← h1, hu, lowEls_unfz hl]; exact hl) h2 h3 (ph1_eq (by funext E' H'; exact tailG_eq) h))
    | _ => simp only [lowC, IC.erase] at hc <;> (exfalso; revert hc; (repeat' split) <;> simp)
  | seq a b iha ihb =>
    intro fl hfl E H Q h code s hc
    cases code with
    | seq x y =>
      simp only [lowC, IC.erase] at hc
      split at hc
      · rename_i a' b' h1 h2
        simp at hc
        obtain ⟨rfl, rfl⟩ := hc
        simp only [IC.noRng, Bool.and_eq_true] at hfl
        refine AW_seq ((iha (hfl.imp id (·.1)) h x s h1).mono fun e E' H' hq => ?_)
        cases e with
        | normal => exact ihb (hfl.imp id (·.2)) hq y s h2
        | _ => exact hq
      · cases hc
    | region id ops draw => exact absurd (lowC_isReg hc) (by simp [IC.erase, IC.isReg])
    | _ => simp only [lowC, IC.erase] at hc <;> (exfalso; revert hc; (repeat' split) <;> simp)
  | cond c x y ihx ihy =>
    intro fl hfl E H Q h code s hc
    cases code with
    | cond cc p q =>
      simp only [lowC, IC.erase] at hc
      split at hc
      · rename_i c' x' y' h1 h2 h3
        simp at hc
        obtain ⟨rfl, rfl, rfl⟩ := hc
        simp only [wpC] at h
        simp only [IC.noRng, Bool.and_eq_true] at hfl
        split at h
        · rename_i t ht
          exact AW_cond h1 ht (fun e => ihx (hfl.imp id (·.1)) (h.1 e) p s h2) (fun e => ihy (hfl.imp id (·.2)) (h.2 e) q s h3)
        · exact h.elim
      · cases hc
    | region id ops draw => exact absurd (lowC_isReg hc) (by simp [IC.erase, IC.isReg])
    | _ => simp only [lowC, IC.erase] at hc <;> (exfalso; revert hc; (repeat' split) <;> simp)
  | block id b ih =>
    intro fl hfl E H Q h code s hc
    cases code with
    | block id' p =>
      simp only [lowC, IC.erase, Option.map_eq_some_iff] at hc
      obtain ⟨b', h1, h2⟩ := hc
      simp at h2
      obtain ⟨rfl, rfl⟩ := h2
      exact AW_block (ih hfl h p s h1)
    | region id ops draw => exact absurd (lowC_isReg hc) (by simp [IC.erase, IC.isReg])
    | _ => simp only [lowC, IC.erase] at hc <;> (exfalso; revert hc; (repeat' split) <;> simp)
  | loop b ih =>
    intro fl hfl E H Q h code s hc
    cases code with
    | loop p =>
      simp only [lowC, IC.erase, Option.map_eq_some_iff] at hc
      obtain ⟨b', h1, h2⟩ := hc
      simp at h2
      subst h2
      rcases h with ⟨I, j, h0, hr⟩ | ⟨I, j, E0, H0, hsh, h0, hr⟩
      · exact AW_loop I Q (fun j E H hI => ih hfl (hr j E H hI) p s h1) h0
      · refine AW_loop (fun j E H => ∃ E2 H2, Shift E H E2 H2 ∧ I j E2 H2) Q (fun j E H hI => ?_) ⟨E0, H0, hsh, h0⟩
        obtain ⟨E2, H2, hs2, hI2⟩ := hI
        exact AW_shift hs2 (ih hfl (hr j E2 H2 hI2) p s h1)
    | region id ops draw => exact absurd (lowC_isReg hc) (by simp [IC.erase, IC.isReg])
    | _ => simp only [lowC, IC.erase] at hc <;> (exfalso; revert hc; (repeat' split) <;> simp)
  | rng f ps a b iha ihb =>
    intro fl hfl E H Q h code s hc
    cases code with
    | rangeFunc f' ps' p q =>
      simp only [lowC, IC.erase] at hc
      split at hc
      · rename_i f'' a' b' h1 h2 h3
        split at hc
        · rename_i hps
          simp at hc
          obtain ⟨rfl, rfl, rfl, rfl⟩ := hc
          obtain ⟨na, nb, g, fs, cs, hx, hg, xs, n, ex, J, F0, hit, hok, hJ, h0, hr, hQ⟩ := h
          refine AW_rng (by rcases hfl with h | h; exact h; cases h) h1 (fun p hp => by simpa using List.all_eq_true.1 hps p hp) hx hg xs n ex J F0 hit hok hJ h0 (fun L Lb i y F H1 hi hy hj hno hL => ?_) hQ
          obtain ⟨q1, q2⟩ := hr L Lb i y F H1 hi hy hj hno hL
          refine ⟨by simpa using q1, ((iha (.inr na) q2) p s h2).mono fun e E' H' hq => ?_⟩
          cases e with
          | normal => exact ⟨hq.1, ihb (.inr nb) hq.2 q s h3⟩
          | _ => exact hq
        · cases hc
      · cases hc
    | region id ops draw => exact absurd (lowC_isReg hc) (by simp [IC.erase, IC.isReg])
    | _ => simp only [lowC, IC.erase] at hc <;> (exfalso; revert hc; (repeat' split) <;> simp)
  | scope b ih =>
    intro fl hfl E H Q h code s hc
    cases code with
    | scope p =>
      simp only [lowC, IC.erase, Option.map_eq_some_iff] at hc
      obtain ⟨b', h1, h2⟩ := hc
      simp at h2
      subst h2
      exact AW_scope (ih hfl h p s h1)
    | region id ops draw => exact absurd (lowC_isReg hc) (by simp [IC.erase, IC.isReg])
    | _ => simp only [lowC, IC.erase] at hc <;> (exfalso; revert hc; (repeat' split) <;> simp)
  | exit id =>
    intro fl hfl E H Q h code s hc
    cases code with
    | exit id' =>
      simp [lowC, IC.erase] at hc
      subst hc
      exact AW_exit h
    | region id ops draw => exact absurd (lowC_isReg hc) (by simp [IC.erase, IC.isReg])
    | _ => simp only [lowC, IC.erase] at hc <;> (exfalso; revert hc; (repeat' split) <;> simp)
  | ret =>
    intro fl hfl E H Q h code s hc
    cases code with
    | ret => exact AW_ret h
    | region id ops draw => exact absurd (lowC_isReg hc) (by simp [IC.erase, IC.isReg])
    | _ => simp only [lowC, IC.erase] at hc <;> (exfalso; revert hc; (repeat' split) <;> simp)

/-- A function as a small text. -/
structure IF where
  nt : Nat
  ress : List IRes
  body : IC

/-- The program's function f reads as this text. -/
def lowF (P : Program) (f : FuncId) (s : Nat := 0) : Option (Nat × List IRes × IC) :=
  match P.funcs[f]? with
  | none => none
  | some fn =>
    if fn.name == "runtime.NumGoroutine" then none else
    match fn.body, lowRess P fn.results.toList with
    | some code, some ress => match lowC P fn.ntmps code s with
      | some ic => some (fn.ntmps, ress, ic)
      | none => none
    | _, _ => none

/-- How a function may be left: with r, over the blocks H'. -/
def Ends (ress : List IRes) (H : List Blk) (r : V) (H' : List Blk) : Exit → Env → List Blk → Prop :=
  fun e E' H2 => (e = .normal ∨ e = .ret) ∧ ∃ vs, resIs E' H2 ress = some vs ∧ Lft H H2 (resV vs) r H'

/-- The same where the result is not told at once. -/
def EndsX (ress : List IRes) (H : List Blk) (K : V → List Blk → Prop) : Exit → Env → List Blk → Prop :=
  fun e E' H2 => (e = .normal ∨ e = .ret) ∧ ∃ vs, resIs E' H2 ress = some vs ∧ ∃ r H', K r H' ∧ Lft H H2 (resV vs) r H'

/-- **A FUNCTION's CONTRACT.** -/
theorem sndx_ic (hm : P.follows .mixedOrders = true) {f nt : Nat} {ress : List IRes} {ic : IC} {s : Nat} (hf : lowF P f s = some (nt, ress, ic.erase)) {args : List V} {H : List Blk} {K : V → List Blk → Prop} (hl : args.length ≤ nt)
    (h : wpC P ic (envOf 0 args) H (EndsX ress H K)) : SndX P (.fn (.func f) [] []) args H K := by
  unfold lowF at hf
  split at hf
  · cases hf
  · rename_i fn hfn
    split at hf
    · cases hf
    · rename_i hn
      split at hf
      · rename_i code ress' hb hr
        split at hf
        · rename_i ic' hc
          simp at hf
          obtain ⟨rfl, rfl, rfl⟩ := hf
          exact sndx_of hfn hb (by simpa using hn) hr hl (wpC_ok hm ic (.inl rfl) h code s hc)
        · cases hf
      · cases hf

theorem snd_ic (hm : P.follows .mixedOrders = true) {f nt : Nat} {ress : List IRes} {ic : IC} {s : Nat} (hf : lowF P f s = some (nt, ress, ic.erase)) {args : List V} {H H' : List Blk} {r : V} (hl : args.length ≤ nt)
    (h : wpC P ic (envOf 0 args) H (Ends ress H r H')) : Snd P f args H r H' := by
  refine (sndx_ic hm hf hl (K := fun a b => a = r ∧ b = H') ?_).snd
  have he : EndsX ress H (fun a b => a = r ∧ b = H') = Ends ress H r H' := by
    funext e E' H2
    refine propext ⟨?_, ?_⟩
    · rintro ⟨h1, vs, h2, _, _, ⟨rfl, rfl⟩, h3⟩; exact ⟨h1, vs, h2, h3⟩
    · rintro ⟨h1, vs, h2, h3⟩; exact ⟨h1, vs, h2, _, _, ⟨rfl, rfl⟩, h3⟩
  rw [he]
  exact h

theorem lowF_fn {f : FuncId} {x : Nat × List IRes × IC} {s : Nat} (h : lowF P f s = some x) : isFn P f := by
  unfold lowF at h
  split at h
  · cases h
  · rename_i fn hfn
    split at h
    · cases h
    · rename_i hn
      split at h
      · rename_i code ress' hb hr
        exact ⟨fn, hfn, by simpa using hn, by simp [hb]⟩
      · cases h
end Go.Sh
end
section
namespace Go.Sh
open Go.RowKit
set_option linter.unusedVariables false

theorem brG_tt {A B : Prop} : brG true true A B = A := by simp [brG]
theorem brG_ft {A B : Prop} : brG false true A B = B := by simp [brG]
theorem brG_tf {A B : Prop} : brG true false A B = B := by simp [brG]
theorem brG_ff {A B : Prop} : brG false false A B = A := by simp [brG]
theorem brG_f {x : Bool} {A B : Prop} : brG x false A B = brG x true B A := by simp [brG]; exact and_comm
theorem brG_of {x : Bool} {A B : Prop} (h : x = true → A) (h' : x = false → B) : brG x true A B := ⟨h, h'⟩

theorem optK_some {v : V} {K : V → Prop} : optK (some v) K = K v := by simp [optK]

/-- The step of a call. -/
theorem callI_by {d : Bool} {P : Program} {f : V} {args : List V} {H H' : List Blk} {r : V} {K : V → List Blk → Prop} (h : SndC P f args H r H') (k : K r H') : callI d P f args H K := by
  cases d with
  | true => exact ⟨r, H', h, k⟩
  | false => exact SndX.of h k

theorem callI_x {P : Program} {f : V} {args : List V} {H : List Blk} {K : V → List Blk → Prop} {K' : V → List Blk → Prop} (h : SndX P f args H K') (k : ∀ r H', K' r H' → K r H') : callI false P f args H K := h.mono k

/-- A call that names nothing of one's own: the contract is over no blocks. -/
theorem callI_pure {d : Bool} {P : Program} {f : V} {args : List V} {H : List Blk} {r : V} {K : V → List Blk → Prop} (h : SndC P f args [] r []) (hf : f.bel 0 = true) (ha : belL 0 args = true) (k : K r H) : callI d P f args H K := callI_by (snd_pure h hf ha) k

theorem Fin.nil {H2 : List Blk} {v r : V} (h : Frz 0 H2 v r) : Fin [] H2 v r [] := ⟨rfl, Nat.zero_le _, fun id h => absurd h (Nat.not_lt_zero _), fun id blk h => absurd h (Nat.not_lt_zero _), h⟩

theorem Ends.ret {ress : List IRes} {r : V} {E : Env} {H2 : List Blk} {vs : List V} (h : resIs E H2 ress = some vs) (hf : Frz 0 H2 (resV vs) r) : Ends ress [] r [] .ret E H2 := ⟨.inr rfl, vs, h, .cut (.nil hf)⟩

/-- Left with data that names nothing. -/
theorem Ends.plain {ress : List IRes} {r : V} {E : Env} {H2 : List Blk} {vs : List V} (h : resIs E H2 ress = some vs) (hb : (resV vs).bel 0 = true) (he : resV vs = r) : Ends ress [] r [] .ret E H2 := .ret h (by subst he; exact .keep _ hb)
end Go.Sh
end
section
namespace Go.Sh
open Go.RowKit Go.ChangeShapes Go.WideShapes
set_option linter.unusedVariables false
set_option linter.unusedSimpArgs false

variable {P : Program}

def cx0 (w : World) : Cx := { w := w, X := fun _ => False, ρ := fun _ => none, N := 0 }
theorem RH_cx0 (w : World) : RH (cx0 w) [] := ⟨rfl, fun b h => h.elim, fun _ _ => rfl, fun id blk h => by simp at h, fun id id' b s s' h => by cases h⟩

/-- **A CALL OF WHAT A CONTRACT SPEAKS OF**, from outside. -/
theorem calls_of_snd {f : FuncId} {vs : List V} {us : List Value} {W : World} {t : Bool} (hf : isFn P f) (h : Snd P f vs [] (.b t) []) (hr : RL (cx0 W) vs us) :
    Calls P f us.toArray W fun e w' => e = .returned (.bool t) ∧ Below W.heap.size W w' := by
  obtain ⟨d, hd, hi⟩ := h (cx0 W) (RH_cx0 W) (.func (.func f) #[] #[]) us (R.fn (c := cx0 W) (.func f) [] [] [] [] rfl rfl (fun j v u e => by simp at e) (fun j v u e => by simp at e)) hr
  have hd' : d = { target := .fn (.func f) #[], args := #[] ++ us.toArray } := by
    have : (Sem.pure { target := Target.fn (.func f) #[], args := #[] ++ us.toArray } : Sem Deferred) = Sem.pure d := hd
    injection this with h; exact h.symm
  subst hd'
  obtain ⟨fn, h1, h2, h3⟩ := hf
  have hinv : (invoke (.fn (.func f) #[]) (#[] ++ us.toArray)).run P (cx0 W).w = .ok (.enter f us.toArray) W := by
    simp only [invoke]
    rw [run_callFunc h1 h2 h3]
    simp [cx0]
  simp only [Inv, hinv] at hi
  refine Calls.mono hi ?_
  rintro e w' ⟨v, rfl, c', rfl, k1, k2, k3⟩
  rw [k2.bool_inv]
  exact ⟨rfl, k3.os, k3.tape, k3.output, k3.size, fun b hb => k3.keep b hb (fun id sz e => by simp [cx0] at e)⟩

/-- How what is read at a type is told: cells, and what is known of them. -/
structure Op (P : Program) (t : TypeId) (α : Type) where
  f : α → List V
  B : α → Prop
  agg : Bool
  len : ∀ a, (f a).length = P.cellsOf t
  bel : ∀ a, belL 0 (f a) = true
  opens : ∀ {H : Type} {enc : TypeId × Value → H} {w : World} {base : Nat} {spare : Nat → Bool} {held : Bool} {fuel : Nat} {cs : List Value} {x : DataW H × List MemPlace},
    DataW.trod enc P w base spare held fuel t cs = some x → (x.1.weights P t).all (· ≤ reachBytes) = true → ∃ a : α, RL (cx0 w) (f a) cs ∧ B a
  kind : ∀ {w : World} {r : Go.Reach} {base : Nat} {v : Value}, Value.okWide P w r base t v → if agg then ∃ cs, v = .agg cs else v.cells = #[v]

def Op.val {t : TypeId} {α : Type} (o : Op P t α) (a : α) : V := if o.agg then .agg (o.f a) else (o.f a).headD .junk

theorem RL_one {c : Cx} {v : V} {u : Value} (h : R c v u) : RL c [v] [u] := ⟨rfl, fun j v' u' e1 e2 => by
  cases j with
  | zero => simp at e1 e2; subst e1 e2; exact h
  | succ j => simp at e1⟩
theorem RL_nil {c : Cx} : RL c [] [] := ⟨rfl, fun j v u e => by simp at e⟩
theorem RL_cons {c : Cx} {v : V} {u : Value} {vs : List V} {us : List Value} (h : R c v u) (hs : RL c vs us) : RL c (v :: vs) (u :: us) :=
  ⟨by simpa using hs.1, fun j v' u' e1 e2 => by
    cases j with
    | zero => simp at e1 e2; subst e1 e2; exact h
    | succ j => exact hs.2 j v' u' (by simpa using e1) (by simpa using e2)⟩
theorem RL_append {c : Cx} {vs vs' : List V} {us us' : List Value} (h : RL c vs us) (h' : RL c vs' us') : RL c (vs ++ vs') (us ++ us') :=
  ⟨by simp [h.1, h'.1], fun j v u e1 e2 => by
    rcases Nat.lt_or_ge j vs.length with hj | hj
    · rw [List.getElem?_append_left hj] at e1
      rw [List.getElem?_append_left (by rw [← h.1]; exact hj)] at e2
      exact h.2 j v u e1 e2
    · rw [List.getElem?_append_right hj] at e1
      rw [List.getElem?_append_right (by rw [← h.1]; exact hj), ← h.1] at e2
      exact h'.2 _ v u e1 e2⟩

section
variable {t : TypeId}

def Op.int (ht : P.underlying t = some (.int .i64)) (hc : P.cellsOf t = 1) : Op P t Int where
  f := fun n => [.i .i64 n]
  B := fun n => -9223372036854775808 ≤ n ∧ n ≤ 9223372036854775807
  agg := false
  len := fun a => by simp [hc]
  bel := fun a => rfl
  opens := by
    intro H enc w base spare held fuel cs x h _
    obtain ⟨n, rfl, _, hw⟩ := DataW.trod_int ht h
    refine ⟨n, RL_one (.i .i64 n), ?_⟩
    simp only [Lit.wf, IntKind.min, IntKind.max, IntKind.signed, IntKind.bits, Bool.and_eq_true, decide_eq_true_eq, if_true] at hw
    omega
  kind := by
    intro w r base v h
    obtain ⟨n, rfl⟩ := okWide_int ht h
    rfl

def Op.bool (ht : P.underlying t = some .bool) (hc : P.cellsOf t = 1) : Op P t Bool where
  f := fun n => [.b n]
  B := fun n => True
  agg := false
  len := fun a => by simp [hc]
  bel := fun a => rfl
  opens := by
    intro H enc w base spare held fuel cs x h _
    obtain ⟨b, rfl, _⟩ := DataW.trod_bool ht h
    exact ⟨b, RL_one (.b b), trivial⟩
  kind := by
    intro w r base v h
    obtain ⟨n, rfl⟩ := okWide_bool ht h
    rfl

def Op.str (ht : P.underlying t = some .string) (hc : P.cellsOf t = 1) : Op P t ByteArray where
  f := fun n => [.s n]
  B := fun s => s.size ≤ 140737488351232
  agg := false
  len := fun a => by simp [hc]
  bel := fun a => rfl
  opens := by
    intro H enc w base spare held fuel cs x h hw
    obtain ⟨s, rfl, rfl, _⟩ := DataW.trod_string ht h
    refine ⟨s, RL_one (.s s), ?_⟩
    simp only [DataW.weights, List.all_cons, List.all_nil, Bool.and_true, reachBytes, Array.length_toList] at hw
    exact of_decide_eq_true hw
  kind := by
    intro w r base v h
    obtain ⟨n, rfl⟩ := okWide_string ht h
    rfl

theorem weightsAll_all {H : Type} {e : TypeId} : ∀ {l : List (DataW H)}, (DataW.weightsAll P e l).all (· ≤ reachBytes) = true → ∀ d ∈ l, (d.weights P e).all (· ≤ reachBytes) = true
  | [], _, d, hd => by cases hd
  | x :: r, h, d, hd => by
    unfold DataW.weightsAll at h
    rw [List.all_append, Bool.and_eq_true] at h
    rcases List.mem_cons.1 hd with rfl | hd
    · exact h.1
    · exact weightsAll_all h.2 d hd
theorem weightsEach_all {H : Type} : ∀ {ts : List TypeId} {l : List (DataW H)}, (DataW.weightsEach P ts l).all (· ≤ reachBytes) = true → ∀ (i : Nat) (t : TypeId) (d : DataW H), ts[i]? = some t → l[i]? = some d → (d.weights P t).all (· ≤ reachBytes) = true
  | [], _, _, i, _, _, ht, _ => by simp at ht
  | _ :: _, [], _, i, _, _, _, hd => by simp at hd
  | u :: ts, x :: r, h, i, t, d, ht, hd => by
    unfold DataW.weightsEach at h
    rw [List.all_append, Bool.and_eq_true] at h
    cases i with
    | zero => simp at ht hd; subst ht; subst hd; exact h.1
    | succ i => exact weightsEach_all h.2 i t d (by simpa using ht) (by simpa using hd)

theorem cell_block {w : World} {a : Addr} {v : Value} (h : w.cell? a = some v) : a.spot = none ∧ ∃ cells e fz, w.heap[a.block]? = some (.cells cells e fz) ∧ cells[a.off]? = some v := by
  unfold World.cell? at h
  split at h
  · rename_i c e fz hb
    split at h
    · cases h
    · rename_i hs
      exact ⟨by simpa using hs, c, e, fz, hb, h⟩
  · cases h

def Op.slice {α : Type} [Inhabited α] {e : TypeId} (n : Nat) (ht : P.underlying t = some (.slice e)) (hc : P.cellsOf t = 1) (hk : 0 < P.cellsOf e) (hb : P.bytesOf e = n) (o : Op P e α) : Op P t (List α) where
  f := fun l => [.fsl (l.map o.f)]
  B := fun l => l.length * n ≤ 140737488351232 ∧ l.length ≤ 9223372036854775807 ∧ ∀ x ∈ l, o.B x
  agg := false
  len := fun a => by simp [hc]
  bel := fun a => rfl
  opens := by
    subst hb
    intro H enc w base spare held fuel cs x h hw
    rcases Go.Deep.open_slice ht h with ⟨rfl, rfl⟩ | ⟨a, len, cap, m, k, D, Pl, rfl, hbs, hl, hm, hmm, rfl, hx⟩
    · exact ⟨[], RL_one (.fsl0 none 0 (fun _ => rfl)), by simp, by simp, fun x hx => by cases hx⟩
    · have hlm : len ≤ m := by rw [hmm]; split <;> omega
      simp only [DataW.weights, ht, List.all_cons, List.all_append, Bool.and_eq_true, decide_eq_true_eq] at hw
      obtain ⟨hw0, hw1, _⟩ := hw
      obtain ⟨V, hV⟩ := Go.Deep.choose_lt (α := α) (n := len) (p := fun i v => ∃ c, w.cells? base (a.add (i * P.cellsOf e)) (P.cellsOf e) = some c ∧ RL (cx0 w) (o.f v) c ∧ o.B v) (fun i hi => by
        obtain ⟨c, h1, h2⟩ := hx i (by omega)
        obtain ⟨v, h3, h4⟩ := o.opens h2 (weightsAll_all hw1 (D i) (List.mem_map.2 ⟨i, List.mem_range.2 hi, rfl⟩))
        exact ⟨v, c, h1, h3, h4⟩)
      have hmax : maxLen = 9223372036854775807 := rfl
      have hlen : ((List.range len).map V).length = len := by simp
      refine ⟨(List.range len).map V, ?_, ?_, by rw [hlen]; omega, fun y hy => ?_⟩
      · by_cases h0 : len = 0
        · subst h0
          exact RL_one (.fsl0 (some a) cap (by simp))
        · -- the first cell tells that the address is one of memory
          have hs : a.spot = none := by
            obtain ⟨c, h1, _, _⟩ := hV 0 (by omega)
            obtain ⟨_, g1, g2⟩ := World.cells?_some h1
            have hfirst := g2 0 hk
            rw [List.getElem?_eq_getElem (by omega)] at hfirst
            have := (cell_block hfirst).1
            simpa [Addr.add] using this
          obtain ⟨ab, ao, rfl⟩ : ∃ ab ao, a = ⟨ab, ao, none⟩ := ⟨a.block, a.off, by cases a; simp at hs; subst hs; rfl⟩
          -- the last cell
          obtain ⟨c, h1, h2, _⟩ := hV (len - 1) (by omega)
          obtain ⟨_, g1, g2⟩ := World.cells?_some h1
          have hlast := g2 (P.cellsOf e - 1) (by omega)
          rw [List.getElem?_eq_getElem (by omega), Addr.add_mk, Addr.add_mk] at hlast
          obtain ⟨_, cells, el, fz, hB, hC⟩ := cell_block hlast
          simp only at hB hC
          have hsz := (Array.getElem?_eq_some_iff.1 hC).1
          have hmul : len * P.cellsOf e = (len - 1) * P.cellsOf e + P.cellsOf e := by
            conv => lhs; rw [show len = (len - 1) + 1 by omega]
            rw [Nat.add_mul]; omega
          have key : R (cx0 w) (.fsl (((List.range len).map V).map o.f)) (.slice (some ⟨ab, ao, none⟩) (((List.range len).map V).map o.f).length cap) := by
            refine .fsl _ ab ao (P.cellsOf e) cap cells el fz hB (fun h => h) ?_ ?_ ?_ ?_ ?_
            · intro row hr
              obtain ⟨y, _, rfl⟩ := List.mem_map.1 hr
              exact o.len y
            · rw [List.length_map, hlen, hmul]; omega
            · rw [List.length_map, hlen]; exact hl
            · intro row hr
              obtain ⟨y, _, rfl⟩ := List.mem_map.1 hr
              exact o.bel y
            · intro i row j v u e1 e2 e3
              have hi : i < len := by have := (List.getElem?_eq_some_iff.1 e1).1; simpa using this
              have hrow : row = o.f (V i) := by
                rw [List.getElem?_map, List.getElem?_map, List.getElem?_range hi] at e1
                simpa using e1.symm
              subst hrow
              obtain ⟨c, h1, h2, _⟩ := hV i hi
              obtain ⟨_, g1, g2⟩ := World.cells?_some h1
              have hj : j < P.cellsOf e := by rw [← o.len (V i)]; exact (List.getElem?_eq_some_iff.1 e2).1
              refine h2.2 j v u e2 ?_
              rw [← g2 j hj]
              rw [Addr.add_mk, Addr.add_mk]
              simp only [World.cell?, hB]
              simpa using e3
          rw [List.length_map, hlen] at key
          exact RL_one key
      · rw [hlen]
        have : len * P.bytesOf e ≤ (((List.range len).map D).length + ((List.range (m - len)).map fun j => D (len + j)).length) * P.bytesOf e := Nat.mul_le_mul (by simp) (Nat.le_refl _)
        simp only [reachBytes] at hw0
        omega
      · obtain ⟨j, hj, rfl⟩ := List.mem_map.1 hy
        obtain ⟨_, _, _, h3⟩ := hV j (List.mem_range.1 hj)
        exact h3
  kind := by
    intro w r base v h
    obtain ⟨a, l, q, rfl⟩ := okWide_slice ht h
    rfl

/-- Fields in a row, from offset o on. -/
structure OpFs (P : Program) (fs : List (TypeId × Nat)) (o : Nat) (α : Type) where
  f : α → List V
  B : α → Prop
  sz : Nat
  len : ∀ a, (f a).length = sz
  bel : ∀ a, belL 0 (f a) = true
  opens : ∀ {H : Type} {enc : TypeId × Value → H} {w : World} {base : Nat} {spare : Nat → Bool} {held : Bool} {n : Nat} {cs : List Value} {xs : List (DataW H × List MemPlace)},
    cs.length = o + sz → xs.length = fs.length → (∀ (i : Nat) (t : TypeId) (f : Nat), fs[i]? = some (t, f) → DataW.trod enc P w base spare held n t ((cs.drop f).take (P.cellsOf t)) = xs[i]?) →
    (∀ (i : Nat) (t : TypeId) (f : Nat) (x : DataW H × List MemPlace), fs[i]? = some (t, f) → xs[i]? = some x → (x.1.weights P t).all (· ≤ reachBytes) = true) → ∃ a : α, RL (cx0 w) (f a) (cs.drop o) ∧ B a

theorem belL_append {n : Nat} : ∀ {a b : List V}, belL n (a ++ b) = (belL n a && belL n b)
  | [], b => by simp [belL]
  | x :: a, b => by simp [belL, belL_append (a := a), Bool.and_assoc]

def OpFs.nil {o : Nat} : OpFs P [] o Unit where
  f := fun _ => []
  B := fun _ => True
  sz := 0
  len := fun _ => rfl
  bel := fun _ => rfl
  opens := by
    intro H enc w base spare held n cs xs hl hx ht hw
    exact ⟨(), by rw [List.drop_eq_nil_of_le (by omega)]; exact RL_nil, trivial⟩

def OpFs.cons {α β : Type} {o : Nat} {r : List (TypeId × Nat)} (a : Op P t α) (k : Nat) (hk : P.cellsOf t = k) (b : OpFs P r (o + k) β) : OpFs P ((t, o) :: r) o (α × β) where
  f := fun x => a.f x.1 ++ b.f x.2
  B := fun x => a.B x.1 ∧ b.B x.2
  sz := k + b.sz
  len := fun x => by simp [a.len, b.len, hk]
  bel := fun x => by simp [belL_append, a.bel, b.bel]
  opens := by
    intro H enc w base spare held n cs xs hl hx ht hw
    cases xs with
    | nil => simp at hx
    | cons x xs =>
      have h0 := ht 0 t o rfl
      obtain ⟨v, k1, k2⟩ := a.opens h0 (hw 0 t o x rfl rfl)
      obtain ⟨u, m1, m2⟩ := b.opens (by omega) (by simpa using hx) (fun i t' f hi => ht (i + 1) t' f (by simpa using hi)) (fun i t' f y hi hy => hw (i + 1) t' f y (by simpa using hi) (by simpa using hy))
      refine ⟨(v, u), ?_, k2, m2⟩
      have := RL_append k1 m1
      rw [hk, show cs.drop (o + k) = (cs.drop o).drop k by rw [List.drop_drop], List.take_append_drop] at this
      exact this

def Op.struct {α β : Type} {fs : Array Field} (f : β → α) (g : α → β) (hg : ∀ a, f (g a) = a) (fs' : List (TypeId × Nat)) (ht : P.underlying t = some (.struct fs)) (hf : fs.toList.map (fun q => (q.type, q.offset)) = fs')
    (h : OpFs P fs' 0 α) (hc : P.cellsOf t = h.sz) : Op P t β where
  f := fun x => h.f (f x)
  B := fun x => h.B (f x)
  agg := true
  len := fun x => by rw [h.len, hc]
  bel := fun x => h.bel _
  opens := by
    subst hf
    intro H enc w base spare held fuel cs x hx hw
    obtain ⟨xs, n, rfl, rfl, hl, hxl, hi⟩ := DataW.trod_struct ht hx
    simp only [DataW.weights, ht] at hw
    have hwe := weightsEach_all hw
    obtain ⟨a, h1, h2⟩ := h.opens (xs := xs) (cs := cs) (n := n) (by rw [hl, hc]; omega) (by simp [hxl])
      (fun i t' o hi' => by
        rw [List.getElem?_map] at hi'
        cases hq : fs.toList[i]? with
        | none => rw [hq] at hi'; cases hi'
        | some q =>
          rw [hq] at hi'
          simp only [Option.map_some, Option.some.injEq, Prod.mk.injEq] at hi'
          obtain ⟨rfl, rfl⟩ := hi'
          exact hi i q (by simpa using hq))
      (fun i t' o y hi' hy => by
        rw [List.getElem?_map] at hi'
        cases hq : fs.toList[i]? with
        | none => rw [hq] at hi'; cases hi'
        | some q =>
          rw [hq] at hi'
          simp only [Option.map_some, Option.some.injEq, Prod.mk.injEq] at hi'
          obtain ⟨rfl, rfl⟩ := hi'
          exact hwe i q.type y.1 (by rw [List.getElem?_map, hq]; rfl) (by rw [List.getElem?_map, hy]; rfl))
    exact ⟨g a, by rw [hg]; exact h1, by rw [hg]; exact h2⟩
  kind := by
    intro w r base v h
    obtain ⟨cs, rfl, _⟩ := okWide_struct ht h
    exact ⟨cs, rfl⟩

/-- An array, as its elements. -/
def Op.array {α β : Type} {m sz : Nat} {e : TypeId} (f : β → α) (g : α → β) (hg : ∀ a, f (g a) = a) (fs' : List (TypeId × Nat)) (ht : P.underlying t = some (.array m e)) (hz : P.cellsOf e = sz) (hf : ((List.range m).map fun i => (e, i * sz)) = fs')
    (h : OpFs P fs' 0 α) (hc : P.cellsOf t = h.sz) : Op P t β where
  f := fun x => h.f (f x)
  B := fun x => h.B (f x)
  agg := true
  len := fun x => by rw [h.len, hc]
  bel := fun x => h.bel _
  opens := by
    subst hf hz
    intro H enc w base spare held fuel cs x hx hw
    obtain ⟨xs, n, rfl, rfl, hl, hxl, hi⟩ := DataW.trod_array ht hx
    simp only [DataW.weights, ht] at hw
    have hwe := weightsAll_all hw
    have hix : ∀ (i : Nat) (t' : TypeId) (o : Nat), ((List.range m).map fun i => (e, i * P.cellsOf e))[i]? = some (t', o) → i < m ∧ t' = e ∧ o = i * P.cellsOf e := by
      intro i t' o hi'
      have him : i < m := by have := (List.getElem?_eq_some_iff.1 hi').1; simpa using this
      rw [List.getElem?_map, List.getElem?_range him] at hi'
      simp only [Option.map_some, Option.some.injEq, Prod.mk.injEq] at hi'
      exact ⟨him, hi'.1.symm, hi'.2.symm⟩
    obtain ⟨a, h1, h2⟩ := h.opens (xs := xs) (cs := cs) (n := n) (by rw [hl, hc]; omega) (by simp [hxl])
      (fun i t' o hi' => by
        obtain ⟨him, rfl, rfl⟩ := hix i t' o hi'
        exact hi i him)
      (fun i t' o y hi' hy => by
        obtain ⟨him, rfl, rfl⟩ := hix i t' o hi'
        exact hwe y.1 (List.mem_map.2 ⟨y, List.mem_of_getElem? hy, rfl⟩))
    exact ⟨g a, by rw [hg]; exact h1, by rw [hg]; exact h2⟩
  kind := by
    intro w r base v h
    unfold Value.okWide at h
    rw [ht] at h
    obtain ⟨cs, h, _⟩ := h
    exact ⟨cs, h⟩

theorem Op.arg {α : Type} (o : Op P t α) {H : Type} {enc : TypeId × Value → H} {w : World} {r : Go.Reach} {base : Nat} {v : Value} {x : DataW H} {p : List MemPlace} (hT : DataW.Trod enc P w 0 (fun _ => true) true t v x p)
    (hw : (x.weights P t).all (· ≤ reachBytes) = true) (hk : Value.okWide P w r base t v) : ∃ a, R (cx0 w) (o.val a) v ∧ o.B a := by
  obtain ⟨fuel, hf⟩ := hT
  obtain ⟨a, h1, h2⟩ := o.opens hf hw
  refine ⟨a, ?_, h2⟩
  have hkind := o.kind hk
  unfold Op.val
  cases ha : o.agg with
  | true =>
    rw [ha] at hkind
    obtain ⟨cs, rfl⟩ := hkind
    have : cs = cs.toList.toArray := by simp
    rw [if_pos rfl, this]
    exact .agg _ _ h1.1 h1.2
  | false =>
    rw [ha] at hkind
    have hc : v.cells = #[v] := by simpa using hkind
    rw [hc] at h1
    rw [if_neg (by simp)]
    have hl := h1.1
    cases hfa : o.f a with
    | nil => rw [hfa] at hl; simp at hl
    | cons y ys => rw [hfa] at h1; exact h1.2 0 y v rfl rfl

/-- What is read at these types. -/
def OpA (P : Program) (ts : List TypeId) (S : List V → Prop) : Prop :=
  ∀ {H : Type} {enc : TypeId × Value → H} {w : World} {r : Go.Reach} {base : Nat} {vs : List Value} {ds gs : List (DataW H)} {ps : List MemPlace} {tgs : List TypeId},
    DataW.TrodAll enc P w 0 (fun _ => true) true ts vs ds ps → (∀ (j : Nat) t v, ts[j]? = some t → vs[j]? = some v → Value.okWide P w r base t v) → (DataW.weightsEach P (ts ++ tgs) (ds ++ gs)).all (· ≤ reachBytes) = true → ∃ us, RL (cx0 w) us vs ∧ S us

theorem OpA.nil : OpA P [] (fun us => us = []) := by
  intro H enc w r base vs ds gs ps tgs h hv hw
  obtain ⟨rfl, rfl, rfl⟩ := trodAll_nil h
  exact ⟨[], RL_nil, rfl⟩

theorem OpA.cons {α : Type} {ts : List TypeId} {S : List V → Prop} (o : Op P t α) (h : OpA P ts S) : OpA P (t :: ts) (fun us => ∃ a r, us = o.val a :: r ∧ o.B a ∧ S r) := by
  intro H enc w r base vs ds gs ps tgs hT hv hw
  obtain ⟨v, vs, d, ds, p, q, rfl, rfl, rfl, h1, h2⟩ := trodAll_cons hT
  simp only [List.cons_append] at hw
  unfold DataW.weightsEach at hw
  rw [List.all_append, Bool.and_eq_true] at hw
  obtain ⟨a, g1, g2⟩ := o.arg h1 hw.1 (hv 0 t v rfl rfl)
  obtain ⟨us, k1, k2⟩ := h h2 (fun j t' v' e1 e2 => hv (j + 1) t' v' (by simpa using e1) (by simpa using e2)) hw.2
  exact ⟨o.val a :: us, RL_cons g1 k1, a, us, rfl, g2, k2⟩
end
end Go.Sh
end
section
namespace Go.Sh
open Go.RowKit Go.ChangeShapes Go.WideShapes
set_option linter.unusedVariables false
/-- Arguments, all at once: what lies below the old size has not turned. -/
theorem below_trods {H : Type} {enc : TypeId × Value → H} {P : Program} (hl : laidOutB P = true) {W W' : World} (hb : Below W.heap.size W W') :
    ∀ {ts : List TypeId} {vs : List Value} {ds : List (DataW H)} {ps : List MemPlace}, (∀ t ∈ ts, P.readableRec t = true ∧ t < P.types.size) → DataW.TrodAll enc P W 0 (fun _ => true) true ts vs ds ps → (∀ x ∈ ps, x.block < W.heap.size) →
      DataW.TrodAll enc P W' 0 (fun b => decide (b < W.heap.size)) true ts vs ds ps
  | [], _, _, _, _, h, _ => by
    obtain ⟨rfl, rfl, rfl⟩ := trodAll_nil h
    exact trodAll_mk0
  | t :: ts, _, _, _, hr, h, hp => by
    obtain ⟨v, vs, d, ds, p, q, rfl, rfl, rfl, h1, h2⟩ := trodAll_cons h
    exact ⟨p, q, Below.trod hl (hr t (by simp)).1 (hr t (by simp)).2 h1 hb (fun x hx => hp x (by simp [hx])), below_trods hl hb (fun u hu => hr u (by simp [hu])) h2 (fun x hx => hp x (by simp [hx])), rfl⟩
/-- THE FRAME: a law that returned true and left what lay below alone. -/
theorem post_true {H : Type} {enc : TypeId × Value → H} {P : Program} {f : Func} {s : ChangeSpec} {apart fresh hands : Bool} {tb : TypeId} {W W' : World} {args : Array Value} {ds gs : List (DataW H)} {before : List MemPlace}
    (hl : laidOutB P = true) (hr : ∀ t ∈ f.params.toList, P.readableRec t = true ∧ t < P.types.size) (hres : f.resultTypes = #[tb]) (htb : P.underlying tb = some .bool) (hvars : s.vars = [])
    (hW : DataW.Whole enc P f.params.toList s.vars apart W args.toList ds gs before) (hfr : (s.fn H (ds ++ gs)).results = [.lit (.bool true)]) (hfa : (s.fn H (ds ++ gs)).args = ds) (hfv : (s.fn H (ds ++ gs)).vars = [])
    (hb : Below W.heap.size W W') : s.post enc P f apart fresh hands false W args (.bool true) W' := by
  have hlt := hW.lt
  have hW0 := hW
  obtain ⟨p, q, hA, hV, rfl, hfz, hnd⟩ := hW
  rw [hvars] at hV
  obtain ⟨rfl, rfl⟩ := trodVars_none hV
  refine ⟨ds, [], p ++ [], [], p, [], hW0, ?_, ?_, ?_, hb.frame _, nofun⟩
  · rw [hfr, hres]
    exact trodAll_mk1 (shut_bool htb true)
  · rw [hfa]
    exact below_trods hl hb hr hA (fun x hx => hlt x (by simpa using hx))
  · rw [hfv, hvars]
    simp [DataW.TrodVars]
section
variable {H : Type} {enc : TypeId × Value → H} {P : Program} {w : World} {base : Nat} {spare : Nat → Bool} {held : Bool}
theorem ds_len3 {t t' t'' : TypeId} {args : Array Value} {ds : List (DataW H)} {ps : List MemPlace} (h : DataW.TrodAll enc P w base spare held [t, t', t''] args.toList ds ps) : ∃ d d' d'', ds = [d, d', d''] := by
  obtain ⟨v0, vs, d, ds, p, q, _, rfl, _, _, h2⟩ := trodAll_cons h
  obtain ⟨v1, vs, d1, ds, p, q, _, rfl, _, _, h3⟩ := trodAll_cons h2
  obtain ⟨v2, vs, d2, ds, p, q, _, rfl, _, _, h4⟩ := trodAll_cons h3
  obtain ⟨_, rfl, _⟩ := trodAll_nil h4
  exact ⟨d, d1, d2, rfl⟩
end
end Go.Sh
end
section
namespace Go.Sh
open Go.RowKit
set_option linter.unusedVariables false

section
variable {α : Type}
theorem gapp (G l : List α) (j : Nat) : (G ++ l)[G.length + j]? = l[j]? := by
  rw [List.getElem?_append_right (by omega)]; congr 1; omega
theorem gapp0 (G l : List α) : (G ++ l)[G.length]? = l[0]? := by simpa using gapp G l 0
theorem sapp (G l : List α) (j : Nat) (x : α) : (G ++ l).set (G.length + j) x = G ++ l.set j x := by
  rw [List.set_append_right _ _ (by omega)]; congr 2; omega
theorem sapp0 (G l : List α) (x : α) : (G ++ l).set G.length x = G ++ l.set 0 x := by simpa using sapp G l 0 x
theorem tapp (G l : List α) (j : Nat) : (G ++ l).take (G.length + j) = G ++ l.take j := by
  rw [List.take_append, List.take_of_length_le (by omega)]; congr 2; omega
theorem tapp0 (G l : List α) : (G ++ l).take G.length = G := by simp
theorem gapp1 (G l : List α) (x : α) (j : Nat) : (x :: (G ++ l))[G.length + (j + 1)]? = l[j]? := by
  rw [← Nat.add_assoc, List.getElem?_cons_succ, gapp]
end

theorem get_nil (t : Nat) : get [] t = none := rfl
theorem get_cons_eq (k : Nat) (v : V) (r : Env) : get ((k, v) :: r) k = some v := by simp [get]
theorem get_cons_ne {k t : Nat} (h : ¬ k = t) (v : V) (r : Env) : get ((k, v) :: r) t = get r t := by simp [get, h]
theorem dropE_nil (E : Env) : dropE E [] = E := by simp [dropE]
theorem dropE_emp (l : List Nat) : dropE [] l = [] := rfl
theorem dropE_cons (k : Nat) (v : V) (E : Env) (s : Nat) (l : List Nat) : dropE ((k, v) :: E) (s :: l) = if (s :: l).contains k then dropE E (s :: l) else (k, v) :: dropE E (s :: l) := by
  simp only [dropE, List.filter_cons]
  cases (s :: l).contains k <;> simp
theorem lkV_some (z : V) (ok : Bool) (v : V) : lkV z ok (some v) = if ok then .tup [v, .b true] else v := rfl
theorem lkV_none (z : V) (ok : Bool) : lkV z ok none = if ok then .tup [z, .b false] else z := rfl

theorem rowAt_map {α : Type} {f : α → List V} {l : List α} {k : Nat} : rowAt (l.map f) (k : Int) = (l[k]?).map f := by
  simp [rowAt]
theorem rowAt_nat {l : List (List V)} {k : Nat} : rowAt l (k : Int) = l[k]? := by simp [rowAt]

theorem wrap_nat {k : Nat} (h : k < 9223372036854775808) : IntKind.i64.wrap (k : Int) = (k : Int) := by
  simp [IntKind.wrap, IntKind.bits, IntKind.signed]; omega
theorem wrap_id {n : Int} (h0 : -9223372036854775808 ≤ n) (h : n < 9223372036854775808) : IntKind.i64.wrap n = n := by
  simp [IntKind.wrap, IntKind.bits, IntKind.signed]; omega
theorem wrap_succ {k : Nat} (h : k < 9223372036854775807) : IntKind.i64.wrap ((k : Int) + 1) = ((k + 1 : Nat) : Int) := by
  rw [wrap_id (by omega) (by omega)]; omega

/-- A loop by states and a measure. -/
theorem loopI_st {b : Env → List Blk → (Exit → Env → List Blk → Prop) → Prop} {E : Env} {H : List Blk} {Q : Exit → Env → List Blk → Prop} {σ : Type} (m : σ → Nat) (S : σ → Env → List Blk → Prop) (s0 : σ) (h0 : S s0 E H)
    (hs : ∀ s E H, S s E H → b E H (th (fun E' H' => ∃ s', m s' < m s ∧ S s' E' H') Q)) : loopI b E H Q := by
  refine .inl ⟨fun j E H => ∃ s, j = m s ∧ S s E H, m s0, ⟨s0, rfl, h0⟩, ?_⟩
  rintro j E H ⟨s, rfl, h⟩
  have he : (fun (E' : Env) (H' : List Blk) => ∃ j', j' < m s ∧ ∃ s, j' = m s ∧ S s E' H') = fun E' H' => ∃ s', m s' < m s ∧ S s' E' H' := by
    funext E' H'
    refine propext ⟨?_, ?_⟩
    · rintro ⟨j', h1, s', rfl, h2⟩; exact ⟨s', h1, h2⟩
    · rintro ⟨s', h1, h2⟩; exact ⟨_, h1, s', rfl, h2⟩
  rw [he]
  exact hs s E H h

/-! ### blocks by facts -/
theorem get_app {α : Type} {H : List α} {p : Nat} {b : α} (h : H[p]? = some b) (l : List α) : (H ++ l)[p]? = some b := by
  rw [List.getElem?_append_left (List.getElem?_eq_some_iff.1 h).1]; exact h
theorem get_lt {α : Type} {H : List α} {p : Nat} {b : α} (h : H[p]? = some b) : p < H.length := (List.getElem?_eq_some_iff.1 h).1
theorem get_new {α : Type} (H : List α) (b : α) : (H ++ [b])[H.length]? = some b := by simp
theorem get_setne {α : Type} {H : List α} {p q : Nat} {b b' : α} (h : H[p]? = some b) (hn : q ≠ p) : (H.set q b')[p]? = some b := by
  rw [List.getElem?_set_ne hn]; exact h
theorem get_setsame {α : Type} {H : List α} {p : Nat} {b b' : α} (h : H[p]? = some b) : (H.set p b')[p]? = some b' := by
  rw [List.getElem?_set_self (get_lt h)]

/-- One's own slice, that is full, with what it holds. -/
def OwnS (H : List Blk) (k : Nat) (rows : List (List V)) (v : V) : Prop :=
  (rows = [] ∧ v = .nsl) ∨ ∃ p c e, v = .rsl p k 0 rows.length c e ∧ H[p]? = some (.row k rows)

theorem OwnS.nil (H : List Blk) (k : Nat) : OwnS H k [] .nsl := .inl ⟨rfl, rfl⟩

theorem OwnS.move {H H' : List Blk} {k : Nat} {rows : List (List V)} {v : V} (h : OwnS H k rows v) (hk : ∀ p b c e, H[p]? = some b → v = .rsl p k 0 rows.length c e → H'[p]? = some b) : OwnS H' k rows v := by
  rcases h with h | ⟨p, c, e, h1, h2⟩
  · exact .inl h
  · exact .inr ⟨p, c, e, h1, hk p _ c e h2 h1⟩

theorem OwnS.app {H : List Blk} {k : Nat} {rows : List (List V)} {v : V} (h : OwnS H k rows v) (l : List Blk) : OwnS (H ++ l) k rows v := h.move fun p b _ _ hb _ => get_app hb l

theorem OwnS.shown {H : List Blk} {k : Nat} {rows : List (List V)} {v : V} (h : OwnS H k rows v) : shown H v = some rows := by
  rcases h with ⟨rfl, rfl⟩ | ⟨p, c, e, rfl, h2⟩
  · rfl
  · simp [Sh.shown, h2]

/-- Read as a list at a function's end. -/
theorem OwnS.frz {H : List Blk} {k : Nat} {rows : List (List V)} {v : V} (h : OwnS H k rows v) (hb : ∀ row ∈ rows, belL 0 row = true) : Frz 0 H v (.fsl rows) := by
  rcases h with ⟨rfl, rfl⟩ | ⟨p, c, e, rfl, h2⟩
  · exact .nil
  · refine .sl p k 0 rows.length c e rows rows (Nat.zero_le _) h2 (by simp) rfl hb ?_ ?_
    · intro i row row' h1 h3
      simp at h1
      rw [h1] at h3; cases h3; rfl
    · intro i row row' j x x' h1 h3 e1 e2
      simp at h1
      rw [h1] at h3; cases h3
      rw [e1] at e2; cases e2
      exact .keep _ (belL_get (hb row (List.mem_of_getElem? h1)) e1)

/-- What an append leaves as it was: all but the slice's own block. -/
structure After (v : V) (H H' : List Blk) : Prop where
  len : H.length ≤ H'.length
  keep : ∀ p b, H[p]? = some b → (∀ k o l c e, v ≠ .rsl p k o l c e) → H'[p]? = some b

/-- An append to one's own slice that is full. -/
theorem app_own {k bytes : Nat} {x y : V} {H : List Blk} {rows ys : List (List V)} {K : V → List Blk → Prop} (hx : OwnS H k rows x) (h0 : 0 < k) (hb : bytes ≤ 1000000) (hy : Sh.shown H y = some ys) (hys : ∀ r ∈ ys, r.length = k ∧ r.all V.one = true)
    (hl : rows.length + ys.length ≤ 1000000) (hK : ∀ v' H', OwnS H' k (rows ++ ys) v' → After x H H' → (∀ p k o l c e, v' = .rsl p k o l c e → x = .rsl p k o l c e ∨ H.length ≤ p) → K v' H') : appI k bytes x y H K := by
  refine ⟨h0, hb, ys, hy, hys, ?_⟩
  rcases hx with ⟨rfl, rfl⟩ | ⟨p, c0, e0, rfl, h2⟩
  · simp only
    refine ⟨fun h => ?_, fun h => ⟨by simpa using hl, ?_⟩⟩
    · subst h
      exact hK _ _ (.nil _ _) ⟨Nat.le_refl _, fun _ _ h _ => h⟩ (by simp)
    · refine hK _ _ (.inr ⟨H.length, ys.length, false, by simp, by simp⟩) ⟨by simp, fun p b h _ => get_app h _⟩ ?_
      intro p k' o l c e he
      simp at he
      exact .inr (by omega)
  · simp only
    refine ⟨by trivial, hl, rows, h2, by simp, .inr (.inr ⟨by trivial, by trivial, ?_⟩)⟩
    refine hK _ _ (.inr ⟨H.length, rows.length + ys.length, false, by simp, by rw [show H.length = (H.set p .dead).length by simp]; exact get_new _ _⟩) ⟨by simp, fun q b h hn => get_app (get_setne h (fun e => hn k 0 rows.length c0 e0 (by rw [e]))) _⟩ ?_
    intro q k' o l c e he
    simp at he
    exact .inr (by omega)

theorem callI_lend1 {d : Bool} {P : Program} {f : Nat} {x x' : V} {H : List Blk} {r : V} {K : V → List Blk → Prop} (h : Snd P f [x'] [] r []) (h1 : Frz 0 H x x') (hr : r.flat = true) (k : K r H) : callI d P (.fn (.func f) [] []) [x] H K :=
  callI_by (snd_lend h (.keep _ rfl) rfl (fun j v v' e1 e2 => by
    cases j with
    | zero => simp at e1 e2; subst e1 e2; exact h1
    | succ j => simp at e1) hr) k
theorem callI_lend2 {d : Bool} {P : Program} {f : Nat} {x x' y y' : V} {H : List Blk} {r : V} {K : V → List Blk → Prop} (h : Snd P f [x', y'] [] r []) (h1 : Frz 0 H x x') (h2 : Frz 0 H y y') (hr : r.flat = true) (k : K r H) : callI d P (.fn (.func f) [] []) [x, y] H K :=
  callI_by (snd_lend h (.keep _ rfl) rfl (fun j v v' e1 e2 => by
    match j with
    | 0 => simp at e1 e2; subst e1 e2; exact h1
    | 1 => simp at e1 e2; subst e1 e2; exact h2
    | j + 2 => simp at e1) hr) k
theorem next_of {α : Type} {l : List α} {k : Nat} (h : k < l.length) : ∃ x, l[k]? = some x ∧ x ∈ l ∧ l.take (k + 1) = l.take k ++ [x] ∧ l.drop k = x :: l.drop (k + 1) :=
  ⟨l[k], by simp [h], by simp, by rw [List.take_add_one]; simp [h], by simp⟩

theorem frz_lit {H : List Blk} {p k n : Nat} {e : Bool} {rows : List (List V)} (h : H[p]? = some (.row k rows)) (hn : rows.length = n) (hb : ∀ row ∈ rows, belL 0 row = true) : Frz 0 H (.rsl p k 0 n n e) (.fsl rows) := by
  subst hn
  refine .sl p k 0 rows.length rows.length e rows rows (Nat.zero_le _) h (by simp) rfl hb ?_ ?_
  · intro i row row' h1 h3
    simp at h1
    rw [h1] at h3; cases h3; rfl
  · intro i row row' j x x' h1 h3 e1 e2
    simp at h1
    rw [h1] at h3; cases h3
    rw [e1] at e2; cases e2
    exact .keep _ (belL_get (hb row (List.mem_of_getElem? h1)) e1)

section
variable {J : Nat → List Nat → List Blk → Prop} {i : Nat} {F F' : List Nat} {H H' H'' : List Blk}
theorem Loc.app (hJ : Loc J) (h : J i F H) (l : List Blk) : J i F (H ++ l) := hJ.move h (by simp) (fun p hp => List.getElem?_append_left (hJ.lt h p hp))
theorem Loc.set (hJ : Loc J) (h : J i F H) {q : Nat} (hq : q ∉ F) (b : Blk) : J i F (H.set q b) := hJ.move h (by simp) (fun p hp => List.getElem?_set_ne (fun e => hq (by rw [e]; exact hp)))
theorem Grow.own (h : Grow F F' H H') (hl : H'.length ≤ H''.length) (hk : ∀ p, p < H.length → H''[p]? = H'[p]?) : Grow F F' H H'' := ⟨Nat.le_trans h.len hl, fun p hp hn => (hk p hp).trans (h.keep p hp hn), h.new⟩
theorem Grow.app (h : Grow F F' H H') (l : List Blk) : Grow F F' H (H' ++ l) := h.own (by simp) fun p hp => List.getElem?_append_left (Nat.lt_of_lt_of_le hp h.len)
theorem Grow.set (h : Grow F F' H H') {q : Nat} (hq : H.length ≤ q) (b : Blk) : Grow F F' H (H'.set q b) := h.own (by simp) fun p hp => List.getElem?_set_ne (by omega)
theorem Grow.notin (h : Grow F F' H H') {q : Nat} (hq : q ∉ F) (hl : q < H.length) : q ∉ F' := fun hm => by
  rcases h.new q hm with g | g
  · exact hq g
  · omega
theorem Grow.get (h : Grow F F' H H') {q : Nat} {b : Blk} (hq : q ∉ F) (hb : H[q]? = some b) : H'[q]? = some b := (h.keep q (get_lt hb) hq).trans hb
end

/-- Left without a result. -/
theorem EndsX.void {H H2 : List Blk} {K : V → List Blk → Prop} {e : Exit} {E : Env} (he : e = .normal ∨ e = .ret) (hK : K (.tup []) H2) : EndsX [] H K e E H2 := ⟨he, [], rfl, .tup [], H2, hK, .all [] rfl rfl⟩
theorem set_rep {α : Type} (z x : α) (m : List α) (k : Nat) : (List.replicate (k + 1) z ++ m).set k x = List.replicate k z ++ x :: m := by
  rw [List.replicate_succ', List.append_assoc]
  have := sapp0 (List.replicate k z) ([z] ++ m) x
  simpa using this
theorem get_rep {α : Type} (z : α) (m : List α) (k : Nat) : (List.replicate (k + 1) z ++ m)[k]? = some z := by
  rw [List.getElem?_append_left (by simp)]; simp

/-- The same where the first n blocks are others. -/
structure OwnF (n : Nat) (H : List Blk) (k : Nat) (rows : List (List V)) (v : V) : Prop where
  own : OwnS H k rows v
  from_ : ∀ p k o l c e, v = .rsl p k o l c e → n ≤ p

theorem OwnF.nil (n : Nat) (H : List Blk) (k : Nat) : OwnF n H k [] .nsl := ⟨.nil _ _, by simp⟩
theorem OwnF.app {n : Nat} {H : List Blk} {k : Nat} {rows : List (List V)} {v : V} (h : OwnF n H k rows v) (l : List Blk) : OwnF n (H ++ l) k rows v := ⟨h.own.app l, h.from_⟩
theorem OwnF.set {n : Nat} {H : List Blk} {k : Nat} {rows : List (List V)} {v : V} (h : OwnF n H k rows v) {p : Nat} (hp : p < n) (b : Blk) : OwnF n (H.set p b) k rows v :=
  ⟨h.own.move fun q b' _ _ hb e => get_setne hb (fun e' => by have := h.from_ _ _ _ _ _ _ e; omega), h.from_⟩
/-- The same where blocks l have come behind since. -/
theorem app_ownF {n k bytes : Nat} {x y : V} {H l : List Blk} {rows ys : List (List V)} {K : V → List Blk → Prop} (hx : OwnF n H k rows x) (hn : n ≤ H.length) (h0 : 0 < k) (hb : bytes ≤ 1000000) (hy : Sh.shown (H ++ l) y = some ys) (hys : ∀ r ∈ ys, r.length = k ∧ r.all V.one = true)
    (hl : rows.length + ys.length ≤ 1000000) (hK : ∀ v' H', OwnF n H' k (rows ++ ys) v' → (H ++ l).length ≤ H'.length → (∀ p b, p < n ∨ H.length ≤ p → (H ++ l)[p]? = some b → H'[p]? = some b) → K v' H') : appI k bytes x y (H ++ l) K :=
  app_own (hx.own.app l) h0 hb hy hys hl fun v' H' h1 h2 h3 => hK v' H' ⟨h1, fun p k o l c e he => by
    rcases h3 p k o l c e he with g | g
    · exact hx.from_ p k o l c e g
    · simp at g; omega⟩ h2.len fun p b hp hb => h2.keep p b hb fun k' o l' c e he => by
      rcases hp with hp | hp
      · have := hx.from_ p k' o l' c e he; omega
      · rcases hx.own with ⟨_, h⟩ | ⟨q, _, _, h, hq⟩
        · rw [h] at he; cases he
        · rw [h] at he; cases he; have := get_lt hq; omega

/-- A slice of one's own that is new; all else is as it was. -/
structure New (H H' : List Blk) (k : Nat) (rows : List (List V)) (r : V) : Prop where
  own : OwnS H' k rows r
  len : H.length ≤ H'.length
  keep : ∀ (p : Nat) (b : Blk), H[p]? = some b → H'[p]? = some b
  fresh : ∀ p k o l c e, r = .rsl p k o l c e → H.length ≤ p
end Go.Sh
end
section
namespace Go.Sh
set_option maxRecDepth 10000
set_option linter.defProp false
def qq := (And.intro (And.intro (And.intro (And.intro (And.intro (And.intro (And.intro (And.intro @Go.Sh.brG_tt @Go.Sh.brG_ft) (And.intro @Go.Sh.brG_tf (And.intro @Go.Sh.brG_ff @Go.Sh.brG_f))) (And.intro (And.intro @Go.Sh.wpC.eq_1 @Go.Sh.wpC.eq_2) (And.intro @Go.Sh.wpC.eq_3 (And.intro @Go.Sh.wpC.eq_4 @Go.Sh.wpC.eq_5)))) (And.intro (And.intro (And.intro @Go.Sh.wpC.eq_6 @Go.Sh.wpC.eq_7) (And.intro @Go.Sh.wpC.eq_8 (And.intro @Go.Sh.wpC.eq_9 @Go.Sh.wpC.eq_10))) (And.intro (And.intro @Go.Sh.wpC.eq_11 @Go.Sh.wpC.eq_12) (And.intro @Go.Sh.seqI.eq_1 (And.intro @Go.Sh.seqI.eq_2 @Go.Sh.seqI.eq_3))))) (And.intro (And.intro (And.intro (And.intro @Go.Sh.ph1.eq_1 @Go.Sh.ph1.eq_2) (And.intro @Go.Sh.ph1.eq_3 (And.intro (And.intro @Go.Sh.ph1.eq_4 @Go.Sh.ph1.eq_5) @Go.Sh.grdI.eq_1))) (And.intro (And.intro @Go.Sh.tailG.eq_1 @Go.Sh.tailG.eq_2) (And.intro @Go.Sh.tailG.eq_3 (And.intro @Go.Sh.tailG.eq_4 @Go.Sh.tailG.eq_5)))) (And.intro (And.intro (And.intro @Go.Sh.tailH.eq_1 @Go.Sh.tailH.eq_2) (And.intro @Go.Sh.dropE_nil (And.intro @Go.Sh.dropE_emp @Go.Sh.dropE_cons))) (And.intro (And.intro @List.contains_cons.{0} (And.intro @List.contains_nil.{0} @Go.Sh.rdsE.eq_1)) (And.intro @Go.Sh.rds.eq_1 (And.intro @Go.Sh.rds.eq_2 @Go.Sh.rds.eq_3)))))) (And.intro (And.intro (And.intro (And.intro (And.intro @Go.Sh.rds.eq_4 @Go.Sh.rds.eq_5) (And.intro @Go.Sh.rds.eq_6 (And.intro @Go.Sh.rds.eq_7 @Go.Sh.rds.eq_8))) (And.intro (And.intro @Go.Sh.rds.eq_9 @Go.Sh.rds.eq_10) (And.intro @Go.Sh.rds.eq_11 (And.intro @Go.Sh.rds.eq_12 @Go.Sh.rds.eq_13)))) (And.intro (And.intro (And.intro @Go.Sh.rds.eq_14 @Go.Sh.rds.eq_15) (And.intro @Go.Sh.rds.eq_16 (And.intro @Go.Sh.rds.eq_17 @Go.Sh.rds.eq_18))) (And.intro (And.intro @Go.Sh.rds.eq_19 (And.intro @Go.Sh.rds.eq_20 @Go.Sh.rds.eq_21)) (And.intro @Go.Sh.rds.eq_22 (And.intro @Go.Sh.rds.eq_23 @Go.Sh.rds.eq_24))))) (And.intro (And.intro (And.intro (And.intro @Go.Sh.rds.eq_25 @Go.Sh.rds.eq_26) (And.intro @Go.Sh.rds.eq_27 (And.intro @Go.Sh.rds.eq_28 @Go.Sh.rds.eq_29))) (And.intro (And.intro @Go.Sh.rds.eq_30 @Go.Sh.rds.eq_31) (And.intro @Go.Sh.rds.eq_32 (And.intro @Go.Sh.rds.eq_33 @Go.Sh.rds.eq_34)))) (And.intro (And.intro (And.intro @Go.Sh.rds.eq_35 @Go.Sh.rds.eq_36) (And.intro @Go.Sh.rdsA.eq_1 (And.intro @Go.Sh.rdsA.eq_2 @Go.Sh.rdsL.eq_1))) (And.intro (And.intro @Go.Sh.rdsL.eq_2 (And.intro @Go.Sh.rdsO.eq_1 @Go.Sh.rdsO.eq_2)) (And.intro @Go.Sh.qSide.eq_1 (And.intro @Go.Sh.qSide.eq_2 @Go.Sh.qSide.eq_3))))))) (And.intro (And.intro (And.intro (And.intro (And.intro (And.intro @Go.Sh.stepI.eq_1 @Go.Sh.stepI.eq_2) (And.intro @Go.Sh.stepI.eq_3 (And.intro @Go.Sh.stepI.eq_4 @Go.Sh.stepI.eq_5))) (And.intro (And.intro @Go.Sh.stepI.eq_6 @Go.Sh.stepI.eq_7) (And.intro @Go.Sh.stepI.eq_8 (And.intro @Go.Sh.stepI.eq_9 @Go.Sh.stepI.eq_10)))) (And.intro (And.intro (And.intro @Go.Sh.stepI.eq_11 @Go.Sh.stepI.eq_12) (And.intro @Go.Sh.stepI.eq_13 (And.intro @Go.Sh.stepI.eq_14 @Go.Sh.stepI.eq_15))) (And.intro (And.intro @Go.Sh.stepI.eq_16 (And.intro @Go.Sh.stepI.eq_17 @Go.Sh.stepI.eq_18)) (And.intro @Go.Sh.stepI.eq_19 (And.intro @Go.Sh.stepI.eq_20 @Go.Sh.stepI.eq_21))))) (And.intro (And.intro (And.intro (And.intro @Go.Sh.stepI.eq_22 @Go.Sh.stepI.eq_23) (And.intro @Go.Sh.stepI.eq_24 (And.intro @Go.Sh.stepI.eq_25 @Go.Sh.stepI.eq_26))) (And.intro (And.intro @Go.Sh.stepI.eq_27 @Go.Sh.stepI.eq_28) (And.intro @Go.Sh.stepI.eq_29 (And.intro @Go.Sh.stepI.eq_30 @Go.Sh.stepI.eq_31)))) (And.intro (And.intro (And.intro @Go.Sh.stepI.eq_32 @Go.Sh.stepI.eq_33) (And.intro @Go.Sh.stepI.eq_34 (And.intro @Go.Sh.stepI.eq_35 @Go.Sh.stepI.eq_36))) (And.intro (And.intro @Go.Sh.stepI.eq_37 (And.intro @Go.Sh.stepI.eq_38 @Go.Sh.sliceI.eq_1)) (And.intro @Go.Sh.sliceI.eq_2 (And.intro @Go.Sh.sliceI.eq_3 @Go.Sh.sliceI.eq_4)))))) (And.intro (And.intro (And.intro (And.intro (And.intro @Go.Sh.sliceI.eq_5 @Go.Sh.sliceI.eq_6) (And.intro @Go.Sh.sliceI.eq_7 (And.intro @Go.Sh.bnd.eq_1 @Go.Sh.bnd.eq_2))) (And.intro (And.intro @Go.Sh.idx.eq_1 @Go.Sh.shown.eq_1) (And.intro @Go.Sh.shown.eq_2 (And.intro @Go.Sh.shown.eq_3 @Go.Sh.shown.eq_4)))) (And.intro (And.intro (And.intro @Go.Sh.shown.eq_5 @Go.Sh.envOf.eq_1) (And.intro @Go.Sh.envOf.eq_2 (And.intro @Go.Sh.ev.eq_1 @Go.Sh.ev.eq_2))) (And.intro (And.intro @Go.Sh.get_nil (And.intro @Go.Sh.get_cons_eq @Go.Sh.get_cons_ne)) (And.intro @not_false_eq_true (And.intro @Go.Sh.put.eq_1 @Go.Sh.putO.eq_1))))) (And.intro (And.intro (And.intro (And.intro @Go.Sh.putO.eq_2 @Go.Sh.keep.eq_1) (And.intro @Go.Sh.keep.eq_2 (And.intro @Go.Sh.th.eq_1 @Go.Sh.th.eq_2))) (And.intro (And.intro @Go.Sh.inB.eq_1 @Go.Sh.inB.eq_2) (And.intro @Go.Sh.noG.eq_1 (And.intro @Go.Sh.noG.eq_2 @Option.getD.eq_1.{0})))) (And.intro (And.intro (And.intro @Option.getD.eq_2.{0} @Go.Sh.binI.eq_1) (And.intro @Go.Sh.binI.eq_2 (And.intro @Go.Sh.binI.eq_3 @Go.Sh.binI.eq_4))) (And.intro (And.intro @Go.Sh.binI.eq_5 (And.intro @Go.Sh.unI.eq_1 @Go.Sh.unI.eq_2)) (And.intro @Go.Sh.unI.eq_3 (And.intro @Go.Sh.unI.eq_4 @Go.Sh.intI.eq_1)))))))) (And.intro (And.intro (And.intro (And.intro (And.intro (And.intro (And.intro @Go.Sh.intI.eq_2 @Go.Sh.intI.eq_3) (And.intro @Go.Sh.intI.eq_4 (And.intro @Go.Sh.intI.eq_5 @Go.Sh.intI.eq_6))) (And.intro (And.intro @Go.Sh.intI.eq_7 @Go.Sh.intI.eq_8) (And.intro @Go.Sh.intI.eq_9 (And.intro @Go.Sh.intI.eq_10 @Go.Sh.intI.eq_11)))) (And.intro (And.intro (And.intro @Go.Sh.intI.eq_12 @Go.Sh.cmpI.eq_1) (And.intro @Go.Sh.cmpI.eq_2 (And.intro @Go.Sh.cmpI.eq_3 @Go.Sh.cmpI.eq_4))) (And.intro (And.intro @Go.Sh.cmpI.eq_5 @Go.Sh.cmpI.eq_6) (And.intro @Go.Sh.cmpI.eq_7 (And.intro @Go.Sh.optK_some @Nat.add_assoc))))) (And.intro (And.intro (And.intro (And.intro @Nat.add_zero @Nat.zero_add) (And.intro @List.map.eq_1.{0,0} (And.intro @List.map.eq_2.{0,0} @List.map_nil.{0,0}))) (And.intro (And.intro @List.map_cons.{0,0} @List.length_nil.{0}) (And.intro @List.nil_append.{0} (And.intro @List.append_nil.{0} @List.length_cons.{0})))) (And.intro (And.intro (And.intro @List.cons_append.{0} @List.append_assoc.{0}) (And.intro @List.length_append.{0} (And.intro @List.length_map.{0,0} @List.getElem?_cons_zero.{0}))) (And.intro (And.intro @List.getElem?_cons_succ.{0} (And.intro @List.set_cons_zero.{0} @List.set_cons_succ.{0})) (And.intro @Go.Sh.gapp (And.intro @Go.Sh.gapp0 @Go.Sh.gapp1)))))) (And.intro (And.intro (And.intro (And.intro (And.intro @Go.Sh.sapp @Go.Sh.sapp0) (And.intro @Go.Sh.tapp (And.intro @Go.Sh.tapp0 @List.take_succ_cons.{0}))) (And.intro (And.intro @List.take_zero.{0} @List.take_nil.{0}) (And.intro @List.drop_succ_cons.{0} (And.intro @List.drop_zero.{0} @List.drop_nil.{0})))) (And.intro (And.intro (And.intro @List.take_length.{0} @Option.some.injEq.{0}) (And.intro @Go.Sh.ldRow.eq_1 (And.intro @Go.Sh.ldRow.eq_2 @Go.Sh.setAt.eq_1))) (And.intro (And.intro @Go.Sh.fillI.eq_1 (And.intro @Go.Sh.fillI.eq_2 @Go.Sh.fillR.eq_1)) (And.intro @Go.Sh.fillR.eq_2 (And.intro @exists_eq_left'.{1} @exists_and_left.{1}))))) (And.intro (And.intro (And.intro (And.intro @exists_eq_left.{1} @and_true) (And.intro @true_and (And.intro @and_self @Go.Sh.V.cells.eq_1))) (And.intro (And.intro @Go.Sh.V.cells.eq_2 @List.all_cons.{0}) (And.intro @List.all_nil.{0} (And.intro @Go.Sh.V.one.eq_1 @Go.Sh.V.one.eq_2)))) (And.intro (And.intro (And.intro @Go.Sh.V.one.eq_3 @Go.Sh.V.one.eq_4) (And.intro @Go.Sh.V.one.eq_5 (And.intro @Bool.and_self @Bool.and_true))) (And.intro (And.intro @true_implies (And.intro @Bool.not_true @Bool.not_false)) (And.intro @false_implies (And.intro @implies_true.{0} @implies_true.{1}))))))) (And.intro (And.intro (And.intro (And.intro (And.intro (And.intro @Go.Sh.Blk.row.injEq @Bool.true_eq_false) (And.intro @Bool.false_eq_true (And.intro @List.any_cons.{0} @List.any_nil.{0}))) (And.intro (And.intro @Go.Sh.V.bel.eq_1 @Go.Sh.V.bel.eq_2) (And.intro @Go.Sh.V.bel.eq_3 (And.intro @Go.Sh.V.bel.eq_4 @Go.Sh.V.bel.eq_5)))) (And.intro (And.intro (And.intro @Go.Sh.V.bel.eq_6 @Go.Sh.V.bel.eq_7) (And.intro @Go.Sh.V.bel.eq_8 (And.intro @Go.Sh.V.bel.eq_9 @Go.Sh.belL.eq_1))) (And.intro (And.intro @Go.Sh.belL.eq_2 (And.intro @Go.Sh.wrap_nat @Go.Sh.rowAt_nat)) (And.intro @Go.Sh.IC.noRng.eq_1 (And.intro @Go.Sh.IC.noRng.eq_2 @Go.Sh.IC.noRng.eq_3))))) (And.intro (And.intro (And.intro (And.intro @Go.Sh.IC.noRng.eq_4 @Go.Sh.IC.noRng.eq_5) (And.intro @Go.Sh.IC.noRng.eq_6 (And.intro @Go.Sh.IC.noRng.eq_7 @Int.toNat_natCast))) (And.intro (And.intro @Go.Sh.binds.eq_1 @Go.Sh.binds.eq_2) (And.intro @List.getElem?_map.{0,0} (And.intro @Option.map_some.{0,0} @Option.map_none.{0,0})))) (And.intro (And.intro (And.intro @decide_true @decide_false) (And.intro @Bool.or_false (And.intro @Bool.or_true @Bool.false_or))) (And.intro (And.intro @Bool.true_or (And.intro @if_true.{1} @if_false.{1})) (And.intro @Go.Sh.eqK.eq_1 (And.intro @Go.Sh.eqK.eq_2 @Go.Sh.eqK.eq_3)))))) (And.intro (And.intro (And.intro (And.intro (And.intro @Go.Sh.eq1.eq_1 @Go.Sh.eq1.eq_2) (And.intro @Go.Sh.eq1.eq_3 (And.intro @Go.Sh.eq1.eq_4 @Go.Sh.eq1.eq_5))) (And.intro (And.intro @Go.Sh.eq1.eq_6 @Go.Sh.eq1.eq_7) (And.intro @Go.Sh.findK.eq_1 (And.intro @Go.Sh.findK.eq_2 @Go.Sh.updK.eq_1)))) (And.intro (And.intro (And.intro @Go.Sh.updK.eq_2 @Go.Sh.lkV_some) (And.intro @Go.Sh.lkV_none (And.intro @beq_self_eq_true.{0} @Go.Sh.Blk.mp.injEq))) (And.intro (And.intro @true_or (And.intro @or_true @false_or)) (And.intro @or_false (And.intro @Go.Sh.eqbI.eq_1 @Go.Sh.unkN.eq_1))))) (And.intro (And.intro (And.intro (And.intro @Go.Sh.unkN.eq_2 @Go.Sh.eqB.eq_1) (And.intro @Go.Sh.eqB.eq_2 (And.intro @Go.Sh.eqB.eq_3 @Go.Sh.eqB.eq_4))) (And.intro (And.intro @Go.Sh.eqB.eq_5 @Go.Sh.eqB.eq_6) (And.intro @Go.Sh.nilEq.eq_1 (And.intro @Go.Sh.nilEq.eq_2 @Go.Sh.nilEq.eq_3)))) (And.intro (And.intro (And.intro @Go.Sh.slN.eq_1 @Go.Sh.slN.eq_2) (And.intro @Go.Sh.slN.eq_3 (And.intro @Go.Sh.slN.eq_4 @Go.Sh.ptN.eq_1))) (And.intro (And.intro @Go.Sh.ptN.eq_2 (And.intro @Go.Sh.ptN.eq_3 @Go.Sh.ptN.eq_4)) (And.intro @Go.Sh.mpN.eq_1 (And.intro @Go.Sh.mpN.eq_2 @Go.Sh.mpN.eq_3)))))))))
end Go.Sh
end
