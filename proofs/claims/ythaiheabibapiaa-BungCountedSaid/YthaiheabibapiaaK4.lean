/- The calculus over shadows, and contracts: B4B, ShNz, B5A, B5E, B5H, B5I, B5J, B7A, B7B, B7C, B7D, B8A, B4C, B7E, B5B, B5C, B8B, B5D, B5F, B5G, B8C, B8E, ShSp, TryShelfP, S3BungCounted. -/
import Derived.Test.YthaiheabibapiaaK3
import Derived.Shelf.SlSortCmp.NoneTotal
import Derived.Shelf.SlLaysF
import Derived.Shelf.SlGeneric
import Derived.Ground.SlsfProg
import Derived.Test.YthaiheabibapiaaProg
set_option linter.all false
section
namespace Go.Sh.C3
open Go.Sh
set_option maxRecDepth 10000
set_option linter.unusedVariables false
set_option linter.unusedSimpArgs false
variable {P : Program}

/-- The first so many, up to n, for which there are bungs. -/
def fewS (d : List Int → Bool) (n : Nat) : Option (List (List Int)) := (List.range n).findSome? fun j => packS d n (j + 1) n []
def fewE (w : Rg) (l : List Sag) (s : Spt) : Int := if askedE w l s ≠ 0 then askedE w l s else if 9 < l.length then 36 else if l.length = 0 then 0 else if (fewS (doS w l s) l.length).isSome then 0 else 3
def fewR (w : Rg) (l : List Sag) (s : Spt) : List (List Int) := if askedE w l s = 0 ∧ l.length ≤ 9 then (fewS (doS w l s) l.length).getD [] else []
def C_Fewest (P : Program) (f : Nat) : Prop := ∀ (w : Rg) (l : List Sag) (s : Spt), Snd P f [.agg w.c, .fsl (l.map Sag.c), .agg s.c] [] (.tup [.fsl ((fewR w l s).map rowC), .i .i64 (fewE w l s)]) []
theorem asked_ok {w : Rg} {l : List Sag} {s : Spt} (h : askedE w l s = 0) : rgB w 0 200 = true ∧ listB l = true ∧ spotB s = true := by
  unfold askedE at h
  split at h
  · split at h
    · split at h
      · exact ⟨by assumption, by assumption, by assumption⟩
      · cases h
    · cases h
  · cases h
theorem ok_Fewest (hm : P.follows .mixedOrders = true) {f f0 f1 : Nat} (low : Low_bung_Fewest P f f0 f1) (h0 : C_asked P f0) (h1 : C_pack P f1) : C_Fewest P f := by
  intro w l s
  have none_ : ∀ (H : List Blk) (e : Int), fewE w l s = e → fewR w l s = [] → Frz 0 H (resV [.nsl, .i .i64 e]) (.tup [.fsl ((fewR w l s).map rowC), .i .i64 (fewE w l s)]) := fun H e h1 h2 => by rw [h1, h2]; exact frz2 .nil (.keep _ rfl)
  refine snd_ic hm low (by simp) ?_
  unfold ic_bung_Fewest
  simp -dsimp -implicitDefEqProofs only [qq, Nat.reduceBEq, reduceIte, Nat.reduceAdd, Nat.reduceSub, Nat.reduceLeDiff, Nat.reduceLT, Nat.reduceMul, Nat.reduceEqDiff, Int.reduceEq, Int.reduceBEq, Int.reduceBNe, Int.reduceLT, Int.reduceLE, Int.reduceGT, Int.reduceGE, Int.reduceNeg, Int.reduceAdd, Int.reduceSub, reduceCtorEq, List.reduceReplicate, ← List.map_take, ← List.map_drop]
  refine callI_pure (h0 w l s) rfl rfl ?_
  simp -dsimp -implicitDefEqProofs only [qq, Nat.reduceBEq, reduceIte, Nat.reduceAdd, Nat.reduceSub, Nat.reduceLeDiff, Nat.reduceLT, Nat.reduceMul, Nat.reduceEqDiff, Int.reduceEq, Int.reduceBEq, Int.reduceBNe, Int.reduceLT, Int.reduceLE, Int.reduceGT, Int.reduceGE, Int.reduceNeg, Int.reduceAdd, Int.reduceSub, reduceCtorEq, List.reduceReplicate, ← List.map_take, ← List.map_drop]
  refine brG_of (fun he => ?_) (fun he => ?_) <;> simp -dsimp -implicitDefEqProofs only [qq, Nat.reduceBEq, reduceIte, Nat.reduceAdd, Nat.reduceSub, Nat.reduceLeDiff, Nat.reduceLT, Nat.reduceMul, Nat.reduceEqDiff, Int.reduceEq, Int.reduceBEq, Int.reduceBNe, Int.reduceLT, Int.reduceLE, Int.reduceGT, Int.reduceGE, Int.reduceNeg, Int.reduceAdd, Int.reduceSub, reduceCtorEq, List.reduceReplicate, ← List.map_take, ← List.map_drop]
  · have he' : askedE w l s ≠ 0 := by simpa using he
    exact Ends.ret rfl (none_ _ _ (by simp [fewE, he']) (by simp [fewR, he']))
  have he' : askedE w l s = 0 := by simpa using he
  obtain ⟨hw, hv, hsp⟩ := asked_ok he'
  have hlen := list_len hv
  refine brG_of (fun h9 => ?_) (fun h9 => ?_) <;> simp -dsimp -implicitDefEqProofs only [qq, Nat.reduceBEq, reduceIte, Nat.reduceAdd, Nat.reduceSub, Nat.reduceLeDiff, Nat.reduceLT, Nat.reduceMul, Nat.reduceEqDiff, Int.reduceEq, Int.reduceBEq, Int.reduceBNe, Int.reduceLT, Int.reduceLE, Int.reduceGT, Int.reduceGE, Int.reduceNeg, Int.reduceAdd, Int.reduceSub, reduceCtorEq, List.reduceReplicate, ← List.map_take, ← List.map_drop]
  · have h9' : 9 < l.length := by simp at h9; omega
    exact Ends.ret rfl (none_ _ _ (by simp [fewE, he', h9']) (by simp [fewR]; omega))
  have h9' : l.length ≤ 9 := by simp at h9; omega
  refine brG_of (fun hz => ?_) (fun hz => ?_) <;> simp -dsimp -implicitDefEqProofs only [qq, Nat.reduceBEq, reduceIte, Nat.reduceAdd, Nat.reduceSub, Nat.reduceLeDiff, Nat.reduceLT, Nat.reduceMul, Nat.reduceEqDiff, Int.reduceEq, Int.reduceBEq, Int.reduceBNe, Int.reduceLT, Int.reduceLE, Int.reduceGT, Int.reduceGE, Int.reduceNeg, Int.reduceAdd, Int.reduceSub, reduceCtorEq, List.reduceReplicate, ← List.map_take, ← List.map_drop]
  · have hz' : l.length = 0 := by simp at hz; simp [hz]
    exact Ends.ret rfl (none_ _ _ (by simp [fewE, he', hz']) (by simp [fewR, hz', fewS]))
  have hpos : 0 < l.length := by simp at hz; exact List.length_pos_iff.2 hz
  simp -dsimp -implicitDefEqProofs only [Rg.c, qq, Nat.reduceBEq, reduceIte, Nat.reduceAdd, Nat.reduceSub, Nat.reduceLeDiff, Nat.reduceLT, Nat.reduceMul, Nat.reduceEqDiff, Int.reduceEq, Int.reduceBEq, Int.reduceBNe, Int.reduceLT, Int.reduceLE, Int.reduceGT, Int.reduceGE, Int.reduceNeg, Int.reduceAdd, Int.reduceSub, reduceCtorEq, List.reduceReplicate, ← List.map_take, ← List.map_drop]
  refine loopI_st (fun k : Nat => l.length - k) (fun k E H => k ≤ l.length ∧ E = [(1, .fsl (l.map Sag.c)), (9, .rpt 3 6 0 0), (10, .i .i64 (k + 1 : Nat))] ∧ ∃ ts, Faith w l s ts ∧ H[2]? = some (.mp (tmap ts)) ∧ H[3]? = some (.row 6 [packC w l s (.rmp 2)]) ∧ (∀ j, j < k → packS (doS w l s) l.length (j + 1) l.length [] = none)) 0 ⟨by omega, rfl, [], ⟨by simp, fun a v _ _ h => by simp at h⟩, rfl, rfl, fun j hj => by omega⟩ ?_
  rintro k _ H ⟨hk, rfl, ts, hF, hm2, hp3, hno⟩
  simp -dsimp -implicitDefEqProofs only [qq, Nat.reduceBEq, reduceIte, Nat.reduceAdd, Nat.reduceSub, Nat.reduceLeDiff, Nat.reduceLT, Nat.reduceMul, Nat.reduceEqDiff, Int.reduceEq, Int.reduceBEq, Int.reduceBNe, Int.reduceLT, Int.reduceLE, Int.reduceGT, Int.reduceGE, Int.reduceNeg, Int.reduceAdd, Int.reduceSub, reduceCtorEq, List.reduceReplicate, ← List.map_take, ← List.map_drop]
  cases hc : decide (((k + 1 : Nat) : Int) ≤ (l.length : Int)) <;> simp -dsimp -implicitDefEqProofs only [hc, qq, Nat.reduceBEq, reduceIte, Nat.reduceAdd, Nat.reduceSub, Nat.reduceLeDiff, Nat.reduceLT, Nat.reduceMul, Nat.reduceEqDiff, Int.reduceEq, Int.reduceBEq, Int.reduceBNe, Int.reduceLT, Int.reduceLE, Int.reduceGT, Int.reduceGE, Int.reduceNeg, Int.reduceAdd, Int.reduceSub, reduceCtorEq, List.reduceReplicate, ← List.map_take, ← List.map_drop]
  · have hkl : k = l.length := by simp at hc; omega
    have hn : fewS (doS w l s) l.length = none := by
      rw [fewS, List.findSome?_eq_none_iff]
      exact fun j hj => hno j (by simp at hj; omega)
    exact Ends.ret rfl (none_ _ _ (by rw [fewE, if_neg (by simp [he']), if_neg (by omega), if_neg (by omega), hn]; rfl) (by simp [fewR, hn]))
  have hkl : k < l.length := by simp at hc; omega
  have hwk : IntKind.i64.wrap (((k + 1 : Nat) : Int) + 1) = ((k + 1 + 1 : Nat) : Int) := wrap_succ (by omega)
  have hpk := h1 l.length H w l s 2 ts [] (k + 1) hm2 hF hw hv hpos h9' (Nat.le_refl _) ⟨by simp, by simp, by simp, by simp, fun h => by omega⟩ (by omega)
  rw [Nat.sub_self] at hpk
  simp -dsimp -implicitDefEqProofs only [hp3, packC, qq, Nat.reduceBEq, reduceIte, Nat.reduceAdd, Nat.reduceSub, Nat.reduceLeDiff, Nat.reduceLT, Nat.reduceMul, Nat.reduceEqDiff, Int.reduceEq, Int.reduceBEq, Int.reduceBNe, Int.reduceLT, Int.reduceLE, Int.reduceGT, Int.reduceGE, Int.reduceNeg, Int.reduceAdd, Int.reduceSub, reduceCtorEq, List.reduceReplicate, ← List.map_take, ← List.map_drop]
  refine callI_give (fun _ => false) (.cons (.keep _) (.cons .nil (.same _))) ?_
  rw [killB_no]
  refine callI_x hpk ?_
  rintro v H6 ⟨⟨ts3, hF3, rfl⟩, hres⟩
  have e1 := get_setsame (b' := .mp (tmap ts3)) hm2
  have e2 : (H.set 2 (.mp (tmap ts3)))[3]? = some (.row 6 [packC w l s (.rmp 2)]) := get_setne hp3 (by omega)
  cases hr : packS (doS w l s) l.length (k + 1) l.length [] with
  | none =>
    rw [hr] at hres
    subst hres
    simp -dsimp -implicitDefEqProofs only [hwk, qq, Nat.reduceBEq, reduceIte, Nat.reduceAdd, Nat.reduceSub, Nat.reduceLeDiff, Nat.reduceLT, Nat.reduceMul, Nat.reduceEqDiff, Int.reduceEq, Int.reduceBEq, Int.reduceBNe, Int.reduceLT, Int.reduceLE, Int.reduceGT, Int.reduceGE, Int.reduceNeg, Int.reduceAdd, Int.reduceSub, reduceCtorEq, List.reduceReplicate, ← List.map_take, ← List.map_drop]
    exact ⟨k + 1, by omega, by omega, rfl, ts3, hF3, e1, e2, fun j hj => by
      rcases Nat.lt_succ_iff_lt_or_eq.1 hj with h | rfl
      · exact hno j h
      · exact hr⟩
  | some out =>
    rw [hr] at hres
    obtain ⟨hne, rfl⟩ := hres
    obtain ⟨x, out', rfl⟩ : ∃ x out', out = x :: out' := by cases out with | nil => exact absurd rfl hne | cons x o => exact ⟨x, o, rfl⟩
    simp -dsimp -implicitDefEqProofs only [qq, Nat.reduceBEq, reduceIte, Nat.reduceAdd, Nat.reduceSub, Nat.reduceLeDiff, Nat.reduceLT, Nat.reduceMul, Nat.reduceEqDiff, Int.reduceEq, Int.reduceBEq, Int.reduceBNe, Int.reduceLT, Int.reduceLE, Int.reduceGT, Int.reduceGE, Int.reduceNeg, Int.reduceAdd, Int.reduceSub, reduceCtorEq, List.reduceReplicate, ← List.map_take, ← List.map_drop]
    have hs : fewS (doS w l s) l.length = some (x :: out') := findSome_range hkl hno hr
    have q1 : fewE w l s = 0 := by rw [fewE, if_neg (by simp [he']), if_neg (by omega), if_neg (by omega), hs]; rfl
    have q2 : fewR w l s = x :: out' := by simp [fewR, he', h9', hs]
    rw [q1, q2]
    exact Ends.ret rfl (frz_keep2 rfl rfl)
end Go.Sh.C3
end
section
namespace Go.Sh
set_option linter.unusedVariables false
set_option linter.unusedSimpArgs false
variable {P : Program}

/-- One's own slice, full; or nothing, nil or not. -/
def OwnZ (H : List Blk) (k : Nat) (rows : List (List V)) (v : V) : Prop := (rows = [] ∧ (v = .nsl ∨ v = .fs0)) ∨ ∃ p c e, v = .rsl p k 0 rows.length c e ∧ H[p]? = some (.row k rows)
theorem OwnS.z {H : List Blk} {k : Nat} {rows : List (List V)} {v : V} (h : OwnS H k rows v) : OwnZ H k rows v := by
  rcases h with ⟨h1, h2⟩ | h
  · exact .inl ⟨h1, .inl h2⟩
  · exact .inr h
theorem OwnZ.pos {H : List Blk} {k : Nat} {rows : List (List V)} {v : V} (h : OwnZ H k rows v) (hr : rows ≠ []) : ∃ p c e, v = .rsl p k 0 rows.length c e ∧ H[p]? = some (.row k rows) := by
  rcases h with ⟨h, _⟩ | h
  · exact absurd h hr
  · exact h
theorem OwnS.pos {H : List Blk} {k : Nat} {rows : List (List V)} {v : V} (h : OwnS H k rows v) (hr : rows ≠ []) : ∃ p c e, v = .rsl p k 0 rows.length c e ∧ H[p]? = some (.row k rows) := h.z.pos hr
theorem OwnZ.s {H : List Blk} {k : Nat} {rows : List (List V)} {v : V} (h : OwnZ H k rows v) (hr : rows ≠ []) : OwnS H k rows v := .inr (h.pos hr)
theorem OwnZ.shown {H : List Blk} {k : Nat} {rows : List (List V)} {v : V} (h : OwnZ H k rows v) : shown H v = some rows := by
  rcases h with ⟨rfl, rfl | rfl⟩ | ⟨p, c, e, rfl, h2⟩
  · rfl
  · rfl
  · simp [Sh.shown, h2]
theorem OwnZ.move {H H' : List Blk} {k : Nat} {rows : List (List V)} {v : V} (h : OwnZ H k rows v) (hk : ∀ p b c e, H[p]? = some b → v = .rsl p k 0 rows.length c e → H'[p]? = some b) : OwnZ H' k rows v := by
  rcases h with h | ⟨p, c, e, h1, h2⟩
  · exact .inl h
  · exact .inr ⟨p, c, e, h1, hk p _ c e h2 h1⟩
theorem OwnZ.app {H : List Blk} {k : Nat} {rows : List (List V)} {v : V} (h : OwnZ H k rows v) (l : List Blk) : OwnZ (H ++ l) k rows v := h.move fun p b _ _ hb _ => get_app hb l
theorem OwnZ.frz {H : List Blk} {k : Nat} {rows : List (List V)} {v : V} (h : OwnZ H k rows v) (hb : ∀ row ∈ rows, belL 0 row = true) : Frz 0 H v (.fsl rows) := by
  rcases h with ⟨rfl, rfl | rfl⟩ | h
  · exact .nil
  · exact .emp
  · exact OwnS.frz (.inr h) hb
/-- New since H0, whose blocks are as they were. -/
structure NewZ (H0 H : List Blk) (k : Nat) (rows : List (List V)) (r : V) : Prop where
  own : OwnZ H k rows r
  len : H0.length ≤ H.length
  keep : ∀ (p : Nat) (b : Blk), H0[p]? = some b → H[p]? = some b
  fresh : ∀ p k o l c e, r = .rsl p k o l c e → H0.length ≤ p
theorem NewZ.emp (H : List Blk) (k : Nat) : NewZ H H k [] .fs0 := ⟨.inl ⟨rfl, .inr rfl⟩, Nat.le_refl _, fun _ _ h => h, by simp⟩
theorem NewZ.nil (H : List Blk) (k : Nat) : NewZ H H k [] .nsl := ⟨.inl ⟨rfl, .inl rfl⟩, Nat.le_refl _, fun _ _ h => h, by simp⟩
theorem New.z {H0 H : List Blk} {k : Nat} {rows : List (List V)} {r : V} (h : New H0 H k rows r) : NewZ H0 H k rows r := ⟨h.own.z, h.len, h.keep, h.fresh⟩
theorem take_keep {H0 H : List Blk} (hl : H0.length ≤ H.length) (hk : ∀ (p : Nat) (b : Blk), H0[p]? = some b → H[p]? = some b) : H.take H0.length = H0 := by
  apply List.ext_getElem?
  intro i
  rw [List.getElem?_take]
  split
  · rename_i h
    rw [hk i H0[i] (by simp [h]), List.getElem?_eq_getElem h]
  · rw [List.getElem?_eq_none (by omega)]
theorem NewZ.take {H0 H : List Blk} {k : Nat} {rows : List (List V)} {r : V} (h : NewZ H0 H k rows r) : H.take H0.length = H0 := take_keep h.len h.keep
theorem NewZ.app {H0 H : List Blk} {k : Nat} {rows : List (List V)} {r : V} (h : NewZ H0 H k rows r) (l : List Blk) : NewZ H0 (H ++ l) k rows r :=
  ⟨h.own.app l, by have := h.len; simp; omega, fun p b hb => get_app (h.keep p b hb) l, h.fresh⟩
/-! ### two slices of one's own -/
def Dis (x v : V) : Prop := ∀ p k o l c e k' o' l' c' e', x = .rsl p k o l c e → v = .rsl p k' o' l' c' e' → False
theorem Dis.symm {x v : V} (h : Dis x v) : Dis v x := fun p k o l c e k' o' l' c' e' h1 h2 => h p k' o' l' c' e' k o l c e h2 h1
theorem Dis.nil (v : V) : Dis .nsl v := fun p k o l c e k' o' l' c' e' h1 _ => by cases h1
theorem OwnS.lt {H : List Blk} {k : Nat} {rows : List (List V)} {v : V} (h : OwnS H k rows v) {p k' o l c : Nat} {e : Bool} (hv : v = .rsl p k' o l c e) : p < H.length := by
  rcases h with ⟨_, h⟩ | ⟨q, c0, e0, h, hq⟩
  · rw [h] at hv; cases hv
  · rw [h] at hv; cases hv; exact get_lt hq
/-- At a loop's head the last row, a slice of one's own, becomes a list that nobody writes. -/
theorem shift_last {H : List Blk} {k : Nat} {v u : V} {rows row : List (List V)} (hv : OwnS H 1 (rows ++ [[u]]) v) (hu : OwnS H k row u) (hd : Dis v u) (hb : ∀ r ∈ row, belL 0 r = true) :
    ∃ H2, (∀ E : Env, Shift E H E H2) ∧ OwnS H2 1 (rows ++ [[.fsl row]]) v ∧ H2.length = H.length ∧ ∀ p b, H[p]? = some b → (∀ k o l c e, v ≠ .rsl p k o l c e) → (∀ k o l c e, u ≠ .rsl p k o l c e) → H2[p]? = some b := by
  obtain ⟨pv, cv, ev, rfl, hpv⟩ := hv.pos (by simp)
  have hlv := get_lt hpv
  have key : ∀ (kk : Nat → Bool), kk pv = false → Give kk H u (.fsl row) → (∀ p, kk p = true → ∃ k o l c e, u = .rsl p k o l c e) →
      ∃ H2, (∀ E : Env, Shift E H E H2) ∧ OwnS H2 1 (rows ++ [[.fsl row]]) (.rsl pv 1 0 (rows ++ [[u]]).length cv ev) ∧ H2.length = H.length ∧ ∀ p b, H[p]? = some b → (∀ k o l c e, V.rsl pv 1 0 (rows ++ [[u]]).length cv ev ≠ .rsl p k o l c e) → (∀ k o l c e, u ≠ .rsl p k o l c e) → H2[p]? = some b := fun kk hk hg hku => by
    refine ⟨(killB kk H).set pv (.row 1 (rows ++ [[.fsl row]])), fun E => ⟨kk, ⟨by simp [killB_length], fun id hid hki => ?_, fun id b' hki hb' => ?_⟩, fun t v' e => ⟨v', e, .keep _⟩⟩, .inr ⟨pv, cv, ev, by simp, by rw [List.getElem?_set_self (by rw [killB_length]; exact hlv)]⟩, by simp [killB_length], fun p b hp hn1 hn2 => ?_⟩
    · have : pv ≠ id := fun e => by rw [← e, hk] at hki; cases hki
      rw [List.getElem?_set_ne this, killB_get, hki, List.getElem?_eq_getElem hid]; simp
    · by_cases e : pv = id
      · subst e
        rw [List.getElem?_set_self (by rw [killB_length]; exact hlv)] at hb'
        cases hb'
        refine ⟨_, hpv, .inr ⟨1, _, _, rfl, rfl, by simp, fun i r r' h1 h2 => ?_⟩⟩
        by_cases hi : i < rows.length
        · rw [List.getElem?_append_left hi] at h1 h2
          rw [h1] at h2; cases h2
          exact ⟨rfl, fun j x x' e1 e2 => by rw [e1] at e2; cases e2; exact .keep _⟩
        · rw [List.getElem?_append_right (by omega)] at h1 h2
          have hi2 : i - rows.length = 0 := by have := (List.getElem?_eq_some_iff.1 h1).1; simp at this; omega
          rw [hi2] at h1 h2
          simp at h1 h2
          subst h1 h2
          refine ⟨rfl, fun j x x' e1 e2 => ?_⟩
          cases j with
          | zero => simp at e1 e2; subst e1 e2; exact hg
          | succ j => simp at e1
      · rw [List.getElem?_set_ne e, killB_keep hki] at hb'
        exact ⟨b', hb', .inl rfl⟩
    · have h1 : pv ≠ p := fun e => hn1 1 0 _ cv ev (by rw [e])
      have h2 : kk p = false := by
        cases h : kk p with
        | false => rfl
        | true => obtain ⟨k, o, l, c, e, hu⟩ := hku p h; exact absurd hu (hn2 k o l c e)
      rw [List.getElem?_set_ne h1, killB_keep h2]; exact hp
  rcases hu with ⟨rfl, rfl⟩ | ⟨pu, cu, eu, rfl, hpu⟩
  · exact key (fun _ => false) rfl .nil (fun p h => by cases h)
  · have hne : pu ≠ pv := fun e => hd _ _ _ _ _ _ _ _ _ _ _ rfl (by rw [e])
    refine key (fun i => i == pu) (by simp; omega) ?_ (fun p h => ⟨k, 0, row.length, cu, eu, by rw [eq_of_beq h]⟩)
    refine .sl pu k 0 row.length cu eu row row (by simp) hpu (by simp) rfl hb ?_ ?_
    · intro i r r' h1 h3
      simp at h1
      rw [h1] at h3; cases h3; rfl
    · intro i r r' j x x' h1 h3 e1 e2
      simp at h1
      rw [h1] at h3; cases h3
      rw [e1] at e2; cases e2
      exact .keep _
end Go.Sh
end
section
namespace Go.Sh.C3
open Go.Sh
set_option maxRecDepth 10000
set_option linter.unusedVariables false
set_option linter.unusedSimpArgs false
variable {P : Program}
end Go.Sh.C3
end
section
namespace Go.Sh.C3
open Go.Sh
set_option maxRecDepth 10000
set_option linter.unusedVariables false
set_option linter.unusedSimpArgs false
variable {P : Program}
end Go.Sh.C3
end
section
namespace Go.Sh.C3
open Go.Sh
variable {P : Program}

theorem answerS_one {a b : Rg} : answerS a b = 1 ↔ a.hi ≤ b.lo := by
  unfold answerS
  split
  · simp [*]
  · split <;> simp [*]
theorem coursesS_three : ∀ {l : List Sag} {x : Int}, x ∈ coursesS l → x = 0 ∨ x = 1 ∨ x = 2
  | [], x, h => by simp [coursesS] at h
  | s :: r, x, h => by
    simp only [coursesS, List.mem_cons] at h
    rcases h with rfl | h
    · unfold answerS; split <;> (try split) <;> simp
    · exact coursesS_three h
theorem standsS_one {l : List Sag} : standsS l = 1 ↔ ∀ x ∈ coursesS l, x = 1 := by
  unfold standsS allS
  split
  · rename_i h; simp; exact ⟨0, h, by decide⟩
  · rename_i h0
    split
    · rename_i h; simp; exact ⟨2, h, by decide⟩
    · rename_i h2
      simp only [true_iff]
      intro x hx
      rcases coursesS_three hx with rfl | rfl | rfl
      · exact absurd hx h0
      · rfl
      · exact absurd hx h2
theorem wOf_sub {m l : List Sag} (h : m.Sublist l) (hv : ∀ s ∈ l, sagB s = true) : 0 ≤ (wOf m).hi ∧ (wOf m).hi ≤ (wOf l).hi := by
  induction h with
  | slnil => simp [wOf, sumR]
  | cons s _ ih =>
    have := ih fun x hx => hv x (by simp [hx])
    have hs := hv s (by simp)
    simp [sagB, rgB, inR] at hs
    rw [wOf_cons]; simp only; omega
  | cons_cons s _ ih =>
    have := ih fun x hx => hv x (by simp [hx])
    have hs := hv s (by simp)
    simp [sagB, rgB, inR] at hs
    rw [wOf_cons, wOf_cons]; simp only; omega
theorem courses_sub {m l : List Sag} (h : m.Sublist l) (hv : ∀ s ∈ l, sagB s = true) (hc : ∀ x ∈ coursesS l, x = 1) : ∀ x ∈ coursesS m, x = 1 := by
  induction h with
  | slnil => simp [coursesS]
  | cons s _ ih => exact ih (fun x hx => hv x (by simp [hx])) fun x hx => hc x (by simp [coursesS, hx])
  | cons_cons s h ih =>
    intro x hx
    simp only [coursesS, List.mem_cons] at hx
    rcases hx with rfl | hx
    · have h1 := hc _ (by simp only [coursesS, List.mem_cons]; exact .inl rfl)
      rw [answerS_one] at h1 ⊢
      have := (wOf_sub h fun x hx => hv x (by simp [hx])).2
      omega
    · exact ih (fun x hx => hv x (by simp [hx])) (fun x hx => hc x (by simp [coursesS, hx])) x hx
theorem hOf_sub {m l : List Sag} (h : m.Sublist l) (hv : ∀ s ∈ l, sagB s = true) : 0 ≤ (hOf m).hi ∧ (hOf m).hi ≤ (hOf l).hi ∧ 0 ≤ (hOf m).lo ∧ (hOf m).lo ≤ (hOf l).lo := by
  induction h with
  | slnil => simp [hOf, sumR]
  | cons s _ ih =>
    have := ih fun x hx => hv x (by simp [hx])
    have hs := hv s (by simp)
    simp [sagB, rgB, inR] at hs
    simp [hOf, sumR] at this ⊢; omega
  | cons_cons s _ ih =>
    have := ih fun x hx => hv x (by simp [hx])
    have hs := hv s (by simp)
    simp [sagB, rgB, inR] at hs
    simp [hOf, sumR] at this ⊢; omega
theorem height_sub {w : Rg} {m l : List Sag} (hw : rgB w 0 200 = true) (h : m.Sublist l) (hv : ∀ s ∈ l, sagB s = true) (hm : 0 < m.length) : (heightS w m).hi ≤ (heightS w l).hi ∧ (heightS w m).lo ≤ (heightS w l).lo := by
  have hw' : 0 ≤ w.lo ∧ w.lo ≤ w.hi := by simp [rgB] at hw; omega
  have hl := h.length_le
  have h1 := hOf_sub h hv
  rw [heightS_eq w hm, heightS_eq w (by omega)]
  have a1 : ((m.length : Int) - 1) * w.hi ≤ ((l.length : Int) - 1) * w.hi := Int.mul_le_mul_of_nonneg_right (by omega) (by omega)
  have a2 : ((m.length : Int) - 1) * w.lo ≤ ((l.length : Int) - 1) * w.lo := Int.mul_le_mul_of_nonneg_right (by omega) (by omega)
  simp only
  omega
theorem leanG_sub {w : Int} (hw : 0 ≤ w) {m l : List Sag} (h : m.Sublist l) (hv : ∀ s ∈ l, sagB s = true) : 0 ≤ (leanG w m).2 ∧ (leanG w m).2 ≤ (leanG w l).2 ∧ 0 ≤ (leanG w m).1 ∧ (leanG w m).1 ≤ (leanG w l).1 := by
  induction h with
  | slnil => simp [leanG]
  | cons s _ ih =>
    obtain ⟨a1, a2, a3, a4⟩ := ih fun x hx => hv x (by simp [hx])
    have hs := hv s (by simp)
    simp [sagB, rgB, inR] at hs
    simp only [leanG]
    rename_i l' _
    have : 0 ≤ s.tilt * ((leanG w l').2 + s.h.hi) := Int.mul_nonneg (by omega) (by omega)
    omega
  | cons_cons s _ ih =>
    obtain ⟨a1, a2, a3, a4⟩ := ih fun x hx => hv x (by simp [hx])
    have hs := hv s (by simp)
    simp [sagB, rgB, inR] at hs
    simp only [leanG]
    rename_i m' l' _
    have b1 : 0 ≤ s.tilt * ((leanG w m').2 + s.h.hi) := Int.mul_nonneg (by omega) (by omega)
    have b2 : s.tilt * ((leanG w m').2 + s.h.hi) ≤ s.tilt * ((leanG w l').2 + s.h.hi) := Int.mul_le_mul_of_nonneg_left (by omega) (by omega)
    omega
theorem tail_sub {m l : List Sag} (h : m.Sublist l) : m.tail.Sublist l.tail := by
  cases h with
  | slnil => exact .slnil
  | cons s h =>
    simp only [List.tail_cons]
    exact (List.tail_sublist _).trans h
  | cons_cons s h => exact h
theorem lean_sub {w : Rg} {m l : List Sag} (hw : rgB w 0 200 = true) (h : m.Sublist l) (hv : ∀ s ∈ l, sagB s = true) : leanS w m ≤ leanS w l := by
  have hw' : 0 ≤ w.hi := by simp [rgB] at hw; omega
  obtain ⟨_, _, a3, a4⟩ := leanG_sub hw' (tail_sub h) fun x hx => hv x (List.mem_of_mem_tail hx)
  unfold leanS
  rw [Int.tdiv_eq_ediv_of_nonneg (by omega), Int.tdiv_eq_ediv_of_nonneg (by omega)]
  omega
theorem fitsS_one {w : Rg} {l : List Sag} {s : Spt} (hw : rgB w 0 200 = true) (hv : listB l = true) (hl : 0 < l.length) : fitsS w l s = 1 ↔ (heightS w l).hi ≤ s.crown ∧ leanS w l ≤ s.lean ∧ ∀ x ∈ coursesS l, x = 1 := by
  rw [← standsS_one]
  unfold fitsS
  have hlo : (heightS w l).lo ≤ (heightS w l).hi := by
    have hw' : 0 ≤ w.lo ∧ w.lo ≤ w.hi := by simp [rgB] at hw; omega
    rw [heightS_eq w hl]
    have a1 : ((l.length : Int) - 1) * w.lo ≤ ((l.length : Int) - 1) * w.hi := Int.mul_le_mul_of_nonneg_left (by omega) (by omega)
    have a2 : (hOf l).lo ≤ (hOf l).hi := by
      have hs := fun s hs => sag_w hv (s := s) hs
      clear hv hl a1
      induction l with
      | nil => simp [hOf, sumR]
      | cons s l ih =>
        have h1 := ih fun x hx => hs x (by simp [hx])
        have h2 := hs s (by simp)
        simp [sagB, rgB, inR] at h2
        simp [hOf, sumR] at h1 ⊢; omega
    simp only; omega
  split
  · rename_i h
    simp only [false_iff, reduceCtorEq, Int.reduceEq]
    rintro ⟨h1, h2, h3⟩
    rcases h with h | h
    · omega
    · rw [h3] at h; cases h
  · split
    · rename_i h; simp [h]
    · rename_i h
      simp only [Int.reduceEq, false_iff]
      exact fun hh => h ⟨hh.1, hh.2.1, hh.2.2⟩
theorem fits_sub {w : Rg} {m l : List Sag} {s : Spt} (hw : rgB w 0 200 = true) (h : m.Sublist l) (hv : listB l = true) (hvm : listB m = true) (hm : 0 < m.length) (hf : fitsS w l s = 1) : fitsS w m s = 1 := by
  have hl := h.length_le
  have hs := fun s hs => sag_w hv (s := s) hs
  rw [fitsS_one hw hv (by omega)] at hf
  rw [fitsS_one hw hvm hm]
  have h1 := height_sub hw h hs hm
  have h2 := lean_sub hw h hs
  exact ⟨by omega, by omega, courses_sub h hs hf.2.2⟩
end Go.Sh.C3
end
section
namespace Go.Sh.C3
open Go.Sh
variable {P : Program}

theorem insI_sub (r : Int → Int → Int) (x : Int) : ∀ l : List Int, l.Sublist (insI r x l)
  | [] => List.nil_sublist _
  | y :: l => by
    unfold insI
    split
    · exact (insI_sub r x l).cons_cons y
    · exact List.sublist_cons_self _ _
theorem ruleS_sub (l : List Sag) (b : List Int) (x : Int) : (ruleS l b).Sublist (ruleS l (b ++ [x])) := by
  unfold ruleS; rw [isortI_snoc]; exact insI_sub _ _ _
theorem doS_sub {w : Rg} {l : List Sag} {s : Spt} {b : List Int} {x : Int} (hw : rgB w 0 200 = true) (hv : listB l = true) (hs : okIx l.length (b ++ [x])) (hn : (b ++ [x]).Nodup) (hb : b ≠ []) (h : doS w l s (b ++ [x]) = true) : doS w l s b = true := by
  have hs' : okIx l.length b := fun i hi => hs i (by simp [hi])
  have hn' : b.Nodup := (List.nodup_append.1 hn).1
  unfold doS at h ⊢
  rw [beq_iff_eq] at h ⊢
  refine fits_sub hw ((ruleS_sub l b x).filterMap _) (listB_pick hv (ruleS_ok hs) (ruleS_nodup hn)) (listB_pick hv (ruleS_ok hs') (ruleS_nodup hn')) ?_ h
  have := pickS_len (ruleS_ok hs')
  rw [ruleS_length] at this
  rw [this]; exact List.length_pos_iff.2 hb

end Go.Sh.C3
end
section
namespace Go.Sh.C3
open Go.Sh
set_option maxRecDepth 10000
set_option linter.unusedVariables false
set_option linter.unusedSimpArgs false
variable {P : Program}
def ic_potbankref03_given : IC := .seq (.reg [⟨some 6, none, .mov (.c (.nsl))⟩] [0, 1, 2]) (.seq (.reg [⟨some 7, none, .mov (.c (.nsl))⟩] [0, 1, 2, 7]) (.seq (.seq (.reg [⟨some 8, none, .mov (.c (.i .i64 (0)))⟩] [0, 1, 2, 7, 8]) (.block 0 (.loop (.seq (.seq (.reg [⟨some 9, none, .mov (.t 8)⟩, ⟨some 10, none, .mov (.t 0)⟩, ⟨some 11, none, .len false (.t 10)⟩, ⟨some 12, none, .bin .lss (.t 9) (.t 11)⟩] [0, 1, 2, 7, 8, 12]) (.cond (.t 12) (.skip) (.exit 0))) (.seq (.block 1 (.reg [⟨some 15, none, .mov (.t 7)⟩, ⟨some 16, none, .bsl false 1 0 [.i .i64 (0)] []⟩, ⟨some 17, none, .mov (.t 0)⟩, ⟨some 18, none, .mov (.t 8)⟩, ⟨some 19, none, .ixs 1 (.t 17) (.t 18)⟩, ⟨some 20, none, .ld none (.t 19)⟩, ⟨some 21, none, .app 1 8 (.t 16) (.t 20)⟩, ⟨some 22, none, .bsl false 1 1 [.nsl] [(0, (.t 21))]⟩, ⟨some 23, none, .app 1 24 (.t 15) (.t 22)⟩, ⟨some 7, none, .mov (.t 23)⟩] [0, 1, 2, 7, 8])) (.reg [⟨some 13, none, .mov (.t 8)⟩, ⟨some 14, none, .bin .add (.t 13) (.c (.i .i64 (1)))⟩, ⟨some 8, none, .mov (.t 14)⟩] [0, 1, 2, 7, 8])))))) (.seq (.seq (.reg [⟨some 24, none, .mov (.t 1)⟩, ⟨some 25, none, .mov (.t 7)⟩, ⟨some 26, none, .len false (.t 25)⟩, ⟨some 27, none, .bin .eql (.t 24) (.t 26)⟩] [1, 2, 7, 27]) (.cond (.t 27) (.reg [⟨some 28, none, .mov (.t 7)⟩, ⟨some 29, none, .bsl false 1 1 [.nsl] [(0, (.c (.nsl)))]⟩, ⟨some 30, none, .app 1 24 (.t 28) (.t 29)⟩, ⟨some 7, none, .mov (.t 30)⟩] [1, 2, 7]) (.skip))) (.seq (.reg [⟨some 31, none, .mov (.t 7)⟩, ⟨some 32, none, .mov (.t 1)⟩, ⟨some 33, none, .mov (.t 7)⟩, ⟨some 34, none, .mov (.t 1)⟩, ⟨some 35, none, .ixs 1 (.t 33) (.t 34)⟩, ⟨some 36, none, .ld none (.t 35)⟩, ⟨some 37, none, .mov (.t 2)⟩, ⟨some 38, none, .bsl false 1 1 [.i .i64 (0)] [(0, (.t 37))]⟩, ⟨some 39, none, .app 1 8 (.t 36) (.t 38)⟩, ⟨some 40, none, .ixs 1 (.t 31) (.t 32)⟩, ⟨none, none, .st 1 (.t 40) (.t 39)⟩] [7]) (.seq (.reg [⟨some 41, none, .mov (.t 7)⟩, ⟨some 6, none, .mov (.t 41)⟩] [6]) (.ret))))))
abbrev Low_potbankref03_given (P : Program) (f : Nat) : Prop := lowF P f = some (42, [.tmp 6], (ic_potbankref03_given).erase)
/-- An append that leaves all other slices as they were. -/
theorem app_ownA {k bytes : Nat} {x y : V} {H l : List Blk} {rows ys : List (List V)} {K : V → List Blk → Prop} (hx : OwnS H k rows x) (h0 : 0 < k) (hb : bytes ≤ 1000000) (hy : Sh.shown (H ++ l) y = some ys) (hys : ∀ r ∈ ys, r.length = k ∧ r.all V.one = true)
    (hl : rows.length + ys.length ≤ 1000000) (hK : ∀ x' H', OwnS H' k (rows ++ ys) x' → (∀ kv rv v, OwnS H kv rv v → Dis x v → OwnS H' kv rv v ∧ Dis x' v) → K x' H') : appI k bytes x y (H ++ l) K :=
  app_own (hx.app l) h0 hb hy hys hl fun x' H' h1 h2 h3 => hK x' H' h1 fun kv rv v hv hd =>
    ⟨hv.move fun p b c e hp hve => h2.keep p b (get_app hp l) fun k o l c e hxe => hd _ _ _ _ _ _ _ _ _ _ _ hxe hve,
    fun p k o l' c e k' o' l'' c' e' he hve => by
      rcases h3 p k o l' c e he with g | g
      · exact hd _ _ _ _ _ _ _ _ _ _ _ g hve
      · have := hv.lt hve; simp at g; omega⟩
theorem frz_set {H : List Blk} {p i n c : Nat} {e : Bool} {rows z : List (List V)} {u : V} (h : H[p]? = some (.row 1 (rows.set i [u]))) (hn : rows.length = n) (hb : ∀ row ∈ rows.set i [.fsl z], belL 0 row = true) (hu : Frz 0 H u (.fsl z)) : Frz 0 H (.rsl p 1 0 n c e) (.fsl (rows.set i [.fsl z])) := by
  subst hn
  refine .sl p 1 0 rows.length c e _ _ (Nat.zero_le _) h (by simp) (by simp) hb ?_ ?_
  · intro j row row' h1 h3
    rw [List.drop_zero, List.take_of_length_le (by simp)] at h1
    rw [List.getElem?_set] at h1 h3
    split at h1
    · rename_i hij
      rw [if_pos hij] at h3
      split at h1
      · rename_i hl
        rw [if_pos hl] at h3
        cases h1; cases h3; rfl
      · cases h1
    · rename_i hij
      rw [if_neg hij] at h3
      rw [h1] at h3; cases h3; rfl
  · intro j row row' q x x' h1 h3 e1 e2
    rw [List.drop_zero, List.take_of_length_le (by simp)] at h1
    have hmem := List.mem_of_getElem? h3
    rw [List.getElem?_set] at h1 h3
    split at h1
    · rename_i hij
      rw [if_pos hij] at h3
      split at h1
      · rename_i hl
        rw [if_pos hl] at h3
        cases h1; cases h3
        cases q with
        | zero => simp at e1 e2; subst e1 e2; exact hu
        | succ q => simp at e1
      · cases h1
    · rename_i hij
      rw [if_neg hij] at h3
      rw [h1] at h3; cases h3
      rw [e1] at e2; cases e2; exact .keep _ (belL_get (hb _ hmem) e1)

def C_given (P : Program) (f : Nat) : Prop := ∀ (bs : List (List Int)) (k : Nat) (i : Int), k ≤ bs.length → bs.length ≤ 1000 → (∀ b ∈ bs, b ≠ [] ∧ b.length ≤ 1000) → Snd P f [.fsl (bs.map rowC), .i .i64 k, .i .i64 i] [] (.fsl ((addS bs k i).map rowC)) []
/-- The rows that were laid, the k-th one a slice of one's own. -/
def Rows (bs : List (List Int)) (k n : Nat) (H : List Blk) (v : V) : Prop := ∃ rows, OwnS H 1 rows v ∧ rows.length = n ∧ ((n ≤ k ∧ rows = (bs.take n).map rowC) ∨ (k < n ∧ ∃ u b, bs[k]? = some b ∧ rows = ((bs.take n).map rowC).set k [u] ∧ OwnS H 1 (b.map intC) u ∧ Dis v u))
theorem rows_next {bs : List (List Int)} {k n : Nat} {H H' : List Blk} {v v' x : V} {rows : List (List V)} {b : List Int} (hb : bs[n]? = some b) (ho : OwnS H 1 rows v) (hn : rows.length = n) (hs : (n ≤ k ∧ rows = (bs.take n).map rowC) ∨ (k < n ∧ ∃ u b, bs[k]? = some b ∧ rows = ((bs.take n).map rowC).set k [u] ∧ OwnS H 1 (b.map intC) u ∧ Dis v u))
    (hv' : OwnS H' 1 (rows ++ [[x]]) v') (hx' : OwnS H' 1 (b.map intC) x) (hd' : Dis v' x) (hmv : ∀ kv rv w, OwnS H kv rv w → Dis v w → OwnS H' kv rv w ∧ Dis v' w ∧ Dis x w) : ∃ H2, (∀ E : Env, Shift E H' E H2) ∧ Rows bs k (n + 1) H2 v' := by
  have hlt := (List.getElem?_eq_some_iff.1 hb).1
  have htk : bs.take (n + 1) = bs.take n ++ [b] := by rw [List.take_add_one, hb]; rfl
  have hbel : ∀ r ∈ b.map intC, belL 0 r = true := bel_ints b
  rcases Nat.lt_trichotomy n k with h | h | h
  · obtain ⟨H2, hs2, hv2, _, _⟩ := shift_last hv' hx' hd' hbel
    have hr : rows = (bs.take n).map rowC := by rcases hs with ⟨_, g⟩ | ⟨g, _⟩ <;> first | exact g | omega
    exact ⟨H2, hs2, _, hv2, by simp [hn], .inl ⟨by omega, by rw [htk, List.map_append, hr]; rfl⟩⟩
  · subst h
    have hr : rows = (bs.take n).map rowC := by rcases hs with ⟨_, g⟩ | ⟨g, _⟩ <;> first | exact g | omega
    refine ⟨H', fun E => .refl _ _, _, hv', by simp [hn], .inr ⟨by omega, x, b, hb, ?_, hx', hd'⟩⟩
    rw [htk, List.map_append, hr, List.set_append_right _ _ (by simp; omega)]
    simp [Nat.min_eq_left (show n ≤ bs.length by omega)]
  · obtain ⟨u, bk, hbk, hr, hu, hdu⟩ : ∃ u bk, bs[k]? = some bk ∧ rows = ((bs.take n).map rowC).set k [u] ∧ OwnS H 1 (bk.map intC) u ∧ Dis v u := by rcases hs with ⟨g, _⟩ | ⟨_, g⟩ <;> first | exact g | omega
    obtain ⟨H2, hs2, hv2, _, hkeep⟩ := shift_last hv' hx' hd' hbel
    obtain ⟨m1, m2, m3⟩ := hmv _ _ _ hu hdu
    refine ⟨H2, hs2, _, hv2, by simp [hn], .inr ⟨by omega, u, bk, hbk, ?_, m1.move fun p b c e hp hue => hkeep p b hp (fun k o l c e he => m2 _ _ _ _ _ _ _ _ _ _ _ he hue) (fun k o l c e he => m3 _ _ _ _ _ _ _ _ _ _ _ he hue), m2⟩⟩
    rw [htk, List.map_append, hr, List.set_append_left _ _ (by simp; omega)]
    rfl
theorem ok_given (hm : P.follows .mixedOrders = true) {f : Nat} (low : Low_potbankref03_given P f) : C_given P f := by
  intro bs k i hk hl hbs
  refine snd_ic hm low (by simp) ?_
  unfold ic_potbankref03_given
  simp -dsimp -implicitDefEqProofs only [qq, Nat.reduceBEq, reduceIte, Nat.reduceAdd, Nat.reduceSub, Nat.reduceLeDiff, Nat.reduceLT, Nat.reduceMul, Nat.reduceEqDiff, Int.reduceEq, Int.reduceBEq, Int.reduceBNe, Int.reduceLT, Int.reduceLE, Int.reduceGT, Int.reduceGE, Int.reduceNeg, Int.reduceAdd, Int.reduceSub, reduceCtorEq, List.reduceReplicate, ← List.map_take, ← List.map_drop]
  refine loopI_sh (fun n : Nat => bs.length - n) (fun n E H => n ≤ bs.length ∧ ∃ v, E = [(0, .fsl (bs.map rowC)), (1, .i .i64 k), (2, .i .i64 i), (7, v), (8, .i .i64 n)] ∧ Rows bs k n H v) 0 (.refl _ _) ⟨by omega, _, rfl, [], .nil _ _, rfl, .inl ⟨by omega, rfl⟩⟩ ?_
  rintro n _ H ⟨hn, v, rfl, rows, ho, hrl, hs⟩
  rcases Nat.lt_or_ge n bs.length with hkl | hkl
  · have hc : decide ((n : Int) < (bs.length : Int)) = true := by simpa using hkl
    obtain ⟨b, hb, hbm, _, _⟩ := next_of hkl
    obtain ⟨hbne, hbl⟩ := hbs b hbm
    have hwn : IntKind.i64.wrap ((n : Int) + 1) = ((n + 1 : Nat) : Int) := wrap_succ (by omega)
    simp -dsimp -implicitDefEqProofs only [hc, hb, rowC, qq, Nat.reduceBEq, reduceIte, Nat.reduceAdd, Nat.reduceSub, Nat.reduceLeDiff, Nat.reduceLT, Nat.reduceMul, Nat.reduceEqDiff, Int.reduceEq, Int.reduceBEq, Int.reduceBNe, Int.reduceLT, Int.reduceLE, Int.reduceGT, Int.reduceGE, Int.reduceNeg, Int.reduceAdd, Int.reduceSub, reduceCtorEq, List.reduceReplicate, ← List.map_take, ← List.map_drop]
    refine app_emp (ys := b.map intC) (by decide) (by decide) rfl (fun r hr => by obtain ⟨x, _, rfl⟩ := List.mem_map.1 hr; exact ⟨rfl, rfl⟩) (by simp; omega) fun x H' hx => ?_
    have hxo : OwnS H' 1 (b.map intC) x := hx.own
    obtain ⟨px, cx, ex, rfl, hpx⟩ := hxo.pos (by simpa using hbne)
    have hfx := hx.fresh _ _ _ _ _ _ rfl
    have hov : OwnS H' 1 rows v := ho.move fun p b c e hp _ => hx.keep p b hp
    have hdv : Dis v (.rsl px 1 0 (b.map intC).length cx ex) := fun p k o l c e k' o' l' c' e' h1 h2 => by have := ho.lt h1; cases h2; omega
    simp -dsimp -implicitDefEqProofs only [qq, Nat.reduceBEq, reduceIte, Nat.reduceAdd, Nat.reduceSub, Nat.reduceLeDiff, Nat.reduceLT, Nat.reduceMul, Nat.reduceEqDiff, Int.reduceEq, Int.reduceBEq, Int.reduceBNe, Int.reduceLT, Int.reduceLE, Int.reduceGT, Int.reduceGE, Int.reduceNeg, Int.reduceAdd, Int.reduceSub, reduceCtorEq, List.reduceReplicate, ← List.map_take, ← List.map_drop]
    refine app_ownA (ys := [[.rsl px 1 0 (b.map intC).length cx ex]]) hov (by decide) (by decide) (by simp [Sh.shown, gapp]) (by simp [V.one]) (by simp; omega) fun v' H3 hv' hA => ?_
    obtain ⟨hx3, hd3⟩ := hA _ _ _ hxo hdv
    simp -dsimp -implicitDefEqProofs only [hwn, qq, Nat.reduceBEq, reduceIte, Nat.reduceAdd, Nat.reduceSub, Nat.reduceLeDiff, Nat.reduceLT, Nat.reduceMul, Nat.reduceEqDiff, Int.reduceEq, Int.reduceBEq, Int.reduceBNe, Int.reduceLT, Int.reduceLE, Int.reduceGT, Int.reduceGE, Int.reduceNeg, Int.reduceAdd, Int.reduceSub, reduceCtorEq, List.reduceReplicate, ← List.map_take, ← List.map_drop]
    obtain ⟨H2, hs2, hR⟩ := rows_next (k := k) hb ho hrl hs hv' hx3 hd3 fun kv rv w hw hd => by
      have hw' : OwnS H' kv rv w := hw.move fun p b c e hp _ => hx.keep p b hp
      obtain ⟨g1, g2⟩ := hA _ _ _ hw' hd
      exact ⟨g1, g2, fun p k o l c e k' o' l' c' e' h1 h2 => by have := hw.lt h2; cases h1; omega⟩
    exact ⟨n + 1, by omega, _, H2, hs2 _, by omega, v', rfl, hR⟩
  have hc : decide ((n : Int) < (bs.length : Int)) = false := by simp; omega
  obtain rfl : n = bs.length := by omega
  rw [List.take_of_length_le (Nat.le_refl _)] at hs
  rcases hs with ⟨hle, rfl⟩ | ⟨hlt, u, b, hb, rfl, hu, hd⟩
  case' inr =>
    obtain ⟨p2, c2, e2, hve, hp2⟩ := ho.pos (by simp; intro e; rw [e] at hlt; simp at hlt)
    obtain ⟨n2, hn2⟩ : ∃ n2, n2 = bs.length := ⟨_, rfl⟩
    have hN : ((bs.map rowC).set k [u]).length = n2 := by simp [hn2]
    rw [hN] at hve
    subst hve
    have hq : ((k : Int) == (n2 : Int)) = false := by simp; omega
    have hset : ((bs.map rowC).set k [u]).set k [V.fsl ((b ++ [i]).map intC)] = (addS bs k i).map rowC := by
      rw [List.set_set]; simp only [addS, if_pos hlt, hb, Option.getD_some, List.map_set]
    have hrow : ((bs.map rowC).set k [u])[k]? = some [u] := by rw [List.getElem?_set_self (by simpa using hlt)]
    have hbl : b.length ≤ 1000 := (hbs b (List.mem_of_getElem? hb)).2
    replace hd := hd.symm
    simp -dsimp -implicitDefEqProofs only [hc, hq, qq, Nat.reduceBEq, reduceIte, Nat.reduceAdd, Nat.reduceSub, Nat.reduceLeDiff, Nat.reduceLT, Nat.reduceMul, Nat.reduceEqDiff, Int.reduceEq, Int.reduceBEq, Int.reduceBNe, Int.reduceLT, Int.reduceLE, Int.reduceGT, Int.reduceGE, Int.reduceNeg, Int.reduceAdd, Int.reduceSub, reduceCtorEq, List.reduceReplicate, ← List.map_take, ← List.map_drop]
    generalize hR : (bs.map rowC).set k [u] = R at *
    generalize hH : H = H2 at *
  case' inl =>
    have hkk : k = bs.length := by omega
    have hgap : ∀ {Q : V → List Blk → Prop}, (∀ v' H3, OwnS H3 1 (bs.map rowC ++ [[V.nsl]]) v' → Q v' H3) → appI 1 24 v (.rsl H.length 1 0 1 1 true) (H ++ [.row 1 [[V.nsl]]]) Q := fun hQ => app_ownA (ys := [[.nsl]]) ho (by decide) (by decide) (by simp [Sh.shown]) (by simp [V.one]) (by simp; omega) fun v' H3 hv' _ => hQ v' H3 hv'
    have hq : ((k : Int) == (bs.length : Int)) = true := by simp [hkk]
    rcases ho with ⟨hnil, rfl⟩ | ⟨pv, cv, ev, hve, hpv⟩
    case' inl =>
      have hq0 : ((k : Int) == 0) = true := by simp at hnil; simp [hkk, hnil]
      simp -dsimp -implicitDefEqProofs only [hc, hq0, qq, Nat.reduceBEq, reduceIte, Nat.reduceAdd, Nat.reduceSub, Nat.reduceLeDiff, Nat.reduceLT, Nat.reduceMul, Nat.reduceEqDiff, Int.reduceEq, Int.reduceBEq, Int.reduceBNe, Int.reduceLT, Int.reduceLE, Int.reduceGT, Int.reduceGE, Int.reduceNeg, Int.reduceAdd, Int.reduceSub, reduceCtorEq, List.reduceReplicate, ← List.map_take, ← List.map_drop]
    case' inr =>
      rw [List.length_map] at hve
      subst hve
      simp -dsimp -implicitDefEqProofs only [hc, hq, qq, Nat.reduceBEq, reduceIte, Nat.reduceAdd, Nat.reduceSub, Nat.reduceLeDiff, Nat.reduceLT, Nat.reduceMul, Nat.reduceEqDiff, Int.reduceEq, Int.reduceBEq, Int.reduceBNe, Int.reduceLT, Int.reduceLE, Int.reduceGT, Int.reduceGE, Int.reduceNeg, Int.reduceAdd, Int.reduceSub, reduceCtorEq, List.reduceReplicate, ← List.map_take, ← List.map_drop]
    all_goals
      refine hgap fun v2 H2 hv2 => ?_
      obtain ⟨p2, c2, e2, rfl, hp2⟩ := hv2.pos (by simp)
      generalize hN0 : (bs.map rowC ++ [[V.nsl]]).length = n2 at *
      obtain ⟨R, u, b, hp2, hset, hrow, hu, hd, hN, hbl⟩ : ∃ R u, ∃ b : List Int, H2[p2]? = some (.row 1 R) ∧ R.set k [V.fsl ((b ++ [i]).map intC)] = (addS bs k i).map rowC ∧ R[k]? = some [u] ∧ OwnS H2 1 (b.map intC) u ∧ Dis u (.rsl p2 1 0 n2 c2 e2) ∧ R.length = n2 ∧ b.length ≤ 1000 :=
        ⟨_, .nsl, [], hp2, by simp [addS, hkk, List.set_append_right], by rw [hkk, List.getElem?_append_right (by simp)]; simp, .nil _ _, .nil _, hN0, by simp⟩
  all_goals
    have hlr : k < R.length := (List.getElem?_eq_some_iff.1 hrow).1
    have hRo : OwnS H2 1 R (.rsl p2 1 0 n2 c2 e2) := .inr ⟨p2, c2, e2, by rw [hN], hp2⟩
    simp -dsimp -implicitDefEqProofs only [hp2, hrow, qq, Nat.reduceBEq, reduceIte, Nat.reduceAdd, Nat.reduceSub, Nat.reduceLeDiff, Nat.reduceLT, Nat.reduceMul, Nat.reduceEqDiff, Int.reduceEq, Int.reduceBEq, Int.reduceBNe, Int.reduceLT, Int.reduceLE, Int.reduceGT, Int.reduceGE, Int.reduceNeg, Int.reduceAdd, Int.reduceSub, reduceCtorEq, List.reduceReplicate, ← List.map_take, ← List.map_drop]
    refine ⟨by omega, by omega, ?_⟩
    refine app_ownA (ys := [[.i .i64 i]]) hu (by decide) (by decide) (by simp [Sh.shown]) (by simp [V.one]) (by rw [List.length_map]; simp; omega) fun u' H3 hu' hA => ?_
    obtain ⟨hR3, hd3⟩ := hA _ _ _ hRo hd
    obtain ⟨p3, c3, e3, rfl, hp3⟩ := hu'.pos (by simp)
    have hpR : H3[p2]? = some (.row 1 R) := by
      obtain ⟨p, c, e, he, hp⟩ := hR3.pos (by intro e; rw [e] at hlr; simp at hlr)
      cases he; exact hp
    have hne : p2 ≠ p3 := fun e => hd3 _ _ _ _ _ _ _ _ _ _ _ rfl (by rw [← e])
    simp -dsimp -implicitDefEqProofs only [hpR, qq, Nat.reduceBEq, reduceIte, Nat.reduceAdd, Nat.reduceSub, Nat.reduceLeDiff, Nat.reduceLT, Nat.reduceMul, Nat.reduceEqDiff, Int.reduceEq, Int.reduceBEq, Int.reduceBNe, Int.reduceLT, Int.reduceLE, Int.reduceGT, Int.reduceGE, Int.reduceNeg, Int.reduceAdd, Int.reduceSub, reduceCtorEq, List.reduceReplicate, ← List.map_take, ← List.map_drop]
    refine ⟨by omega, by omega, ?_⟩
    refine ⟨_, hrow, Nat.le_refl _, ?_⟩
    rw [← hset]
    refine Ends.ret rfl ?_
    have hb2 : ∀ row ∈ R.set k [V.fsl ((b ++ [i]).map intC)], belL 0 row = true := by rw [hset]; exact bel_rows _
    refine frz_set (u := .rsl p3 1 0 (b.length + 1) c3 e3) (by rw [List.getElem?_set_self (get_lt hpR)]; rfl) hN hb2 ?_
    refine OwnS.frz (k := 1) (.inr ⟨p3, c3, e3, by simp, ?_⟩) (bel_ints _)
    rw [List.getElem?_set_ne hne, hp3, List.map_append]
    rfl

theorem mem_flat_len {bs : List (List Int)} {b : List Int} (h : b ∈ bs) : b.length ≤ bs.flatten.length := by
  induction bs with
  | nil => simp at h
  | cons x bs ih =>
    rcases List.mem_cons.1 h with rfl | h
    · simp
    · have := ih h; simp only [List.flatten_cons, List.length_append]; omega
end Go.Sh.C3
end
section
namespace Go.Sh.C3
open Go.Sh
set_option maxRecDepth 10000
set_option linter.unusedVariables false
set_option linter.unusedSimpArgs false
variable {P : Program}
def ic_potbankref03_Mod : IC := .seq (.reg [⟨some 4, none, .mov (.c (.i .i64 (0)))⟩] [0, 1]) (.seq (.reg [⟨some 5, none, .mov (.t 0)⟩, ⟨some 6, none, .mov (.t 1)⟩, ⟨some 7, none, .bin .rem (.t 5) (.t 6)⟩, ⟨some 8, none, .mov (.t 1)⟩, ⟨some 9, none, .bin .add (.t 7) (.t 8)⟩, ⟨some 10, none, .mov (.t 1)⟩, ⟨some 11, none, .bin .rem (.t 9) (.t 10)⟩, ⟨some 4, none, .mov (.t 11)⟩] [4]) (.ret))
abbrev Low_potbankref03_Mod (P : Program) (f : Nat) : Prop := lowF P f = some (12, [.tmp 4], (ic_potbankref03_Mod).erase)
def ic_potbankref03_Made (f0 : Nat) : IC := .seq (.reg [⟨some 4, none, .mov (.c (.nsl))⟩] [0, 1]) (.seq (.reg [⟨some 5, none, .mov (.c (.nsl))⟩] [0, 1, 5]) (.seq (.seq (.reg [⟨some 6, none, .mov (.c (.i .i64 (0)))⟩] [0, 1, 5, 6]) (.block 0 (.loop (.seq (.seq (.reg [⟨some 11, none, .mov (.t 6)⟩, ⟨some 12, none, .mov (.t 0)⟩, ⟨some 13, none, .len false (.t 12)⟩, ⟨some 14, none, .bin .lss (.t 11) (.t 13)⟩, ⟨some 15, none, .mov (.t 14)⟩, ⟨some 16, some (15, true), .mov (.t 6)⟩, ⟨some 17, some (15, true), .mov (.t 1)⟩, ⟨some 18, some (15, true), .bin .lss (.t 16) (.t 17)⟩, ⟨some 19, none, .pick (.t 15) (.t 18) (.c (.b false))⟩] [0, 1, 5, 6, 19]) (.cond (.t 19) (.skip) (.exit 0))) (.seq (.block 1 (.seq (.reg [⟨some 22, none, .mov (.t 0)⟩, ⟨some 23, none, .mov (.t 6)⟩, ⟨some 24, none, .ixs 7 (.t 22) (.t 23)⟩, ⟨some 25, none, .ld (some 7) (.t 24)⟩, ⟨some 7, none, .alloc [.i .i64 (0), .i .i64 (0), .i .i64 (0), .i .i64 (0), .i .i64 (0), .i .i64 (0), .i .i64 (0)]⟩, ⟨none, none, .st 7 (.t 7) (.t 25)⟩] [0, 1, 5, 6, 7]) (.seq (.reg [⟨some 26, none, .ixa 7 1 (.t 7) (.c (.i .i64 (0)))⟩, ⟨some 27, none, .ld none (.t 26)⟩, ⟨some 28, none, .calv (.c (.fn (.func f0) [] [])) [.t 27, .c (.i .i64 (200))]⟩, ⟨some 8, none, .mov (.t 28)⟩] [0, 1, 5, 6, 7, 8]) (.seq (.reg [⟨some 29, none, .ixa 7 1 (.t 7) (.c (.i .i64 (2)))⟩, ⟨some 30, none, .ld none (.t 29)⟩, ⟨some 31, none, .calv (.c (.fn (.func f0) [] [])) [.t 30, .c (.i .i64 (900))]⟩, ⟨some 9, none, .mov (.t 31)⟩] [0, 1, 5, 6, 7, 8, 9]) (.seq (.reg [⟨some 32, none, .ixa 7 1 (.t 7) (.c (.i .i64 (4)))⟩, ⟨some 33, none, .ld none (.t 32)⟩, ⟨some 34, none, .calv (.c (.fn (.func f0) [] [])) [.t 33, .c (.i .i64 (300))]⟩, ⟨some 35, none, .bin .add (.c (.i .i64 (20))) (.t 34)⟩, ⟨some 10, none, .mov (.t 35)⟩] [0, 1, 5, 6, 7, 8, 9, 10]) (.drg [(0, ⟨some 36, none, .mov (.t 5)⟩), (0, ⟨some 37, none, .mov (.t 6)⟩), (0, ⟨some 38, none, .bin .add (.c (.i .i64 (1))) (.t 37)⟩), (0, ⟨some 39, none, .ixa 7 1 (.t 7) (.c (.i .i64 (6)))⟩), (0, ⟨some 40, none, .ld none (.t 39)⟩), (0, ⟨some 41, none, .calv (.c (.fn (.func f0) [] [])) [.t 40, .c (.i .i64 (20))]⟩), (0, ⟨some 42, none, .bin .mul (.c (.i .i64 (40))) (.t 41)⟩), (0, ⟨some 43, none, .bin .add (.t 38) (.t 42)⟩), (0, ⟨some 44, none, .mov (.t 8)⟩), (0, ⟨some 45, none, .mov (.t 8)⟩), (0, ⟨some 46, none, .ixa 7 1 (.t 7) (.c (.i .i64 (1)))⟩), (0, ⟨some 47, none, .ld none (.t 46)⟩), (0, ⟨some 48, none, .calv (.c (.fn (.func f0) [] [])) [.t 47, .c (.i .i64 (40))]⟩), (0, ⟨some 49, none, .bin .add (.t 45) (.t 48)⟩), (0, ⟨some 50, none, .bld [.i .i64 (0), .i .i64 (0)] [(0, 1, (.t 44)), (1, 1, (.t 49))]⟩), (0, ⟨some 51, none, .mov (.t 9)⟩), (0, ⟨some 52, none, .mov (.t 9)⟩), (0, ⟨some 53, none, .ixa 7 1 (.t 7) (.c (.i .i64 (3)))⟩), (0, ⟨some 54, none, .ld none (.t 53)⟩), (0, ⟨some 55, none, .calv (.c (.fn (.func f0) [] [])) [.t 54, .c (.i .i64 (60))]⟩), (0, ⟨some 56, none, .bin .add (.t 52) (.t 55)⟩), (0, ⟨some 57, none, .bld [.i .i64 (0), .i .i64 (0)] [(0, 1, (.t 51)), (1, 1, (.t 56))]⟩), (0, ⟨some 58, none, .mov (.t 10)⟩), (0, ⟨some 59, none, .mov (.t 10)⟩), (0, ⟨some 60, none, .ixa 7 1 (.t 7) (.c (.i .i64 (5)))⟩), (0, ⟨some 61, none, .ld none (.t 60)⟩), (0, ⟨some 62, none, .calv (.c (.fn (.func f0) [] [])) [.t 61, .c (.i .i64 (12))]⟩), (0, ⟨some 63, none, .bin .add (.t 59) (.t 62)⟩), (0, ⟨some 64, none, .bld [.i .i64 (0), .i .i64 (0)] [(0, 1, (.t 58)), (1, 1, (.t 63))]⟩), (0, ⟨some 65, none, .ixa 7 1 (.t 7) (.c (.i .i64 (6)))⟩), (0, ⟨some 66, none, .ld none (.t 65)⟩), (0, ⟨some 67, none, .calv (.c (.fn (.func f0) [] [])) [.t 66, .c (.i .i64 (25))]⟩), (0, ⟨some 68, none, .bld [.i .i64 (0), .i .i64 (0), .i .i64 (0), .i .i64 (0), .i .i64 (0), .i .i64 (0), .i .i64 (0), .i .i64 (0)] [(0, 1, (.t 43)), (1, 2, (.t 50)), (3, 2, (.t 57)), (5, 2, (.t 64)), (7, 1, (.t 67))]⟩), (1, ⟨some 69, none, .bsl false 8 1 [.i .i64 (0), .i .i64 (0), .i .i64 (0), .i .i64 (0), .i .i64 (0), .i .i64 (0), .i .i64 (0), .i .i64 (0)] [(0, (.t 68))]⟩), (1, ⟨some 70, none, .app 8 64 (.t 36) (.t 69)⟩), (0, ⟨some 5, none, .mov (.t 70)⟩)] 34 [0, 1, 5, 6])))))) (.reg [⟨some 20, none, .mov (.t 6)⟩, ⟨some 21, none, .bin .add (.t 20) (.c (.i .i64 (1)))⟩, ⟨some 6, none, .mov (.t 21)⟩] [0, 1, 5, 6])))))) (.seq (.reg [⟨some 71, none, .mov (.t 5)⟩, ⟨some 4, none, .mov (.t 71)⟩] [4]) (.ret))))
abbrev Low_potbankref03_Made (P : Program) (f f0 : Nat) : Prop := lowF P f = some (72, [.tmp 4], (ic_potbankref03_Made f0).erase)
def ic_potbankref03_Wad (f0 : Nat) : IC := .seq (.reg [⟨some 1, none, .box (.t 0)⟩, ⟨some 2, none, .alloc [.i .i64 (0), .i .i64 (0)]⟩] [1, 2]) (.seq (.reg [⟨some 4, none, .ixa 2 1 (.t 1) (.c (.i .i64 (0)))⟩, ⟨some 5, none, .ld none (.t 4)⟩, ⟨some 6, none, .calv (.c (.fn (.func f0) [] [])) [.t 5, .c (.i .i64 (15))]⟩, ⟨some 3, none, .mov (.t 6)⟩] [1, 2, 3]) (.seq (.reg [⟨some 7, none, .mov (.t 3)⟩, ⟨some 8, none, .mov (.t 3)⟩, ⟨some 9, none, .ixa 2 1 (.t 1) (.c (.i .i64 (1)))⟩, ⟨some 10, none, .ld none (.t 9)⟩, ⟨some 11, none, .calv (.c (.fn (.func f0) [] [])) [.t 10, .c (.i .i64 (10))]⟩, ⟨some 12, none, .bin .add (.t 8) (.t 11)⟩, ⟨some 13, none, .bld [.i .i64 (0), .i .i64 (0)] [(0, 1, (.t 7)), (1, 1, (.t 12))]⟩, ⟨none, none, .st 2 (.t 2) (.t 13)⟩] [2]) (.ret)))
abbrev Low_potbankref03_Wad (P : Program) (f f0 : Nat) : Prop := lowF P f = some (14, [.cell 2 (some 2)], (ic_potbankref03_Wad f0).erase)
def ic_potbanklaw03_one (f0 : Nat) : IC := .seq (.reg [⟨some 2, none, .box (.t 0)⟩, ⟨some 4, none, .mov (.c (.i .i64 (0)))⟩] [1, 2]) (.seq (.drg [(0, ⟨some 5, none, .fad 0 (.t 2)⟩), (0, ⟨some 6, none, .ld none (.t 5)⟩), (0, ⟨some 7, none, .mov (.t 1)⟩), (0, ⟨some 8, none, .fad 1 (.t 2)⟩), (0, ⟨some 9, none, .ld none (.t 8)⟩), (0, ⟨some 10, none, .fad 0 (.t 2)⟩), (0, ⟨some 11, none, .ld none (.t 10)⟩), (0, ⟨some 12, none, .bin .sub (.t 9) (.t 11)⟩), (0, ⟨some 13, none, .bin .add (.t 12) (.c (.i .i64 (1)))⟩), (0, ⟨some 14, none, .calv (.c (.fn (.func f0) [] [])) [.t 7, .t 13]⟩), (0, ⟨some 15, none, .bin .add (.t 6) (.t 14)⟩), (0, ⟨some 4, none, .mov (.t 15)⟩)] 10 [4]) (.ret))
abbrev Low_potbanklaw03_one (P : Program) (f f0 : Nat) : Prop := lowF P f = some (16, [.tmp 4], (ic_potbanklaw03_one f0).erase)
def ic_potbanklaw03_at : IC := .seq (.reg [⟨some 4, none, .mov (.c (.i .i64 (0)))⟩] [0, 1]) (.seq (.seq (.reg [⟨some 5, none, .mov (.t 0)⟩, ⟨some 6, none, .len false (.t 5)⟩, ⟨some 7, none, .bin .eql (.t 6) (.c (.i .i64 (0)))⟩] [0, 1, 7]) (.cond (.t 7) (.seq (.reg [⟨some 4, none, .mov (.c (.i .i64 (0)))⟩] [4]) (.ret)) (.skip))) (.seq (.reg [⟨some 8, none, .mov (.t 0)⟩, ⟨some 9, none, .mov (.t 1)⟩, ⟨some 10, none, .mov (.t 0)⟩, ⟨some 11, none, .len false (.t 10)⟩, ⟨some 12, none, .bin .rem (.t 9) (.t 11)⟩, ⟨some 13, none, .ixs 1 (.t 8) (.t 12)⟩, ⟨some 14, none, .ld none (.t 13)⟩, ⟨some 4, none, .mov (.t 14)⟩] [4]) (.ret)))
abbrev Low_potbanklaw03_at (P : Program) (f : Nat) : Prop := lowF P f = some (15, [.tmp 4], (ic_potbanklaw03_at).erase)
theorem tn0 : Int.toNat 0 * 1 = 0 := rfl
theorem tl0 : ((0 : Int) < ((7 : Nat) : Int)) = True := by decide
theorem tn1 : Int.toNat 1 * 1 = 1 := rfl
theorem tl1 : ((1 : Int) < ((7 : Nat) : Int)) = True := by decide
theorem tn2 : Int.toNat 2 * 1 = 2 := rfl
theorem tl2 : ((2 : Int) < ((7 : Nat) : Int)) = True := by decide
theorem tn3 : Int.toNat 3 * 1 = 3 := rfl
theorem tl3 : ((3 : Int) < ((7 : Nat) : Int)) = True := by decide
theorem tn4 : Int.toNat 4 * 1 = 4 := rfl
theorem tl4 : ((4 : Int) < ((7 : Nat) : Int)) = True := by decide
theorem tn5 : Int.toNat 5 * 1 = 5 := rfl
theorem tl5 : ((5 : Int) < ((7 : Nat) : Int)) = True := by decide
theorem tn6 : Int.toNat 6 * 1 = 6 := rfl
theorem tl6 : ((6 : Int) < ((7 : Nat) : Int)) = True := by decide
theorem tw0 : ((0 : Int) < ((2 : Nat) : Int)) = True := by decide
theorem tw1 : ((1 : Int) < ((2 : Nat) : Int)) = True := by decide
theorem mod_eq {n m : Int} (hm : 0 < m) : (n.tmod m + m).tmod m = n % m := by
  have h1 : -m < n.tmod m := by have := Int.lt_tmod_of_pos n hm; omega
  have h3 : n.tmod m < m := Int.tmod_lt_of_pos n hm
  rw [Int.tmod_eq_emod_of_nonneg (by omega), Int.add_emod_right]
  have h4 : n.tmod m = n - m * n.tdiv m := by have := Int.mul_tdiv_add_tmod n m; omega
  rw [h4, Int.sub_mul_emod_self_left]
def C_Mod (P : Program) (f : Nat) : Prop := ∀ n m : Int, 0 < m → m ≤ 1000000000 → Snd P f [.i .i64 n, .i .i64 m] [] (.i .i64 (n % m)) []
theorem ok_Mod (hm : P.follows .mixedOrders = true) {f : Nat} (low : Low_potbankref03_Mod P f) : C_Mod P f := by
  intro n m h0 h1
  have h3 : n.tmod m < m := Int.tmod_lt_of_pos n h0
  have h2 : -m < n.tmod m := by have := Int.lt_tmod_of_pos n h0; omega
  have hw : IntKind.i64.wrap (n.tmod m + m) = n.tmod m + m := wrap_id (by omega) (by omega)
  have hme := mod_eq (n := n) h0
  have hz : ∀ x : V, (if m = 0 then none else some x) = some x := fun x => if_neg (by omega)
  refine snd_ic hm low (by simp) ?_
  unfold ic_potbankref03_Mod
  simp -dsimp -implicitDefEqProofs only [qq, Nat.reduceBEq, reduceIte, Nat.reduceAdd, Nat.reduceSub, Nat.reduceLeDiff, Nat.reduceLT, Nat.reduceMul, Nat.reduceEqDiff, Int.reduceEq, Int.reduceBEq, Int.reduceBNe, Int.reduceLT, Int.reduceLE, Int.reduceGT, Int.reduceGE, Int.reduceNeg, Int.reduceAdd, Int.reduceSub, reduceCtorEq, List.reduceReplicate, ← List.map_take, ← List.map_drop]
  simp -dsimp -implicitDefEqProofs only [hz, hw, hme, qq, Nat.reduceBEq, reduceIte, Nat.reduceAdd, Nat.reduceSub, Nat.reduceLeDiff, Nat.reduceLT, Nat.reduceMul, Nat.reduceEqDiff, Int.reduceEq, Int.reduceBEq, Int.reduceBNe, Int.reduceLT, Int.reduceLE, Int.reduceGT, Int.reduceGE, Int.reduceNeg, Int.reduceAdd, Int.reduceSub, reduceCtorEq, List.reduceReplicate, ← List.map_take, ← List.map_drop]
  exact Ends.plain rfl rfl rfl
theorem mod_pos {n m : Int} (h : 0 < m) : 0 ≤ n % m ∧ n % m < m := ⟨Int.emod_nonneg _ (by omega), Int.emod_lt_of_pos _ h⟩
def C_one (P : Program) (f : Nat) : Prop := ∀ (r : Rg) (n : Int), rgB r 0 10000000 = true → Snd P f [.agg r.c, .i .i64 n] [] (.i .i64 (r.lo + n % (r.hi - r.lo + 1))) []
theorem ok_one (hm : P.follows .mixedOrders = true) {f f0 : Nat} (low : Low_potbanklaw03_one P f f0) (h0 : C_Mod P f0) : C_one P f := by
  intro r n hr
  simp [rgB] at hr
  have h1 := mod_pos (n := n) (show 0 < r.hi - r.lo + 1 by omega)
  have w1 : IntKind.i64.wrap (r.hi - r.lo) = r.hi - r.lo := wrap_id (by omega) (by omega)
  have w2 : IntKind.i64.wrap (r.hi - r.lo + 1) = r.hi - r.lo + 1 := wrap_id (by omega) (by omega)
  have w3 : IntKind.i64.wrap (r.lo + n % (r.hi - r.lo + 1)) = r.lo + n % (r.hi - r.lo + 1) := wrap_id (by omega) (by omega)
  generalize hd : r.hi - r.lo + 1 = d at *
  refine snd_ic hm low (by simp) ?_
  unfold ic_potbanklaw03_one
  simp -dsimp -implicitDefEqProofs only [qq, Nat.reduceBEq, reduceIte, Nat.reduceAdd, Nat.reduceSub, Nat.reduceLeDiff, Nat.reduceLT, Nat.reduceMul, Nat.reduceEqDiff, Int.reduceEq, Int.reduceBEq, Int.reduceBNe, Int.reduceLT, Int.reduceLE, Int.reduceGT, Int.reduceGE, Int.reduceNeg, Int.reduceAdd, Int.reduceSub, reduceCtorEq, List.reduceReplicate, ← List.map_take, ← List.map_drop]
  simp -dsimp -implicitDefEqProofs only [Rg.c, w1, hd, w2, qq, Nat.reduceBEq, reduceIte, Nat.reduceAdd, Nat.reduceSub, Nat.reduceLeDiff, Nat.reduceLT, Nat.reduceMul, Nat.reduceEqDiff, Int.reduceEq, Int.reduceBEq, Int.reduceBNe, Int.reduceLT, Int.reduceLE, Int.reduceGT, Int.reduceGE, Int.reduceNeg, Int.reduceAdd, Int.reduceSub, reduceCtorEq, List.reduceReplicate, ← List.map_take, ← List.map_drop]
  refine callI_pure (h0 n d (by omega) (by omega)) rfl rfl ?_
  simp -dsimp -implicitDefEqProofs only [w3, qq, Nat.reduceBEq, reduceIte, Nat.reduceAdd, Nat.reduceSub, Nat.reduceLeDiff, Nat.reduceLT, Nat.reduceMul, Nat.reduceEqDiff, Int.reduceEq, Int.reduceBEq, Int.reduceBNe, Int.reduceLT, Int.reduceLE, Int.reduceGT, Int.reduceGE, Int.reduceNeg, Int.reduceAdd, Int.reduceSub, reduceCtorEq, List.reduceReplicate, ← List.map_take, ← List.map_drop]
  exact Ends.plain rfl rfl rfl
def atS (l : List Int) (i : Nat) : Int := if l.length = 0 then 0 else (l[i % l.length]?).getD 0
def C_at (P : Program) (f : Nat) : Prop := ∀ (l : List Int) (i : Nat), i ≤ 1000 → l.length ≤ 1000000000000000 → Snd P f [.fsl (l.map intC), .i .i64 i] [] (.i .i64 (atS l i)) []
theorem ok_at (hm : P.follows .mixedOrders = true) {f : Nat} (low : Low_potbanklaw03_at P f) : C_at P f := by
  intro l i hi hl
  rcases Nat.eq_zero_or_pos l.length with h | h
  · have q : ((l.length : Int) == 0) = true := by simp [h]
    refine snd_ic hm low (by simp) ?_
    unfold ic_potbanklaw03_at
    simp -dsimp -implicitDefEqProofs only [qq, Nat.reduceBEq, reduceIte, Nat.reduceAdd, Nat.reduceSub, Nat.reduceLeDiff, Nat.reduceLT, Nat.reduceMul, Nat.reduceEqDiff, Int.reduceEq, Int.reduceBEq, Int.reduceBNe, Int.reduceLT, Int.reduceLE, Int.reduceGT, Int.reduceGE, Int.reduceNeg, Int.reduceAdd, Int.reduceSub, reduceCtorEq, List.reduceReplicate, ← List.map_take, ← List.map_drop]
    simp -dsimp -implicitDefEqProofs only [q, qq, Nat.reduceBEq, reduceIte, Nat.reduceAdd, Nat.reduceSub, Nat.reduceLeDiff, Nat.reduceLT, Nat.reduceMul, Nat.reduceEqDiff, Int.reduceEq, Int.reduceBEq, Int.reduceBNe, Int.reduceLT, Int.reduceLE, Int.reduceGT, Int.reduceGE, Int.reduceNeg, Int.reduceAdd, Int.reduceSub, reduceCtorEq, List.reduceReplicate, ← List.map_take, ← List.map_drop]
    exact Ends.plain rfl rfl (by rw [atS, if_pos h]; rfl)
  · have q : ((l.length : Int) == 0) = false := by simp; intro e; rw [e] at h; simp at h
    have hz : ∀ x : V, (if (l.length : Int) = 0 then none else some x) = some x := fun x => if_neg (by omega)
    have ht : (i : Int).tmod (l.length : Int) = ((i % l.length : Nat) : Int) := by rw [Int.tmod_eq_emod_of_nonneg (by omega)]; simp
    obtain ⟨x, hx, _, _, _⟩ := next_of (Nat.mod_lt i h)
    refine snd_ic hm low (by simp) ?_
    unfold ic_potbanklaw03_at
    simp -dsimp -implicitDefEqProofs only [qq, Nat.reduceBEq, reduceIte, Nat.reduceAdd, Nat.reduceSub, Nat.reduceLeDiff, Nat.reduceLT, Nat.reduceMul, Nat.reduceEqDiff, Int.reduceEq, Int.reduceBEq, Int.reduceBNe, Int.reduceLT, Int.reduceLE, Int.reduceGT, Int.reduceGE, Int.reduceNeg, Int.reduceAdd, Int.reduceSub, reduceCtorEq, List.reduceReplicate, ← List.map_take, ← List.map_drop]
    simp -dsimp -implicitDefEqProofs only [q, hz, ht, hx, intC, qq, Nat.reduceBEq, reduceIte, Nat.reduceAdd, Nat.reduceSub, Nat.reduceLeDiff, Nat.reduceLT, Nat.reduceMul, Nat.reduceEqDiff, Int.reduceEq, Int.reduceBEq, Int.reduceBNe, Int.reduceLT, Int.reduceLE, Int.reduceGT, Int.reduceGE, Int.reduceNeg, Int.reduceAdd, Int.reduceSub, reduceCtorEq, List.reduceReplicate, ← List.map_take, ← List.map_drop]
    exact Ends.plain rfl rfl (by rw [atS, if_neg (by omega), hx]; rfl)
abbrev wadS (a b : Int) : Rg := ⟨a % 15, a % 15 + b % 10⟩
def C_Wad (P : Program) (f : Nat) : Prop := ∀ a b : Int, Snd P f [.agg [.i .i64 a, .i .i64 b]] [] (.agg (wadS a b).c) []
theorem ok_Wad (hm : P.follows .mixedOrders = true) {f f0 : Nat} (low : Low_potbankref03_Wad P f f0) (h0 : C_Mod P f0) : C_Wad P f := by
  intro a b
  have h1 := mod_pos (n := a) (m := 15) (by decide)
  have h2 := mod_pos (n := b) (m := 10) (by decide)
  have w1 : IntKind.i64.wrap (a % 15 + b % 10) = a % 15 + b % 10 := wrap_id (by omega) (by omega)
  refine snd_ic hm low (by simp) ?_
  unfold ic_potbankref03_Wad
  simp -dsimp -implicitDefEqProofs only [qq, Nat.reduceBEq, reduceIte, Nat.reduceAdd, Nat.reduceSub, Nat.reduceLeDiff, Nat.reduceLT, Nat.reduceMul, Nat.reduceEqDiff, Int.reduceEq, Int.reduceBEq, Int.reduceBNe, Int.reduceLT, Int.reduceLE, Int.reduceGT, Int.reduceGE, Int.reduceNeg, Int.reduceAdd, Int.reduceSub, reduceCtorEq, List.reduceReplicate, ← List.map_take, ← List.map_drop]
  simp -dsimp -implicitDefEqProofs only [tn0, tn1, tw0, tw1, qq, Nat.reduceBEq, reduceIte, Nat.reduceAdd, Nat.reduceSub, Nat.reduceLeDiff, Nat.reduceLT, Nat.reduceMul, Nat.reduceEqDiff, Int.reduceEq, Int.reduceBEq, Int.reduceBNe, Int.reduceLT, Int.reduceLE, Int.reduceGT, Int.reduceGE, Int.reduceNeg, Int.reduceAdd, Int.reduceSub, reduceCtorEq, List.reduceReplicate, ← List.map_take, ← List.map_drop]
  refine callI_pure (h0 a 15 (by decide) (by decide)) rfl rfl ?_
  simp -dsimp -implicitDefEqProofs only [tn0, tn1, tw0, tw1, qq, Nat.reduceBEq, reduceIte, Nat.reduceAdd, Nat.reduceSub, Nat.reduceLeDiff, Nat.reduceLT, Nat.reduceMul, Nat.reduceEqDiff, Int.reduceEq, Int.reduceBEq, Int.reduceBNe, Int.reduceLT, Int.reduceLE, Int.reduceGT, Int.reduceGE, Int.reduceNeg, Int.reduceAdd, Int.reduceSub, reduceCtorEq, List.reduceReplicate, ← List.map_take, ← List.map_drop]
  refine callI_pure (h0 b 10 (by decide) (by decide)) rfl rfl ?_
  simp -dsimp -implicitDefEqProofs only [w1, qq, Nat.reduceBEq, reduceIte, Nat.reduceAdd, Nat.reduceSub, Nat.reduceLeDiff, Nat.reduceLT, Nat.reduceMul, Nat.reduceEqDiff, Int.reduceEq, Int.reduceBEq, Int.reduceBNe, Int.reduceLT, Int.reduceLE, Int.reduceGT, Int.reduceGE, Int.reduceNeg, Int.reduceAdd, Int.reduceSub, reduceCtorEq, List.reduceReplicate, ← List.map_take, ← List.map_drop]
  exact Ends.plain rfl rfl rfl
/-- A saggar's numbers. -/
structure Raw where
  a : Int
  b : Int
  c : Int
  d : Int
  e : Int
  g : Int
  h : Int
abbrev Raw.C (r : Raw) : List V := [.i .i64 r.a, .i .i64 r.b, .i .i64 r.c, .i .i64 r.d, .i .i64 r.e, .i .i64 r.g, .i .i64 r.h]
def madeF (i : Nat) (r : Raw) : Sag := ⟨1 + i + 40 * (r.h % 20), ⟨r.a % 200, r.a % 200 + r.b % 40⟩, ⟨r.c % 900, r.c % 900 + r.d % 60⟩, ⟨20 + r.e % 300, 20 + r.e % 300 + r.g % 12⟩, r.h % 25⟩
def madeS : Nat → List Raw → List Sag
  | _, [] => []
  | i, r :: l => madeF i r :: madeS (i + 1) l
theorem madeS_snoc (x : Raw) : ∀ (i : Nat) (l : List Raw), madeS i (l ++ [x]) = madeS i l ++ [madeF (i + l.length) x]
  | i, [] => rfl
  | i, r :: l => by
    rw [List.cons_append, madeS, madeS, madeS_snoc x (i + 1) l, List.cons_append, List.length_cons, show i + 1 + l.length = i + (l.length + 1) by omega]
theorem madeS_length : ∀ (i : Nat) (l : List Raw), (madeS i l).length = l.length
  | _, [] => rfl
  | i, r :: l => by rw [madeS, List.length_cons, madeS_length, List.length_cons]
def C_Made (P : Program) (f : Nat) : Prop := ∀ (l : List Raw) (most : Nat), most ≤ 12 → Snd P f [.fsl (l.map Raw.C), .i .i64 most] [] (.fsl ((madeS 0 (l.take most)).map Sag.c)) []
set_option maxHeartbeats 2000000 in
theorem ok_Made (hm : P.follows .mixedOrders = true) {f f0 : Nat} (low : Low_potbankref03_Made P f f0) (h0 : C_Mod P f0) : C_Made P f := by
  intro l most hmost
  have end_ : ∀ (k : Nat) (H : List Blk) (v : V), (l.length ≤ k ∨ most ≤ k) → k ≤ most → OwnS H 8 ((madeS 0 (l.take k)).map Sag.c) v → Ends [.tmp 4] [] (.fsl ((madeS 0 (l.take most)).map Sag.c)) [] .ret [(4, v)] H := fun k H v hk hkm ho => by
    have : l.take most = l.take k := by
      rcases hk with hk | hk
      · rw [List.take_of_length_le (by omega), List.take_of_length_le hk]
      · rw [show most = k by omega]
    rw [this]
    exact Ends.ret rfl (ho.frz (by intro r hr; obtain ⟨x, _, rfl⟩ := List.mem_map.1 hr; rfl))
  refine snd_ic hm low (by simp) ?_
  unfold ic_potbankref03_Made
  simp -dsimp -implicitDefEqProofs only [qq, Nat.reduceBEq, reduceIte, Nat.reduceAdd, Nat.reduceSub, Nat.reduceLeDiff, Nat.reduceLT, Nat.reduceMul, Nat.reduceEqDiff, Int.reduceEq, Int.reduceBEq, Int.reduceBNe, Int.reduceLT, Int.reduceLE, Int.reduceGT, Int.reduceGE, Int.reduceNeg, Int.reduceAdd, Int.reduceSub, reduceCtorEq, List.reduceReplicate, ← List.map_take, ← List.map_drop]
  refine loopI_st (fun k : Nat => most - k) (fun k E H => k ≤ most ∧ ∃ v, E = [(0, .fsl (l.map Raw.C)), (1, .i .i64 most), (5, v), (6, .i .i64 k)] ∧ k ≤ l.length ∧ OwnS H 8 ((madeS 0 (l.take k)).map Sag.c) v) 0 ⟨by omega, _, rfl, by omega, .nil _ _⟩ ?_
  rintro k _ H ⟨hk, v, rfl, hkl, ho⟩
  rcases Nat.lt_or_ge k l.length with hkl | hkl
  · have hc : decide ((k : Int) < (l.length : Int)) = true := decide_eq_true (by omega)
    rcases Nat.lt_or_ge k most with hkm | hkm
    · have hc2 : decide ((k : Int) < (most : Int)) = true := decide_eq_true (by omega)
      have hwk : IntKind.i64.wrap ((k : Int) + 1) = ((k + 1 : Nat) : Int) := wrap_succ (by omega)
      obtain ⟨x, hx, _, htk, _⟩ := next_of hkl
      have h200 := mod_pos (n := x.a) (m := 200) (by decide)
      have h40 := mod_pos (n := x.b) (m := 40) (by decide)
      have h900 := mod_pos (n := x.c) (m := 900) (by decide)
      have h60 := mod_pos (n := x.d) (m := 60) (by decide)
      have h300 := mod_pos (n := x.e) (m := 300) (by decide)
      have h12 := mod_pos (n := x.g) (m := 12) (by decide)
      have h20 := mod_pos (n := x.h) (m := 20) (by decide)
      have h25 := mod_pos (n := x.h) (m := 25) (by decide)
      have w1 : IntKind.i64.wrap (20 + x.e % 300) = 20 + x.e % 300 := wrap_id (by omega) (by omega)
      have w2 : IntKind.i64.wrap (1 + (k : Int)) = 1 + (k : Int) := wrap_id (by omega) (by omega)
      have w3 : IntKind.i64.wrap (40 * (x.h % 20)) = 40 * (x.h % 20) := wrap_id (by omega) (by omega)
      have w4 : IntKind.i64.wrap (1 + (k : Int) + 40 * (x.h % 20)) = 1 + (k : Int) + 40 * (x.h % 20) := wrap_id (by omega) (by omega)
      have w5 : IntKind.i64.wrap (x.a % 200 + x.b % 40) = x.a % 200 + x.b % 40 := wrap_id (by omega) (by omega)
      have w6 : IntKind.i64.wrap (x.c % 900 + x.d % 60) = x.c % 900 + x.d % 60 := wrap_id (by omega) (by omega)
      have w7 : IntKind.i64.wrap (20 + x.e % 300 + x.g % 12) = 20 + x.e % 300 + x.g % 12 := wrap_id (by omega) (by omega)
      have hlen : ((madeS 0 (l.take k)).map Sag.c).length = k := by rw [List.length_map, madeS_length, List.length_take]; omega
      have hnew : (madeS 0 (l.take (k + 1))).map Sag.c = (madeS 0 (l.take k)).map Sag.c ++ [(madeF k x).c] := by
        rw [htk, madeS_snoc, List.map_append, Nat.zero_add, List.length_take, Nat.min_eq_left (by omega)]; rfl
      simp -dsimp -implicitDefEqProofs only [hc, hc2, hx, Raw.C, tn0, tn1, tn2, tn3, tn4, tn5, tn6, tl0, tl1, tl2, tl3, tl4, tl5, tl6, qq, Nat.reduceBEq, reduceIte, Nat.reduceAdd, Nat.reduceSub, Nat.reduceLeDiff, Nat.reduceLT, Nat.reduceMul, Nat.reduceEqDiff, Int.reduceEq, Int.reduceBEq, Int.reduceBNe, Int.reduceLT, Int.reduceLE, Int.reduceGT, Int.reduceGE, Int.reduceNeg, Int.reduceAdd, Int.reduceSub, reduceCtorEq, List.reduceReplicate, ← List.map_take, ← List.map_drop]
      refine callI_pure (h0 x.a 200 (by decide) (by decide)) rfl rfl ?_
      simp -dsimp -implicitDefEqProofs only [Raw.C, tn0, tn1, tn2, tn3, tn4, tn5, tn6, tl0, tl1, tl2, tl3, tl4, tl5, tl6, qq, Nat.reduceBEq, reduceIte, Nat.reduceAdd, Nat.reduceSub, Nat.reduceLeDiff, Nat.reduceLT, Nat.reduceMul, Nat.reduceEqDiff, Int.reduceEq, Int.reduceBEq, Int.reduceBNe, Int.reduceLT, Int.reduceLE, Int.reduceGT, Int.reduceGE, Int.reduceNeg, Int.reduceAdd, Int.reduceSub, reduceCtorEq, List.reduceReplicate, ← List.map_take, ← List.map_drop]
      refine callI_pure (h0 x.c 900 (by decide) (by decide)) rfl rfl ?_
      simp -dsimp -implicitDefEqProofs only [Raw.C, tn0, tn1, tn2, tn3, tn4, tn5, tn6, tl0, tl1, tl2, tl3, tl4, tl5, tl6, qq, Nat.reduceBEq, reduceIte, Nat.reduceAdd, Nat.reduceSub, Nat.reduceLeDiff, Nat.reduceLT, Nat.reduceMul, Nat.reduceEqDiff, Int.reduceEq, Int.reduceBEq, Int.reduceBNe, Int.reduceLT, Int.reduceLE, Int.reduceGT, Int.reduceGE, Int.reduceNeg, Int.reduceAdd, Int.reduceSub, reduceCtorEq, List.reduceReplicate, ← List.map_take, ← List.map_drop]
      refine callI_pure (h0 x.e 300 (by decide) (by decide)) rfl rfl ?_
      simp -dsimp -implicitDefEqProofs only [Raw.C, w1, tn0, tn1, tn2, tn3, tn4, tn5, tn6, tl0, tl1, tl2, tl3, tl4, tl5, tl6, qq, Nat.reduceBEq, reduceIte, Nat.reduceAdd, Nat.reduceSub, Nat.reduceLeDiff, Nat.reduceLT, Nat.reduceMul, Nat.reduceEqDiff, Int.reduceEq, Int.reduceBEq, Int.reduceBNe, Int.reduceLT, Int.reduceLE, Int.reduceGT, Int.reduceGE, Int.reduceNeg, Int.reduceAdd, Int.reduceSub, reduceCtorEq, List.reduceReplicate, ← List.map_take, ← List.map_drop]
      refine callI_pure (h0 x.h 20 (by decide) (by decide)) rfl rfl ?_
      simp -dsimp -implicitDefEqProofs only [Raw.C, w1, w2, w3, w4, w5, w6, w7, tn0, tn1, tn2, tn3, tn4, tn5, tn6, tl0, tl1, tl2, tl3, tl4, tl5, tl6, qq, Nat.reduceBEq, reduceIte, Nat.reduceAdd, Nat.reduceSub, Nat.reduceLeDiff, Nat.reduceLT, Nat.reduceMul, Nat.reduceEqDiff, Int.reduceEq, Int.reduceBEq, Int.reduceBNe, Int.reduceLT, Int.reduceLE, Int.reduceGT, Int.reduceGE, Int.reduceNeg, Int.reduceAdd, Int.reduceSub, reduceCtorEq, List.reduceReplicate, ← List.map_take, ← List.map_drop]
      refine callI_pure (h0 x.b 40 (by decide) (by decide)) rfl rfl ?_
      simp -dsimp -implicitDefEqProofs only [Raw.C, w1, w2, w3, w4, w5, w6, w7, tn0, tn1, tn2, tn3, tn4, tn5, tn6, tl0, tl1, tl2, tl3, tl4, tl5, tl6, qq, Nat.reduceBEq, reduceIte, Nat.reduceAdd, Nat.reduceSub, Nat.reduceLeDiff, Nat.reduceLT, Nat.reduceMul, Nat.reduceEqDiff, Int.reduceEq, Int.reduceBEq, Int.reduceBNe, Int.reduceLT, Int.reduceLE, Int.reduceGT, Int.reduceGE, Int.reduceNeg, Int.reduceAdd, Int.reduceSub, reduceCtorEq, List.reduceReplicate, ← List.map_take, ← List.map_drop]
      refine callI_pure (h0 x.d 60 (by decide) (by decide)) rfl rfl ?_
      simp -dsimp -implicitDefEqProofs only [Raw.C, w1, w2, w3, w4, w5, w6, w7, tn0, tn1, tn2, tn3, tn4, tn5, tn6, tl0, tl1, tl2, tl3, tl4, tl5, tl6, qq, Nat.reduceBEq, reduceIte, Nat.reduceAdd, Nat.reduceSub, Nat.reduceLeDiff, Nat.reduceLT, Nat.reduceMul, Nat.reduceEqDiff, Int.reduceEq, Int.reduceBEq, Int.reduceBNe, Int.reduceLT, Int.reduceLE, Int.reduceGT, Int.reduceGE, Int.reduceNeg, Int.reduceAdd, Int.reduceSub, reduceCtorEq, List.reduceReplicate, ← List.map_take, ← List.map_drop]
      refine callI_pure (h0 x.g 12 (by decide) (by decide)) rfl rfl ?_
      simp -dsimp -implicitDefEqProofs only [Raw.C, w1, w2, w3, w4, w5, w6, w7, tn0, tn1, tn2, tn3, tn4, tn5, tn6, tl0, tl1, tl2, tl3, tl4, tl5, tl6, qq, Nat.reduceBEq, reduceIte, Nat.reduceAdd, Nat.reduceSub, Nat.reduceLeDiff, Nat.reduceLT, Nat.reduceMul, Nat.reduceEqDiff, Int.reduceEq, Int.reduceBEq, Int.reduceBNe, Int.reduceLT, Int.reduceLE, Int.reduceGT, Int.reduceGE, Int.reduceNeg, Int.reduceAdd, Int.reduceSub, reduceCtorEq, List.reduceReplicate, ← List.map_take, ← List.map_drop]
      refine callI_pure (h0 x.h 25 (by decide) (by decide)) rfl rfl ?_
      simp -dsimp -implicitDefEqProofs only [Raw.C, w1, w2, w3, w4, w5, w6, w7, tn0, tn1, tn2, tn3, tn4, tn5, tn6, tl0, tl1, tl2, tl3, tl4, tl5, tl6, qq, Nat.reduceBEq, reduceIte, Nat.reduceAdd, Nat.reduceSub, Nat.reduceLeDiff, Nat.reduceLT, Nat.reduceMul, Nat.reduceEqDiff, Int.reduceEq, Int.reduceBEq, Int.reduceBNe, Int.reduceLT, Int.reduceLE, Int.reduceGT, Int.reduceGE, Int.reduceNeg, Int.reduceAdd, Int.reduceSub, reduceCtorEq, List.reduceReplicate, ← List.map_take, ← List.map_drop]
      refine app_ownA (ys := [(madeF k x).c]) ho (by decide) (by decide) (by simp [Sh.shown, List.getElem?_append_right, madeF]) (by simp [V.one]) (by rw [hlen]; simp; omega) fun v' H' hv' _ => ?_
      simp -dsimp -implicitDefEqProofs only [hwk, qq, Nat.reduceBEq, reduceIte, Nat.reduceAdd, Nat.reduceSub, Nat.reduceLeDiff, Nat.reduceLT, Nat.reduceMul, Nat.reduceEqDiff, Int.reduceEq, Int.reduceBEq, Int.reduceBNe, Int.reduceLT, Int.reduceLE, Int.reduceGT, Int.reduceGE, Int.reduceNeg, Int.reduceAdd, Int.reduceSub, reduceCtorEq, List.reduceReplicate, ← List.map_take, ← List.map_drop]
      exact ⟨k + 1, by omega, by omega, v', rfl, by omega, by rw [hnew]; exact hv'⟩
    · have hc2 : decide ((k : Int) < (most : Int)) = false := decide_eq_false (by omega)
      simp -dsimp -implicitDefEqProofs only [hc, hc2, qq, Nat.reduceBEq, reduceIte, Nat.reduceAdd, Nat.reduceSub, Nat.reduceLeDiff, Nat.reduceLT, Nat.reduceMul, Nat.reduceEqDiff, Int.reduceEq, Int.reduceBEq, Int.reduceBNe, Int.reduceLT, Int.reduceLE, Int.reduceGT, Int.reduceGE, Int.reduceNeg, Int.reduceAdd, Int.reduceSub, reduceCtorEq, List.reduceReplicate, ← List.map_take, ← List.map_drop]
      exact end_ k _ _ (.inr hkm) hk ho
  · have hc : decide ((k : Int) < (l.length : Int)) = false := decide_eq_false (by omega)
    simp -dsimp -implicitDefEqProofs only [hc, qq, Nat.reduceBEq, reduceIte, Nat.reduceAdd, Nat.reduceSub, Nat.reduceLeDiff, Nat.reduceLT, Nat.reduceMul, Nat.reduceEqDiff, Int.reduceEq, Int.reduceBEq, Int.reduceBNe, Int.reduceLT, Int.reduceLE, Int.reduceGT, Int.reduceGE, Int.reduceNeg, Int.reduceAdd, Int.reduceSub, reduceCtorEq, List.reduceReplicate, ← List.map_take, ← List.map_drop]
    exact end_ k _ _ (.inl hkl) hk ho

theorem madeF_ok {i : Nat} (hi : i < 40) (r : Raw) : sagB (madeF i r) = true := by
  have h200 := mod_pos (n := r.a) (m := 200) (by decide)
  have h40 := mod_pos (n := r.b) (m := 40) (by decide)
  have h900 := mod_pos (n := r.c) (m := 900) (by decide)
  have h60 := mod_pos (n := r.d) (m := 60) (by decide)
  have h300 := mod_pos (n := r.e) (m := 300) (by decide)
  have h12 := mod_pos (n := r.g) (m := 12) (by decide)
  have h20 := mod_pos (n := r.h) (m := 20) (by decide)
  have h25 := mod_pos (n := r.h) (m := 25) (by decide)
  simp only [sagB, madeF, inR, rgB, Bool.and_eq_true, decide_eq_true_eq]
  repeat' apply And.intro
  all_goals exact decide_eq_true (by omega)
theorem madeS_mem : ∀ {i : Nat} {l : List Raw} {s : Sag}, s ∈ madeS i l → ∃ j r, i ≤ j ∧ j < i + l.length ∧ s = madeF j r
  | _, [], _, h => by simp [madeS] at h
  | i, r :: l, s, h => by
    rw [madeS, List.mem_cons] at h
    rcases h with rfl | h
    · exact ⟨i, r, by omega, by simp, rfl⟩
    · obtain ⟨j, r, h1, h2, rfl⟩ := madeS_mem h
      exact ⟨j, r, by omega, by simp; omega, rfl⟩
theorem madeS_nodup : ∀ (i : Nat) (l : List Raw), i + l.length ≤ 40 → ((madeS i l).map (·.id)).Nodup
  | _, [], _ => by simp [madeS]
  | i, r :: l, h => by
    simp only [List.length_cons] at h
    rw [madeS, List.map_cons, List.nodup_cons]
    refine ⟨fun hm => ?_, madeS_nodup (i + 1) l (by omega)⟩
    obtain ⟨s, hs, he⟩ := List.mem_map.1 hm
    obtain ⟨j, r2, h1, h2, rfl⟩ := madeS_mem hs
    simp only [madeF] at he
    generalize r.h % 20 = u at he
    generalize r2.h % 20 = v at he
    omega
theorem madeS_ok {l : List Raw} (h : l.length ≤ 12) : listB (madeS 0 l) = true := by
  have h1 : ∀ s ∈ madeS 0 l, sagB s = true := fun s hs => by
    obtain ⟨j, r, _, h2, rfl⟩ := madeS_mem hs
    exact madeF_ok (by omega) r
  have h2 := madeS_nodup 0 l (by omega)
  simp only [listB, Bool.and_eq_true, decide_eq_true_eq, List.all_eq_true]
  exact ⟨⟨by rw [madeS_length]; omega, h1⟩, h2⟩
end Go.Sh.C3
end
section
namespace Go.Sh.C3
open Go.Sh
set_option maxRecDepth 10000
set_option linter.unusedVariables false
set_option linter.unusedSimpArgs false
variable {P : Program}

end Go.Sh.C3
end
section
namespace Go.Sh.C3
open Go.Sh
set_option maxRecDepth 10000
set_option linter.unusedVariables false
set_option linter.unusedSimpArgs false
variable {P : Program}

end Go.Sh.C3
end
section
namespace Go.Sh.C3
open Go.Sh
variable {P : Program}

def oneS (r : Rg) (n : Int) : Int := r.lo + n % (r.hi - r.lo + 1)
theorem oneS_in {r : Rg} (n : Int) (h : r.lo ≤ r.hi) : r.lo ≤ oneS r n ∧ oneS r n ≤ r.hi := by
  have := mod_pos (n := n) (show 0 < r.hi - r.lo + 1 by omega)
  unfold oneS; omega
theorem answerS_zero {a b : Rg} (h : answerS a b = 0) : a.lo > b.hi := by
  unfold answerS at h
  split at h
  · simp at h
  · split at h
    · assumption
    · simp at h
end Go.Sh.C3
end
section
namespace Go.Sh.C3
open Go.Sh
set_option linter.unusedVariables false
set_option linter.unusedSimpArgs false

/-! ### narrower ranges -/
structure NarS (s t : Sag) : Prop where
  w1 : s.w.lo ≤ t.w.lo
  w2 : t.w.hi ≤ s.w.hi
  b1 : s.b.lo ≤ t.b.lo
  b2 : t.b.hi ≤ s.b.hi
  h1 : s.h.lo ≤ t.h.lo
  h2 : t.h.hi ≤ s.h.hi
  ti : t.tilt = s.tilt
inductive Nar : List Sag → List Sag → Prop
  | nil : Nar [] []
  | cons {s t : Sag} {l m : List Sag} : NarS s t → Nar l m → Nar (s :: l) (t :: m)
theorem NarS.refl (s : Sag) : NarS s s := ⟨Int.le_refl _, Int.le_refl _, Int.le_refl _, Int.le_refl _, Int.le_refl _, Int.le_refl _, rfl⟩
theorem Nar.refl : ∀ l, Nar l l
  | [] => .nil
  | s :: l => .cons (.refl s) (Nar.refl l)
theorem Nar.w {l m : List Sag} (h : Nar l m) : (wOf l).lo ≤ (wOf m).lo ∧ (wOf m).hi ≤ (wOf l).hi := by
  induction h with
  | nil => simp [wOf, sumR]
  | cons hs _ ih => rw [wOf_cons, wOf_cons]; have := hs.w1; have := hs.w2; simp only; omega
theorem Nar.h {l m : List Sag} (h : Nar l m) : (hOf l).lo ≤ (hOf m).lo ∧ (hOf m).hi ≤ (hOf l).hi := by
  induction h with
  | nil => simp [hOf, sumR]
  | @cons s t l m hs _ ih =>
    have e : ∀ (s : Sag) l, hOf (s :: l) = ⟨s.h.lo + (hOf l).lo, s.h.hi + (hOf l).hi⟩ := fun s l => by simp [hOf, sumR]
    rw [e, e]; have := hs.h1; have := hs.h2; simp only; omega
theorem Nar.len {l m : List Sag} (h : Nar l m) : m.length = l.length := by
  induction h with
  | nil => rfl
  | cons _ _ ih => simp [ih]
theorem answerS_zero_iff {a b : Rg} (ha : a.lo ≤ a.hi) (hb : b.lo ≤ b.hi) : answerS a b = 0 ↔ a.lo > b.hi := by
  refine ⟨answerS_zero, fun h => ?_⟩
  unfold answerS
  rw [if_neg (by omega), if_pos h]
theorem wOf_ok {l : List Sag} (hv : ∀ s ∈ l, sagB s = true) : (wOf l).lo ≤ (wOf l).hi := by
  induction l with
  | nil => simp [wOf, sumR]
  | cons s l ih =>
    have h1 := ih fun x hx => hv x (by simp [hx])
    have h2 := hv s (by simp)
    simp [sagB, rgB, inR] at h2
    rw [wOf_cons]; simp only; omega
theorem Nar.zero {l m : List Sag} (h : Nar l m) (hv : ∀ s ∈ m, sagB s = true) : 0 ∈ coursesS l → 0 ∈ coursesS m := by
  induction h with
  | nil => exact id
  | @cons s t l m hs h ih =>
    simp only [coursesS, List.mem_cons]
    rintro (g | g)
    · left
      have h1 := answerS_zero g.symm
      have h2 := h.w
      have h3 := hs.b2
      have h4 := hv t (by simp)
      simp [sagB, rgB, inR] at h4
      exact ((answerS_zero_iff (wOf_ok fun x hx => hv x (by simp [hx])) (by omega)).2 (by omega)).symm
    · exact .inr (ih (fun x hx => hv x (by simp [hx])) g)
theorem Nar.leanG {w : Int} (hw : 0 ≤ w) {l m : List Sag} (h : Nar l m) (hv : ∀ s ∈ m, sagB s = true) : (leanG w m).2 ≤ (leanG w l).2 ∧ (leanG w m).1 ≤ (leanG w l).1 ∧ 0 ≤ (leanG w m).2 := by
  induction h with
  | nil => simp [C3.leanG]
  | @cons s t l m hs h ih =>
    obtain ⟨a1, a2, a3⟩ := ih fun x hx => hv x (by simp [hx])
    have h4 := hv t (by simp)
    simp [sagB, rgB, inR] at h4
    have h2 := hs.h2
    have ht := hs.ti
    simp only [C3.leanG, ht]
    rw [ht] at h4
    refine ⟨by omega, ?_, by omega⟩
    have : s.tilt * ((C3.leanG w m).2 + t.h.hi) ≤ s.tilt * ((C3.leanG w l).2 + s.h.hi) := Int.mul_le_mul_of_nonneg_left (by omega) (by omega)
    omega
theorem tdiv_mono {a b : Int} (h0 : 0 ≤ a + 999) (h : a ≤ b) : (a + 999).tdiv 1000 ≤ (b + 999).tdiv 1000 := by
  rw [Int.tdiv_eq_ediv_of_nonneg h0, Int.tdiv_eq_ediv_of_nonneg (by omega)]
  omega
theorem Nar.lean {w : Rg} (hw : rgB w 0 200 = true) {l m : List Sag} (h : Nar l m) (hv : ∀ s ∈ m, sagB s = true) : leanS w m ≤ leanS w l := by
  simp [rgB] at hw
  have ht : Nar l.tail m.tail := by cases h; exact .nil; assumption
  have hv' : ∀ s ∈ m.tail, sagB s = true := fun s hs => hv s (List.mem_of_mem_tail hs)
  have h1 := ht.leanG (w := w.hi) (by omega) hv'
  have h2 := (leanG_sub (w := w.hi) (by omega) (List.Sublist.refl m.tail) hv').2.2.1
  exact tdiv_mono (by omega) h1.2.1
end Go.Sh.C3
end
section
namespace Go.Sh.C3
open Go.Sh
set_option maxRecDepth 10000
set_option linter.unusedVariables false
set_option linter.unusedSimpArgs false
variable {P : Program}
def ic_potbanklaw03_sane (f0 f1 f2 f3 f4 f5 f6 f7 f8 f9 : Nat) : IC := .seq (.reg [⟨some 0, none, .mov (.c (.b false))⟩] []) (.seq (.reg [⟨some 22, none, .bld [.i .i64 (0), .i .i64 (0)] [(0, 1, (.c (.i .i64 (5)))), (1, 1, (.c (.i .i64 (10))))]⟩, ⟨some 1, none, .alloc [.i .i64 (0), .i .i64 (0)]⟩, ⟨none, none, .st 2 (.t 1) (.t 22)⟩] [1]) (.seq (.drg [(0, ⟨some 24, none, .ld (some 2) (.t 1)⟩), (0, ⟨some 25, none, .calv (.c (.fn (.func f0) [] [])) []⟩), (0, ⟨some 26, none, .bsl true 1 3 [.i .i64 (0)] [(0, (.c (.i .i64 (0)))), (1, (.c (.i .i64 (1)))), (2, (.c (.i .i64 (2))))]⟩), (0, ⟨some 27, none, .calv (.c (.fn (.func f1) [] [])) [.t 24, .t 25, .t 26]⟩), (0, ⟨some 23, none, .mov (.t 27)⟩), (0, ⟨some 28, none, .ext (.t 23) 0⟩), (0, ⟨some 29, none, .ext (.t 23) 1⟩), (1, ⟨some 2, none, .alloc [.i .i64 (0), .i .i64 (0), .nsl]⟩), (1, ⟨none, none, .st 3 (.t 2) (.t 28)⟩), (0, ⟨some 3, none, .mov (.t 29)⟩)] 9 [1, 2, 3]) (.seq (.drg [(0, ⟨some 31, none, .ld (some 2) (.t 1)⟩), (0, ⟨some 32, none, .calv (.c (.fn (.func f0) [] [])) []⟩), (0, ⟨some 33, none, .bsl true 1 3 [.i .i64 (0)] [(0, (.c (.i .i64 (1)))), (1, (.c (.i .i64 (0)))), (2, (.c (.i .i64 (2))))]⟩), (0, ⟨some 34, none, .calv (.c (.fn (.func f1) [] [])) [.t 31, .t 32, .t 33]⟩), (0, ⟨some 30, none, .mov (.t 34)⟩), (0, ⟨some 35, none, .ext (.t 30) 0⟩), (0, ⟨some 36, none, .ext (.t 30) 1⟩), (1, ⟨some 4, none, .alloc [.i .i64 (0), .i .i64 (0), .nsl]⟩), (1, ⟨none, none, .st 3 (.t 4) (.t 35)⟩), (0, ⟨some 5, none, .mov (.t 36)⟩)] 9 [1, 2, 3, 4, 5]) (.seq (.reg [⟨some 38, none, .ld (some 3) (.t 2)⟩, ⟨some 39, none, .calv (.c (.fn (.func f2) [] [])) [.t 38]⟩, ⟨some 37, none, .mov (.t 39)⟩, ⟨some 40, none, .ext (.t 37) 0⟩, ⟨some 41, none, .ext (.t 37) 1⟩, ⟨some 6, none, .mov (.t 40)⟩, ⟨some 7, none, .mov (.t 41)⟩] [1, 2, 3, 4, 5, 6, 7]) (.seq (.reg [⟨some 43, none, .ld (some 3) (.t 2)⟩, ⟨some 44, none, .calv (.c (.fn (.func f3) [] [])) [.t 43]⟩, ⟨some 42, none, .mov (.t 44)⟩, ⟨some 45, none, .ext (.t 42) 0⟩, ⟨some 46, none, .ext (.t 42) 1⟩, ⟨some 8, none, .mov (.t 45)⟩, ⟨some 9, none, .mov (.t 46)⟩] [1, 2, 3, 4, 5, 6, 7, 8, 9]) (.seq (.reg [⟨some 48, none, .ld (some 3) (.t 4)⟩, ⟨some 49, none, .calv (.c (.fn (.func f3) [] [])) [.t 48]⟩, ⟨some 47, none, .mov (.t 49)⟩, ⟨some 50, none, .ext (.t 47) 0⟩, ⟨some 51, none, .ext (.t 47) 1⟩, ⟨some 10, none, .mov (.t 50)⟩, ⟨some 11, none, .mov (.t 51)⟩] [1, 2, 3, 4, 5, 6, 7, 8, 9, 10, 11]) (.seq (.reg [⟨some 53, none, .ld (some 3) (.t 2)⟩, ⟨some 54, none, .calv (.c (.fn (.func f4) [] [])) [.t 53]⟩, ⟨some 52, none, .mov (.t 54)⟩, ⟨some 55, none, .ext (.t 52) 0⟩, ⟨some 56, none, .ext (.t 52) 1⟩, ⟨some 12, none, .mov (.t 55)⟩, ⟨some 13, none, .mov (.t 56)⟩] [1, 3, 4, 5, 6, 7, 8, 9, 10, 11, 12, 13]) (.seq (.reg [⟨some 58, none, .ld (some 3) (.t 4)⟩, ⟨some 59, none, .calv (.c (.fn (.func f5) [] [])) [.t 58]⟩, ⟨some 57, none, .mov (.t 59)⟩, ⟨some 60, none, .ext (.t 57) 0⟩, ⟨some 61, none, .ext (.t 57) 1⟩, ⟨some 14, none, .alloc [.i .i64 (0), .i .i64 (0), .nsl]⟩, ⟨none, none, .st 3 (.t 14) (.t 60)⟩, ⟨some 15, none, .mov (.t 61)⟩] [1, 3, 5, 6, 7, 8, 9, 10, 11, 12, 13, 14, 15]) (.seq (.drg [(0, ⟨some 63, none, .ld (some 2) (.t 1)⟩), (0, ⟨some 64, none, .calv (.c (.fn (.func f0) [] [])) []⟩), (0, ⟨some 65, none, .bld [.i .i64 (0), .i .i64 (0)] [(0, 1, (.c (.i .i64 (400)))), (1, 1, (.c (.i .i64 (9))))]⟩), (0, ⟨some 66, none, .calv (.c (.fn (.func f6) [] [])) [.t 63, .t 64, .t 65]⟩), (0, ⟨some 62, none, .mov (.t 66)⟩), (0, ⟨some 67, none, .ext (.t 62) 0⟩), (0, ⟨some 68, none, .ext (.t 62) 1⟩), (0, ⟨some 16, none, .mov (.t 67)⟩), (0, ⟨some 17, none, .mov (.t 68)⟩)] 8 [3, 5, 6, 7, 8, 9, 10, 11, 12, 13, 14, 15, 16, 17]) (.seq (.reg [⟨some 69, none, .mov (.t 3)⟩, ⟨some 70, none, .bin .eql (.t 69) (.c (.i .i64 (0)))⟩, ⟨some 71, none, .mov (.t 70)⟩, ⟨some 72, some (71, true), .mov (.t 5)⟩, ⟨some 73, some (71, true), .bin .eql (.t 72) (.c (.i .i64 (0)))⟩, ⟨some 74, none, .pick (.t 71) (.t 73) (.c (.b false))⟩, ⟨some 75, none, .mov (.t 74)⟩, ⟨some 76, some (75, true), .mov (.t 7)⟩, ⟨some 77, some (75, true), .bin .eql (.t 76) (.c (.i .i64 (0)))⟩, ⟨some 78, none, .pick (.t 75) (.t 77) (.c (.b false))⟩, ⟨some 79, none, .mov (.t 78)⟩, ⟨some 80, some (79, true), .mov (.t 9)⟩, ⟨some 81, some (79, true), .bin .eql (.t 80) (.c (.i .i64 (0)))⟩, ⟨some 82, none, .pick (.t 79) (.t 81) (.c (.b false))⟩, ⟨some 83, none, .mov (.t 82)⟩, ⟨some 84, some (83, true), .mov (.t 11)⟩, ⟨some 85, some (83, true), .bin .eql (.t 84) (.c (.i .i64 (0)))⟩, ⟨some 86, none, .pick (.t 83) (.t 85) (.c (.b false))⟩, ⟨some 87, none, .mov (.t 86)⟩, ⟨some 88, some (87, true), .mov (.t 13)⟩, ⟨some 89, some (87, true), .bin .eql (.t 88) (.c (.i .i64 (0)))⟩, ⟨some 90, none, .pick (.t 87) (.t 89) (.c (.b false))⟩, ⟨some 91, none, .mov (.t 90)⟩, ⟨some 92, some (91, true), .mov (.t 15)⟩, ⟨some 93, some (91, true), .bin .eql (.t 92) (.c (.i .i64 (0)))⟩, ⟨some 94, none, .pick (.t 91) (.t 93) (.c (.b false))⟩, ⟨some 95, none, .mov (.t 94)⟩, ⟨some 96, some (95, true), .mov (.t 17)⟩, ⟨some 97, some (95, true), .bin .eql (.t 96) (.c (.i .i64 (0)))⟩, ⟨some 98, none, .pick (.t 95) (.t 97) (.c (.b false))⟩, ⟨some 18, none, .mov (.t 98)⟩] [6, 8, 10, 12, 14, 16, 18]) (.seq (.reg [⟨some 99, none, .mov (.t 6)⟩, ⟨some 100, none, .bld [.i .i64 (0), .i .i64 (0)] [(0, 1, (.c (.i .i64 (140)))), (1, 1, (.c (.i .i64 (150))))]⟩, ⟨some 101, none, .bld [.i .i64 (0), .i .i64 (0)] [(0, 1, (.c (.i .i64 (60)))), (1, 1, (.c (.i .i64 (60))))]⟩, ⟨some 102, none, .bld [.i .i64 (0), .i .i64 (0)] []⟩, ⟨some 103, none, .bsl false 2 3 [.i .i64 (0), .i .i64 (0)] [(0, (.t 100)), (1, (.t 101)), (2, (.t 102))]⟩, ⟨some 104, none, .calv (.c (.fn (.func f7) [] [])) [.t 99, .t 103]⟩, ⟨some 19, none, .mov (.t 104)⟩] [8, 10, 12, 14, 16, 18, 19]) (.seq (.reg [⟨some 105, none, .mov (.t 16)⟩, ⟨some 106, none, .bsl false 1 2 [.i .i64 (0)] [(0, (.c (.i .i64 (0)))), (1, (.c (.i .i64 (2))))]⟩, ⟨some 107, none, .bsl false 1 1 [.i .i64 (0)] [(0, (.c (.i .i64 (1))))]⟩, ⟨some 108, none, .bsl false 1 2 [.nsl] [(0, (.t 106)), (1, (.t 107))]⟩, ⟨some 109, none, .calv (.c (.fn (.func f8) [] [])) [.t 105, .t 108]⟩, ⟨some 20, none, .mov (.t 109)⟩] [8, 10, 12, 14, 18, 19, 20]) (.seq (.reg [⟨some 110, none, .fad 2 (.t 14)⟩, ⟨some 111, none, .ld none (.t 110)⟩, ⟨some 112, none, .bsl false 1 2 [.i .i64 (0)] [(0, (.c (.i .i64 (120)))), (1, (.c (.i .i64 (60))))]⟩, ⟨some 113, none, .calv (.c (.fn (.func f9) [] [])) [.t 111, .t 112]⟩, ⟨some 21, none, .mov (.t 113)⟩] [8, 10, 12, 14, 18, 19, 20, 21]) (.seq (.reg [⟨some 114, none, .mov (.t 18)⟩, ⟨some 115, none, .mov (.t 114)⟩, ⟨some 116, some (115, true), .mov (.t 19)⟩, ⟨some 117, none, .pick (.t 115) (.t 116) (.c (.b false))⟩, ⟨some 118, none, .mov (.t 117)⟩, ⟨some 119, some (118, true), .mov (.t 8)⟩, ⟨some 120, some (118, true), .bin .eql (.t 119) (.c (.i .i64 (1)))⟩, ⟨some 121, none, .pick (.t 118) (.t 120) (.c (.b false))⟩, ⟨some 122, none, .mov (.t 121)⟩, ⟨some 123, some (122, true), .mov (.t 10)⟩, ⟨some 124, some (122, true), .bin .eql (.t 123) (.c (.i .i64 (2)))⟩, ⟨some 125, none, .pick (.t 122) (.t 124) (.c (.b false))⟩, ⟨some 126, none, .mov (.t 125)⟩, ⟨some 127, some (126, true), .mov (.t 12)⟩, ⟨some 128, some (126, true), .bin .eql (.t 127) (.c (.i .i64 (4)))⟩, ⟨some 129, none, .pick (.t 126) (.t 128) (.c (.b false))⟩, ⟨some 130, none, .mov (.t 129)⟩, ⟨some 131, some (130, true), .mov (.t 21)⟩, ⟨some 132, none, .pick (.t 130) (.t 131) (.c (.b false))⟩, ⟨some 133, none, .mov (.t 132)⟩, ⟨some 134, some (133, true), .fad 0 (.t 14)⟩, ⟨some 135, some (133, true), .ld none (.t 134)⟩, ⟨some 136, some (133, true), .bin .eql (.t 135) (.c (.i .i64 (0)))⟩, ⟨some 137, none, .pick (.t 133) (.t 136) (.c (.b false))⟩, ⟨some 138, none, .mov (.t 137)⟩, ⟨some 139, some (138, true), .fad 1 (.t 14)⟩, ⟨some 140, some (138, true), .ld none (.t 139)⟩, ⟨some 141, some (138, true), .bin .eql (.t 140) (.c (.i .i64 (150)))⟩, ⟨some 142, none, .pick (.t 138) (.t 141) (.c (.b false))⟩, ⟨some 143, none, .mov (.t 142)⟩, ⟨some 144, some (143, true), .mov (.t 20)⟩, ⟨some 145, none, .pick (.t 143) (.t 144) (.c (.b false))⟩, ⟨some 0, none, .mov (.t 145)⟩] [0]) (.ret)))))))))))))))
abbrev Low_potbanklaw03_sane (P : Program) (f f0 f1 f2 f3 f4 f5 f6 f7 f8 f9 : Nat) : Prop := lowF P f = some (146, [.tmp 0], (ic_potbanklaw03_sane f0 f1 f2 f3 f4 f5 f6 f7 f8 f9).erase)

theorem frz_col {H : List Blk} {p n c : Nat} {e : Bool} {us us' : List V} (h : H[p]? = some (.row 1 (us.map fun u => [u]))) (hn : us.length = n) (hl : us.length = us'.length) (hb : ∀ u ∈ us', u.bel 0 = true) (hu : ∀ (i : Nat) u u', us[i]? = some u → us'[i]? = some u' → Frz 0 H u u') : Frz 0 H (.rsl p 1 0 n c e) (.fsl (us'.map fun u => [u])) := by
  subst hn
  have ht : ((us.map fun u => [u]).drop 0).take us.length = us.map fun u => [u] := by rw [List.drop_zero, List.take_of_length_le (by simp)]
  refine .sl p 1 0 us.length c e _ _ (Nat.zero_le _) h (by simp) (by simp [hl]) (fun row hr => ?_) ?_ ?_
  · obtain ⟨u, hu, rfl⟩ := List.mem_map.1 hr
    simp [belL, hb u hu]
  · intro i row row' h1 h3
    rw [ht, List.getElem?_map] at h1
    rw [List.getElem?_map] at h3
    obtain ⟨u, _, rfl⟩ := Option.map_eq_some_iff.1 h1
    obtain ⟨u', _, rfl⟩ := Option.map_eq_some_iff.1 h3
    rfl
  · intro i row row' j x x' h1 h3 e1 e2
    rw [ht, List.getElem?_map] at h1
    rw [List.getElem?_map] at h3
    obtain ⟨u, g1, rfl⟩ := Option.map_eq_some_iff.1 h1
    obtain ⟨u', g2, rfl⟩ := Option.map_eq_some_iff.1 h3
    cases j with
    | zero => simp at e1 e2; subst e1 e2; exact hu i u u' g1 g2
    | succ j => simp at e1
def C_sane (P : Program) (f : Nat) : Prop := Snd P f [] [] (.b true) []
def exB : List Sag := pickS exS [0, 1, 2]
def exC : List Sag := pickS exS [1, 0, 2]
theorem ok_sane (hm : P.follows .mixedOrders = true) {f f0 f1 f2 f3 f4 f5 f6 f7 f8 f9 : Nat} (low : Low_potbanklaw03_sane P f f0 f1 f2 f3 f4 f5 f6 f7 f8 f9) (h0 : C_example P f0) (h1 : C_Set P f1) (h2 : C_Loads P f2) (h3 : C_Stands P f3) (h4 : C_Lean P f4) (h5 : C_Breaks P f5) (h6 : C_Fewest P f6) (h7 : C_SameRanges P f7) (h8 : C_SameParts P f8) (h9 : C_Same P f9) : C_sane P f := by
  have s1 : setE ⟨5, 10⟩ exS [0, 1, 2] = 0 := by decide +kernel
  have s2 : setE ⟨5, 10⟩ exS [1, 0, 2] = 0 := by decide +kernel
  have b1 : bungB ⟨5, 10⟩ exB = true := by decide +kernel
  have b2 : bungB ⟨5, 10⟩ exC = true := by decide +kernel
  have c1 := h1 ⟨5, 10⟩ exS [0, 1, 2] (by decide)
  have c2 := h1 ⟨5, 10⟩ exS [1, 0, 2] (by decide)
  have c3 := h2 ⟨5, 10⟩ exB
  have c4 := h3 ⟨5, 10⟩ exB
  have c5 := h3 ⟨5, 10⟩ exC
  have c6 := h4 ⟨5, 10⟩ exB
  have c7 := h5 ⟨5, 10⟩ exC
  have c8 := h6 ⟨5, 10⟩ exS ⟨400, 9⟩
  rw [s1, if_pos rfl] at c1
  rw [s2, if_pos rfl] at c2
  rw [b1, if_pos rfl, if_pos rfl] at c3 c4 c6
  rw [b2, if_pos rfl, if_pos rfl] at c5
  rw [b2, if_pos rfl, if_pos rfl, show brkV exC = .agg [.i .i64 0, .i .i64 150, .fsl (([120, 60] : List Int).map intC)] by rfl, show (if (brkAt exC).isSome = true then (0 : Int) else 34) = 0 by decide +kernel] at c7
  rw [show standsS exB = 1 by decide +kernel] at c4
  rw [show standsS exC = 2 by decide +kernel] at c5
  rw [show leanS ⟨5, 10⟩ exB = 4 by decide +kernel] at c6
  rw [show loadsS exB = [⟨140, 150⟩, ⟨60, 60⟩, ⟨0, 0⟩] by decide +kernel] at c3
  rw [show fewR ⟨5, 10⟩ exS ⟨400, 9⟩ = [[0, 2], [1]] by decide +kernel, show fewE ⟨5, 10⟩ exS ⟨400, 9⟩ = 0 by decide +kernel] at c8
  have d1 := h7 [⟨140, 150⟩, ⟨60, 60⟩, ⟨0, 0⟩] [⟨140, 150⟩, ⟨60, 60⟩, ⟨0, 0⟩] (by decide)
  have d2 := h8 [[0, 2], [1]] [[0, 2], [1]] (by decide) (by decide)
  have d3 := h9 [120, 60] [120, 60] (by decide)
  rw [decide_eq_true rfl] at d1 d2 d3
  change Snd P f1 [.agg [.i .i64 5, .i .i64 10], .fsl (exS.map Sag.c), .fsl [[.i .i64 0], [.i .i64 1], [.i .i64 2]]] [] (.tup [.agg [.i .i64 5, .i .i64 10, .fsl (exB.map Sag.c)], .i .i64 0]) [] at c1
  change Snd P f1 [.agg [.i .i64 5, .i .i64 10], .fsl (exS.map Sag.c), .fsl [[.i .i64 1], [.i .i64 0], [.i .i64 2]]] [] (.tup [.agg [.i .i64 5, .i .i64 10, .fsl (exC.map Sag.c)], .i .i64 0]) [] at c2
  refine snd_ic hm low (by simp) ?_
  unfold ic_potbanklaw03_sane
  simp -dsimp -implicitDefEqProofs only [qq, Nat.reduceBEq, reduceIte, Nat.reduceAdd, Nat.reduceSub, Nat.reduceLeDiff, Nat.reduceLT, Nat.reduceMul, Nat.reduceEqDiff, Int.reduceEq, Int.reduceBEq, Int.reduceBNe, Int.reduceLT, Int.reduceLE, Int.reduceGT, Int.reduceGE, Int.reduceNeg, Int.reduceAdd, Int.reduceSub, reduceCtorEq, List.reduceReplicate, ← List.map_take, ← List.map_drop]
  refine callI_pure h0 rfl rfl ?_
  simp -dsimp -implicitDefEqProofs only [qq, Nat.reduceBEq, reduceIte, Nat.reduceAdd, Nat.reduceSub, Nat.reduceLeDiff, Nat.reduceLT, Nat.reduceMul, Nat.reduceEqDiff, Int.reduceEq, Int.reduceBEq, Int.reduceBNe, Int.reduceLT, Int.reduceLE, Int.reduceGT, Int.reduceGE, Int.reduceNeg, Int.reduceAdd, Int.reduceSub, reduceCtorEq, List.reduceReplicate, ← List.map_take, ← List.map_drop]
  refine ⟨by decide, callI_pure c1 rfl rfl ?_⟩
  simp -dsimp -implicitDefEqProofs only [qq, Nat.reduceBEq, reduceIte, Nat.reduceAdd, Nat.reduceSub, Nat.reduceLeDiff, Nat.reduceLT, Nat.reduceMul, Nat.reduceEqDiff, Int.reduceEq, Int.reduceBEq, Int.reduceBNe, Int.reduceLT, Int.reduceLE, Int.reduceGT, Int.reduceGE, Int.reduceNeg, Int.reduceAdd, Int.reduceSub, reduceCtorEq, List.reduceReplicate, ← List.map_take, ← List.map_drop]
  refine callI_pure h0 rfl rfl ?_
  simp -dsimp -implicitDefEqProofs only [qq, Nat.reduceBEq, reduceIte, Nat.reduceAdd, Nat.reduceSub, Nat.reduceLeDiff, Nat.reduceLT, Nat.reduceMul, Nat.reduceEqDiff, Int.reduceEq, Int.reduceBEq, Int.reduceBNe, Int.reduceLT, Int.reduceLE, Int.reduceGT, Int.reduceGE, Int.reduceNeg, Int.reduceAdd, Int.reduceSub, reduceCtorEq, List.reduceReplicate, ← List.map_take, ← List.map_drop]
  refine ⟨by decide, callI_pure c2 rfl rfl ?_⟩
  simp -dsimp -implicitDefEqProofs only [qq, Nat.reduceBEq, reduceIte, Nat.reduceAdd, Nat.reduceSub, Nat.reduceLeDiff, Nat.reduceLT, Nat.reduceMul, Nat.reduceEqDiff, Int.reduceEq, Int.reduceBEq, Int.reduceBNe, Int.reduceLT, Int.reduceLE, Int.reduceGT, Int.reduceGE, Int.reduceNeg, Int.reduceAdd, Int.reduceSub, reduceCtorEq, List.reduceReplicate, ← List.map_take, ← List.map_drop]
  refine callI_pure c3 rfl rfl ?_
  simp -dsimp -implicitDefEqProofs only [qq, Nat.reduceBEq, reduceIte, Nat.reduceAdd, Nat.reduceSub, Nat.reduceLeDiff, Nat.reduceLT, Nat.reduceMul, Nat.reduceEqDiff, Int.reduceEq, Int.reduceBEq, Int.reduceBNe, Int.reduceLT, Int.reduceLE, Int.reduceGT, Int.reduceGE, Int.reduceNeg, Int.reduceAdd, Int.reduceSub, reduceCtorEq, List.reduceReplicate, ← List.map_take, ← List.map_drop]
  refine callI_pure c4 rfl rfl ?_
  simp -dsimp -implicitDefEqProofs only [qq, Nat.reduceBEq, reduceIte, Nat.reduceAdd, Nat.reduceSub, Nat.reduceLeDiff, Nat.reduceLT, Nat.reduceMul, Nat.reduceEqDiff, Int.reduceEq, Int.reduceBEq, Int.reduceBNe, Int.reduceLT, Int.reduceLE, Int.reduceGT, Int.reduceGE, Int.reduceNeg, Int.reduceAdd, Int.reduceSub, reduceCtorEq, List.reduceReplicate, ← List.map_take, ← List.map_drop]
  refine callI_pure c5 rfl rfl ?_
  simp -dsimp -implicitDefEqProofs only [qq, Nat.reduceBEq, reduceIte, Nat.reduceAdd, Nat.reduceSub, Nat.reduceLeDiff, Nat.reduceLT, Nat.reduceMul, Nat.reduceEqDiff, Int.reduceEq, Int.reduceBEq, Int.reduceBNe, Int.reduceLT, Int.reduceLE, Int.reduceGT, Int.reduceGE, Int.reduceNeg, Int.reduceAdd, Int.reduceSub, reduceCtorEq, List.reduceReplicate, ← List.map_take, ← List.map_drop]
  refine callI_pure c6 rfl rfl ?_
  simp -dsimp -implicitDefEqProofs only [qq, Nat.reduceBEq, reduceIte, Nat.reduceAdd, Nat.reduceSub, Nat.reduceLeDiff, Nat.reduceLT, Nat.reduceMul, Nat.reduceEqDiff, Int.reduceEq, Int.reduceBEq, Int.reduceBNe, Int.reduceLT, Int.reduceLE, Int.reduceGT, Int.reduceGE, Int.reduceNeg, Int.reduceAdd, Int.reduceSub, reduceCtorEq, List.reduceReplicate, ← List.map_take, ← List.map_drop]
  refine callI_pure c7 rfl rfl ?_
  simp -dsimp -implicitDefEqProofs only [qq, Nat.reduceBEq, reduceIte, Nat.reduceAdd, Nat.reduceSub, Nat.reduceLeDiff, Nat.reduceLT, Nat.reduceMul, Nat.reduceEqDiff, Int.reduceEq, Int.reduceBEq, Int.reduceBNe, Int.reduceLT, Int.reduceLE, Int.reduceGT, Int.reduceGE, Int.reduceNeg, Int.reduceAdd, Int.reduceSub, reduceCtorEq, List.reduceReplicate, ← List.map_take, ← List.map_drop]
  refine callI_pure h0 rfl rfl ?_
  simp -dsimp -implicitDefEqProofs only [qq, Nat.reduceBEq, reduceIte, Nat.reduceAdd, Nat.reduceSub, Nat.reduceLeDiff, Nat.reduceLT, Nat.reduceMul, Nat.reduceEqDiff, Int.reduceEq, Int.reduceBEq, Int.reduceBNe, Int.reduceLT, Int.reduceLE, Int.reduceGT, Int.reduceGE, Int.reduceNeg, Int.reduceAdd, Int.reduceSub, reduceCtorEq, List.reduceReplicate, ← List.map_take, ← List.map_drop]
  refine callI_pure c8 rfl rfl ?_
  simp -dsimp -implicitDefEqProofs only [qq, Nat.reduceBEq, reduceIte, Nat.reduceAdd, Nat.reduceSub, Nat.reduceLeDiff, Nat.reduceLT, Nat.reduceMul, Nat.reduceEqDiff, Int.reduceEq, Int.reduceBEq, Int.reduceBNe, Int.reduceLT, Int.reduceLE, Int.reduceGT, Int.reduceGE, Int.reduceNeg, Int.reduceAdd, Int.reduceSub, reduceCtorEq, List.reduceReplicate, ← List.map_take, ← List.map_drop]
  refine callI_lend2 d1 (.keep _ rfl) (frz_lit rfl rfl (by decide)) rfl ?_
  simp -dsimp -implicitDefEqProofs only [qq, Nat.reduceBEq, reduceIte, Nat.reduceAdd, Nat.reduceSub, Nat.reduceLeDiff, Nat.reduceLT, Nat.reduceMul, Nat.reduceEqDiff, Int.reduceEq, Int.reduceBEq, Int.reduceBNe, Int.reduceLT, Int.reduceLE, Int.reduceGT, Int.reduceGE, Int.reduceNeg, Int.reduceAdd, Int.reduceSub, reduceCtorEq, List.reduceReplicate, ← List.map_take, ← List.map_drop]
  refine callI_lend2 d2 (.keep _ rfl) (frz_col (us := [.rsl 5 1 0 2 2 true, .rsl 6 1 0 1 1 true]) (us' := [.fsl ([0, 2].map intC), .fsl ([1].map intC)]) rfl rfl rfl (by simp [V.bel]) fun i u u' e1 e2 => ?_) rfl ?_
  · match i with
    | 0 => simp at e1 e2; subst e1 e2; exact frz_lit rfl rfl (by decide)
    | 1 => simp at e1 e2; subst e1 e2; exact frz_lit rfl rfl (by decide)
    | i + 2 => simp at e1
  simp -dsimp -implicitDefEqProofs only [qq, Nat.reduceBEq, reduceIte, Nat.reduceAdd, Nat.reduceSub, Nat.reduceLeDiff, Nat.reduceLT, Nat.reduceMul, Nat.reduceEqDiff, Int.reduceEq, Int.reduceBEq, Int.reduceBNe, Int.reduceLT, Int.reduceLE, Int.reduceGT, Int.reduceGE, Int.reduceNeg, Int.reduceAdd, Int.reduceSub, reduceCtorEq, List.reduceReplicate, ← List.map_take, ← List.map_drop]
  refine callI_lend2 d3 (.keep _ rfl) (frz_lit rfl rfl (by decide)) rfl ?_
  simp -dsimp -implicitDefEqProofs only [qq, Nat.reduceBEq, reduceIte, Nat.reduceAdd, Nat.reduceSub, Nat.reduceLeDiff, Nat.reduceLT, Nat.reduceMul, Nat.reduceEqDiff, Int.reduceEq, Int.reduceBEq, Int.reduceBNe, Int.reduceLT, Int.reduceLE, Int.reduceGT, Int.reduceGE, Int.reduceNeg, Int.reduceAdd, Int.reduceSub, reduceCtorEq, List.reduceReplicate, ← List.map_take, ← List.map_drop]
  exact Ends.plain rfl rfl rfl
end Go.Sh.C3
end
section
namespace Go.Sh.C3
open Go.Sh
set_option maxRecDepth 10000
set_option linter.unusedVariables false
set_option linter.unusedSimpArgs false
variable {P : Program}
abbrev kilnC (l : List Raw) (order : List Int) (a b : Int) : List V := [.fsl (l.map Raw.C), .fsl (order.map intC), .i .i64 a, .i .i64 b]
theorem wadS_ok (a b : Int) : rgB (wadS a b) 0 200 = true := by
  have h1 := mod_pos (n := a) (m := 15) (by decide)
  have h2 := mod_pos (n := b) (m := 10) (by decide)
  simp only [rgB, wadS]
  rw [decide_eq_true (by omega), decide_eq_true (by omega), decide_eq_true (by omega)]; rfl
end Go.Sh.C3
end
section
namespace Go.Sh.C3
open Go.Sh
set_option maxRecDepth 10000
set_option linter.unusedVariables false
set_option linter.unusedSimpArgs false
variable {P : Program}
end Go.Sh.C3
end
section
namespace Go.Sh.C3
open Go.Sh
set_option maxRecDepth 10000
set_option linter.unusedVariables false
set_option linter.unusedSimpArgs false
variable {P : Program}
end Go.Sh.C3
end
section
namespace Go.Sh.C3
open Go.Sh
set_option maxRecDepth 10000
set_option linter.unusedVariables false
set_option linter.unusedSimpArgs false
variable {P : Program}
end Go.Sh.C3
end
section
namespace Go.Sh.C3
open Go.Sh
set_option maxRecDepth 10000
set_option linter.unusedVariables false
set_option linter.unusedSimpArgs false
variable {P : Program}
end Go.Sh.C3
end
section
namespace Go.Sh.C3
open Go.Sh
set_option maxRecDepth 10000
set_option linter.unusedVariables false
set_option linter.unusedSimpArgs false
variable {P : Program}
def ic_bung_areBungs (f0 : Nat) : IC := .seq (.reg [⟨some 4, none, .mov (.c (.b false))⟩] [0, 1]) (.seq (.reg [⟨some 11, none, .mkm⟩, ⟨some 5, none, .mov (.t 11)⟩] [0, 1, 5]) (.seq (.reg [⟨some 6, none, .mov (.c (.i .i64 (-1)))⟩] [0, 1, 5, 6]) (.seq (.seq (.reg [⟨some 12, none, .mov (.t 1)⟩, ⟨some 13, none, .len false (.t 12)⟩, ⟨some 14, none, .mov (.c (.i .i64 (0)))⟩] [0, 5, 6, 12, 13, 14]) (.block 0 (.loop (.seq (.reg [⟨some 15, none, .bin .lss (.t 14) (.t 13)⟩] [0, 5, 6, 12, 13, 14, 15]) (.seq (.cond (.t 15) (.skip) (.exit 0)) (.seq (.block 1 (.seq (.reg [⟨some 16, none, .ixs 1 (.t 12) (.t 14)⟩, ⟨some 17, none, .ld none (.t 16)⟩, ⟨some 8, none, .mov (.t 17)⟩] [0, 5, 6, 8, 12, 13, 14]) (.seq (.seq (.reg [⟨some 18, none, .mov (.t 8)⟩, ⟨some 19, none, .len false (.t 18)⟩, ⟨some 20, none, .bin .eql (.t 19) (.c (.i .i64 (0)))⟩, ⟨some 21, none, .mov (.t 20)⟩, ⟨some 22, some (21, false), .mov (.t 8)⟩, ⟨some 23, some (21, false), .ixs 1 (.t 22) (.c (.i .i64 (0)))⟩, ⟨some 24, some (21, false), .ld none (.t 23)⟩, ⟨some 25, some (21, false), .mov (.t 6)⟩, ⟨some 26, some (21, false), .bin .leq (.t 24) (.t 25)⟩, ⟨some 27, none, .pick (.t 21) (.c (.b true)) (.t 26)⟩] [0, 5, 8, 12, 13, 14, 27]) (.cond (.t 27) (.seq (.reg [⟨some 4, none, .mov (.c (.b false))⟩] [4]) (.ret)) (.skip))) (.seq (.reg [⟨some 28, none, .mov (.t 8)⟩, ⟨some 29, none, .ixs 1 (.t 28) (.c (.i .i64 (0)))⟩, ⟨some 30, none, .ld none (.t 29)⟩, ⟨some 6, none, .mov (.t 30)⟩] [0, 5, 6, 8, 12, 13, 14]) (.seq (.reg [⟨some 31, none, .mov (.t 8)⟩, ⟨some 32, none, .len false (.t 31)⟩, ⟨some 33, none, .mov (.c (.i .i64 (0)))⟩] [0, 5, 6, 8, 12, 13, 14, 31, 32, 33]) (.block 2 (.loop (.seq (.reg [⟨some 34, none, .bin .lss (.t 33) (.t 32)⟩] [0, 5, 6, 8, 12, 13, 14, 31, 32, 33, 34]) (.seq (.cond (.t 34) (.skip) (.exit 2)) (.seq (.block 3 (.seq (.reg [⟨some 35, none, .mov (.t 33)⟩, ⟨some 36, none, .ixs 1 (.t 31) (.t 33)⟩, ⟨some 37, none, .ld none (.t 36)⟩, ⟨some 9, none, .mov (.t 35)⟩, ⟨some 10, none, .mov (.t 37)⟩] [0, 5, 6, 8, 9, 10, 12, 13, 14, 31, 32, 33]) (.seq (.seq (.reg [⟨some 38, none, .mov (.t 10)⟩, ⟨some 39, none, .mov (.t 0)⟩, ⟨some 40, none, .bin .sub (.t 39) (.c (.i .i64 (1)))⟩, ⟨some 41, none, .calv (.c (.fn (.func f0) [] [])) [.t 38, .c (.i .i64 (0)), .t 40]⟩, ⟨some 42, none, .un .not (.t 41)⟩, ⟨some 43, none, .mov (.t 42)⟩, ⟨some 44, some (43, false), .mov (.t 5)⟩, ⟨some 45, some (43, false), .mov (.t 10)⟩, ⟨some 46, some (43, false), .lk 0 [] (.b false) false (.t 44) (.t 45)⟩, ⟨some 47, none, .pick (.t 43) (.c (.b true)) (.t 46)⟩, ⟨some 48, none, .mov (.t 47)⟩, ⟨some 49, some (48, false), .mov (.t 9)⟩, ⟨some 50, some (48, false), .bin .gtr (.t 49) (.c (.i .i64 (0)))⟩, ⟨some 51, some (48, false), .mov (.t 50)⟩, ⟨some 52, some (51, true), .mov (.t 8)⟩, ⟨some 53, some (51, true), .mov (.t 9)⟩, ⟨some 54, some (51, true), .bin .sub (.t 53) (.c (.i .i64 (1)))⟩, ⟨some 55, some (51, true), .ixs 1 (.t 52) (.t 54)⟩, ⟨some 56, some (51, true), .ld none (.t 55)⟩, ⟨some 57, some (51, true), .mov (.t 10)⟩, ⟨some 58, some (51, true), .bin .geq (.t 56) (.t 57)⟩, ⟨some 59, some (48, false), .pick (.t 51) (.t 58) (.c (.b false))⟩, ⟨some 60, none, .pick (.t 48) (.c (.b true)) (.t 59)⟩] [0, 5, 6, 8, 10, 12, 13, 14, 31, 32, 33, 60]) (.cond (.t 60) (.seq (.reg [⟨some 4, none, .mov (.c (.b false))⟩] [4]) (.ret)) (.skip))) (.reg [⟨some 61, none, .mov (.t 5)⟩, ⟨some 62, none, .mov (.t 10)⟩, ⟨none, none, .mup 0 [] (.t 61) (.t 62) (.c (.b true))⟩] [0, 5, 6, 8, 12, 13, 14, 31, 32, 33])))) (.reg [⟨some 63, none, .bin .add (.t 33) (.c (.i .i64 (1)))⟩, ⟨some 33, none, .mov (.t 63)⟩] [0, 5, 6, 8, 12, 13, 14, 31, 32, 33]))))))))))) (.reg [⟨some 64, none, .bin .add (.t 14) (.c (.i .i64 (1)))⟩, ⟨some 14, none, .mov (.t 64)⟩] [0, 5, 6, 12, 13, 14]))))))) (.seq (.reg [⟨some 65, none, .mov (.t 5)⟩, ⟨some 66, none, .lenm (.t 65)⟩, ⟨some 67, none, .mov (.t 0)⟩, ⟨some 68, none, .bin .eql (.t 66) (.t 67)⟩, ⟨some 4, none, .mov (.t 68)⟩] [4]) (.ret)))))
abbrev Low_bung_areBungs (P : Program) (f f0 : Nat) : Prop := lowF P f = some (69, [.tmp 4], (ic_bung_areBungs f0).erase)
/-- What is so of bungs looked at so far. -/
structure PartK (n : Nat) (bs : List (List Int)) : Prop where
  ne : ∀ b ∈ bs, b ≠ []
  hd : (bs.map fun b => b.headD 0).Pairwise (· < ·)
  up : ∀ b ∈ bs, b.Pairwise (· < ·)
  ix : ∀ b ∈ bs, ∀ i ∈ b, 0 ≤ i ∧ i < n
  nd : bs.flatten.Nodup
def partsP (n : Nat) (bs : List (List Int)) : Prop := PartK n bs ∧ bs.flatten.length = n
noncomputable instance (n : Nat) (bs : List (List Int)) : Decidable (partsP n bs) := Classical.propDecidable _
noncomputable def partsB (n : Nat) (bs : List (List Int)) : Bool := decide (partsP n bs)
theorem PartK.nil (n : Nat) : PartK n [] := ⟨by simp, by simp, by simp, by simp, by simp⟩
theorem PartK.okIx {n : Nat} {bs : List (List Int)} (h : PartK n bs) : okIx n bs.flatten := fun i hi => by
  obtain ⟨b, hb, hi⟩ := List.mem_flatten.1 hi
  exact h.ix b hb i hi
theorem PartK.len {n : Nat} {bs : List (List Int)} (h : PartK n bs) : bs.flatten.length ≤ n := nodup_bound n _ h.nd h.okIx
theorem partK_of_append {n : Nat} {a b : List (List Int)} (h : PartK n (a ++ b)) : PartK n a := by
  refine ⟨fun x hx => h.ne x (by simp [hx]), ?_, fun x hx => h.up x (by simp [hx]), fun x hx => h.ix x (by simp [hx]), ?_⟩
  · have := h.hd; rw [List.map_append, List.pairwise_append] at this; exact this.1
  · have := h.nd; rw [List.flatten_append, List.nodup_append] at this; exact this.1
theorem partK_take {n k : Nat} {bs : List (List Int)} (h : PartK n bs) : PartK n (bs.take k) := by
  have := h; rw [← List.take_append_drop k bs] at this; exact partK_of_append this
theorem last_lt {l : List Int} (h : l.Pairwise (· < ·)) {x y : Int} (hl : l.getLast? = some y) (hxy : y < x) : ∀ a ∈ l, a < x := by
  obtain ⟨ys, rfl⟩ := List.getLast?_eq_some_iff.1 hl
  intro a ha
  rcases List.mem_append.1 ha with ha | ha
  · have := (List.pairwise_append.1 h).2.2 a ha y (by simp); omega
  · simp at ha; subst ha; exact hxy
/-- One index more in the last of the bungs looked at. -/
structure PartJ (n : Nat) (bs : List (List Int)) (b : List Int) : Prop where
  up : b.Pairwise (· < ·)
  ix : ∀ i ∈ b, 0 ≤ i ∧ i < n
  nd : (bs.flatten ++ b).Nodup
theorem PartJ.snoc {n : Nat} {bs : List (List Int)} {b : List Int} {i : Int} (h : PartJ n bs b) (hi : 0 ≤ i ∧ i < n) (hn : i ∉ bs.flatten ++ b) (hl : ∀ y, b.getLast? = some y → y < i) : PartJ n bs (b ++ [i]) := by
  refine ⟨?_, fun j hj => ?_, ?_⟩
  · rw [List.pairwise_append]
    refine ⟨h.up, by simp, fun a ha c hc => ?_⟩
    simp at hc; subst hc
    cases hb : b.getLast? with
    | none => rw [List.getLast?_eq_none_iff] at hb; subst hb; simp at ha
    | some y => exact last_lt h.up hb (hl y hb) a ha
  · rcases List.mem_append.1 hj with hj | hj
    · exact h.ix j hj
    · simp at hj; subst hj; exact hi
  · rw [← List.append_assoc, List.nodup_append]
    exact ⟨h.nd, by simp, fun a ha c hc e => by simp at hc; subst hc; subst e; exact hn ha⟩
theorem partK_snoc {n : Nat} {bs : List (List Int)} {b : List Int} (h : PartK n bs) (hne : b ≠ []) (hh : ∀ y, (bs.map fun b => b.headD 0).getLast? = some y → y < b.headD 0) (hj : PartJ n bs b) : PartK n (bs ++ [b]) := by
  refine ⟨fun x hx => ?_, ?_, fun x hx => ?_, fun x hx => ?_, by simpa using hj.nd⟩
  · rcases List.mem_append.1 hx with hx | hx
    · exact h.ne x hx
    · simp at hx; subst hx; exact hne
  · rw [List.map_append, List.pairwise_append]
    refine ⟨h.hd, by simp, fun a ha c hc => ?_⟩
    simp at hc; subst hc
    cases hb : (bs.map fun b => b.headD 0).getLast? with
    | none => rw [List.getLast?_eq_none_iff] at hb; rw [hb] at ha; simp at ha
    | some y => have := last_lt h.hd hb (hh y hb) a ha; simpa using this
  · rcases List.mem_append.1 hx with hx | hx
    · exact h.up x hx
    · simp at hx; subst hx; exact hj.up
  · rcases List.mem_append.1 hx with hx | hx
    · exact h.ix x hx
    · simp at hx; subst hx; exact hj.ix

theorem parts_no {n k : Nat} {bs : List (List Int)} (h : ¬ PartK n (bs.take (k + 1))) : partsB n bs = false := by
  unfold partsB
  rw [decide_eq_false_iff_not]
  exact fun hp => h (partK_take hp.1)
theorem rowAt_zero (l : List (List V)) : rowAt l 0 = l[0]? := rfl
theorem idMap_length (l : List Int) : (idMap l).length = l.length := by simp [idMap]
def C_areBungs (P : Program) (f : Nat) : Prop := ∀ (n : Nat) (bs : List (List Int)), n ≤ 1000 → bs.length ≤ 1000000000000000 → (∀ b ∈ bs, b.length ≤ 1000000000000000) → Snd P f [.i .i64 n, .fsl (bs.map rowC)] [] (.b (partsB n bs)) []
set_option maxHeartbeats 2000000 in
theorem ok_areBungs (hm : P.follows .mixedOrders = true) {f f0 : Nat} (low : Low_bung_areBungs P f f0) (h0 : C_within P f0) : C_areBungs P f := by
  intro n bs hn hl hbl
  have wn : IntKind.i64.wrap ((n : Int) - 1) = (n : Int) - 1 := wrap_id (by omega) (by omega)
  refine snd_ic hm low (by simp) ?_
  unfold ic_bung_areBungs
  simp -dsimp -implicitDefEqProofs only [qq, Nat.reduceBEq, reduceIte, Nat.reduceAdd, Nat.reduceSub, Nat.reduceLeDiff, Nat.reduceLT, Nat.reduceMul, Nat.reduceEqDiff, Int.reduceEq, Int.reduceBEq, Int.reduceBNe, Int.reduceLT, Int.reduceLE, Int.reduceGT, Int.reduceGE, Int.reduceNeg, Int.reduceAdd, Int.reduceSub, reduceCtorEq, List.reduceReplicate, ← List.map_take, ← List.map_drop]
  refine loopI_st (fun k : Nat => bs.length - k) (fun k E H => k ≤ bs.length ∧ ∃ last, E = [(0, .i .i64 n), (5, .rmp 0), (6, .i .i64 last), (12, .fsl (bs.map rowC)), (13, .i .i64 bs.length), (14, .i .i64 k)] ∧ H = [.mp (idMap (bs.take k).flatten)] ∧ PartK n (bs.take k) ∧ ((k = 0 ∧ last = -1) ∨ ((bs.take k).map fun b => b.headD 0).getLast? = some last)) 0 ⟨by omega, _, rfl, rfl, .nil n, .inl ⟨rfl, rfl⟩⟩ ?_
  rintro k _ _ ⟨hk, last, rfl, rfl, hK, hlast⟩
  rcases Nat.lt_or_ge k bs.length with hkl | hkl
  · have hc : decide ((k : Int) < (bs.length : Int)) = true := by simpa using hkl
    obtain ⟨b, hb, hbm, htk, _⟩ := next_of hkl
    have hwk : IntKind.i64.wrap ((k : Int) + 1) = ((k + 1 : Nat) : Int) := wrap_succ (by omega)
    have hbl2 := hbl b hbm
    have gone : ∀ (H2 : List Blk), ¬ PartK n (bs.take (k + 1)) → Ends [.tmp 4] [] (.b (partsB n bs)) [] .ret [(4, .b false)] H2 := fun H2 hf => Ends.plain rfl rfl (by rw [parts_no hf]; rfl)
    rcases b with _ | ⟨x, b'⟩
    · have hlen0 : (((0 : Nat) : Int) == 0) = true := by decide
      simp -dsimp -implicitDefEqProofs only [hc, hb, rowC, hlen0, qq, Nat.reduceBEq, reduceIte, Nat.reduceAdd, Nat.reduceSub, Nat.reduceLeDiff, Nat.reduceLT, Nat.reduceMul, Nat.reduceEqDiff, Int.reduceEq, Int.reduceBEq, Int.reduceBNe, Int.reduceLT, Int.reduceLE, Int.reduceGT, Int.reduceGE, Int.reduceNeg, Int.reduceAdd, Int.reduceSub, reduceCtorEq, List.reduceReplicate, ← List.map_take, ← List.map_drop]
      exact gone _ fun h => h.ne [] (by rw [htk]; simp) rfl
    generalize hbe : x :: b' = b at hb hbm htk hbl2
    have hbx : (b.map intC)[0]? = some (intC x) := by rw [← hbe]; rfl
    have hbne : ((b.length : Int) == 0) = false := by rw [← hbe]; simp; omega
    have hhd : b.headD 0 = x := by rw [← hbe]; rfl
    have hb0 : b[0]? = some x := by rw [← hbe]; rfl
    by_cases hxl : x ≤ last
    · have hle : decide (x ≤ last) = true := decide_eq_true hxl
      simp -dsimp -implicitDefEqProofs only [hc, hb, rowC, hbne, hbx, intC, rowAt_zero, hb0, hle, qq, Nat.reduceBEq, reduceIte, Nat.reduceAdd, Nat.reduceSub, Nat.reduceLeDiff, Nat.reduceLT, Nat.reduceMul, Nat.reduceEqDiff, Int.reduceEq, Int.reduceBEq, Int.reduceBNe, Int.reduceLT, Int.reduceLE, Int.reduceGT, Int.reduceGE, Int.reduceNeg, Int.reduceAdd, Int.reduceSub, reduceCtorEq, List.reduceReplicate, ← List.map_take, ← List.map_drop]
      refine gone _ fun h => ?_
      rcases hlast with ⟨_, rfl⟩ | hlast
      · have := h.ix b (by rw [htk]; simp) x (by rw [← hbe]; simp); omega
      · have h2 := h.hd
        rw [htk, List.map_append, List.pairwise_append] at h2
        have := h2.2.2 last (List.mem_of_getLast? hlast) x (by rw [← hhd]; simp)
        omega
    have hle : decide (x ≤ last) = false := decide_eq_false hxl
    have hpass : ∀ y, ((bs.take k).map fun b => b.headD 0).getLast? = some y → y < x := fun y hy => by
      rcases hlast with ⟨rfl, _⟩ | hlast
      · simp at hy
      · rw [hlast] at hy; cases hy; omega
    simp -dsimp -implicitDefEqProofs only [hc, hb, rowC, hbne, hbx, intC, rowAt_zero, hb0, hle, qq, Nat.reduceBEq, reduceIte, Nat.reduceAdd, Nat.reduceSub, Nat.reduceLeDiff, Nat.reduceLT, Nat.reduceMul, Nat.reduceEqDiff, Int.reduceEq, Int.reduceBEq, Int.reduceBNe, Int.reduceLT, Int.reduceLE, Int.reduceGT, Int.reduceGE, Int.reduceNeg, Int.reduceAdd, Int.reduceSub, reduceCtorEq, List.reduceReplicate, ← List.map_take, ← List.map_drop]
    refine loopI_st (fun j : Nat => b.length - j) (fun j E H => j ≤ b.length ∧ E = [(0, .i .i64 n), (5, .rmp 0), (6, .i .i64 x), (8, .fsl (b.map intC)), (12, .fsl (bs.map rowC)), (13, .i .i64 bs.length), (14, .i .i64 k), (31, .fsl (b.map intC)), (32, .i .i64 b.length), (33, .i .i64 j)] ∧ H = [.mp (idMap ((bs.take k).flatten ++ b.take j))] ∧ PartJ n (bs.take k) (b.take j)) 0 ⟨by omega, rfl, by simp, by simp, by simp, by simpa using hK.nd⟩ ?_
    rintro j _ _ ⟨hj, rfl, rfl, hJ⟩
    rcases Nat.lt_or_ge j b.length with hjl | hjl
    · have hcj : decide ((j : Int) < (b.length : Int)) = true := decide_eq_true (by omega)
      obtain ⟨i, hi, him, htj, _⟩ := next_of hjl
      have hwj : IntKind.i64.wrap ((j : Int) + 1) = ((j + 1 : Nat) : Int) := wrap_succ (by omega)
      have hjk : (PartJ n (bs.take k) (b.take (j + 1)) → False) → ¬ PartK n (bs.take (k + 1)) := fun hf h => hf (by
        rw [htk] at h
        refine ⟨?_, fun y hy => h.ix b (by simp) y (List.mem_of_mem_take hy), ?_⟩
        · have := h.up b (by simp); rw [← List.take_append_drop (j + 1) b, List.pairwise_append] at this; exact this.1
        · have := h.nd; rw [List.flatten_append] at this; simp only [List.flatten_cons, List.flatten_nil, List.append_nil] at this
          rw [← List.take_append_drop (j + 1) b, ← List.append_assoc, List.nodup_append] at this; exact this.1)
      have hgt0 : j = 0 → decide ((j : Int) > 0) = false := fun h => decide_eq_false (by omega)
      have htj0 : b.take (j + 1) = b.take j ++ [i] := htj
      cases hr : inR i 0 ((n : Int) - 1)
      · simp -dsimp -implicitDefEqProofs only [hcj, hi, intC, wn, qq, Nat.reduceBEq, reduceIte, Nat.reduceAdd, Nat.reduceSub, Nat.reduceLeDiff, Nat.reduceLT, Nat.reduceMul, Nat.reduceEqDiff, Int.reduceEq, Int.reduceBEq, Int.reduceBNe, Int.reduceLT, Int.reduceLE, Int.reduceGT, Int.reduceGE, Int.reduceNeg, Int.reduceAdd, Int.reduceSub, reduceCtorEq, List.reduceReplicate, ← List.map_take, ← List.map_drop]
        refine callI_pure (h0 i 0 _) rfl rfl ?_
        simp -dsimp -implicitDefEqProofs only [hr, qq, Nat.reduceBEq, reduceIte, Nat.reduceAdd, Nat.reduceSub, Nat.reduceLeDiff, Nat.reduceLT, Nat.reduceMul, Nat.reduceEqDiff, Int.reduceEq, Int.reduceBEq, Int.reduceBNe, Int.reduceLT, Int.reduceLE, Int.reduceGT, Int.reduceGE, Int.reduceNeg, Int.reduceAdd, Int.reduceSub, reduceCtorEq, List.reduceReplicate, ← List.map_take, ← List.map_drop]
        exact gone _ (hjk fun h => by
          have := h.ix i (by rw [htj0]; simp)
          simp [inR] at hr; omega)
      have hir : 0 ≤ i ∧ i < n := by simp [inR] at hr; omega
      by_cases hin : i ∈ (bs.take k).flatten ++ b.take j
      · simp -dsimp -implicitDefEqProofs only [hcj, hi, intC, wn, qq, Nat.reduceBEq, reduceIte, Nat.reduceAdd, Nat.reduceSub, Nat.reduceLeDiff, Nat.reduceLT, Nat.reduceMul, Nat.reduceEqDiff, Int.reduceEq, Int.reduceBEq, Int.reduceBNe, Int.reduceLT, Int.reduceLE, Int.reduceGT, Int.reduceGE, Int.reduceNeg, Int.reduceAdd, Int.reduceSub, reduceCtorEq, List.reduceReplicate, ← List.map_take, ← List.map_drop]
        refine callI_pure (h0 i 0 _) rfl rfl ?_
        simp -dsimp -implicitDefEqProofs only [hr, findK_ids, if_pos hin, qq, Nat.reduceBEq, reduceIte, Nat.reduceAdd, Nat.reduceSub, Nat.reduceLeDiff, Nat.reduceLT, Nat.reduceMul, Nat.reduceEqDiff, Int.reduceEq, Int.reduceBEq, Int.reduceBNe, Int.reduceLT, Int.reduceLE, Int.reduceGT, Int.reduceGE, Int.reduceNeg, Int.reduceAdd, Int.reduceSub, reduceCtorEq, List.reduceReplicate, ← List.map_take, ← List.map_drop]
        exact gone _ (hjk fun h => by
          have h2 := h.nd
          rw [htj0, ← List.append_assoc, List.nodup_append] at h2
          exact h2.2.2 i hin i (by simp) rfl)
      rcases Nat.eq_zero_or_pos j with hj0 | hj0
      case' inl =>
        have hnx : PartJ n (bs.take k) (b.take (j + 1)) := by rw [htj0]; exact hJ.snoc hir hin fun y hy => by rw [hj0] at hy; simp at hy
        simp -dsimp -implicitDefEqProofs only [hcj, hi, intC, wn, qq, Nat.reduceBEq, reduceIte, Nat.reduceAdd, Nat.reduceSub, Nat.reduceLeDiff, Nat.reduceLT, Nat.reduceMul, Nat.reduceEqDiff, Int.reduceEq, Int.reduceBEq, Int.reduceBNe, Int.reduceLT, Int.reduceLE, Int.reduceGT, Int.reduceGE, Int.reduceNeg, Int.reduceAdd, Int.reduceSub, reduceCtorEq, List.reduceReplicate, ← List.map_take, ← List.map_drop]
        refine callI_pure (h0 i 0 _) rfl rfl ?_
        simp -dsimp -implicitDefEqProofs only [hr, findK_ids, if_neg hin, hgt0 hj0, updK_ids _ _ hin, hwj, qq, Nat.reduceBEq, reduceIte, Nat.reduceAdd, Nat.reduceSub, Nat.reduceLeDiff, Nat.reduceLT, Nat.reduceMul, Nat.reduceEqDiff, Int.reduceEq, Int.reduceBEq, Int.reduceBNe, Int.reduceLT, Int.reduceLE, Int.reduceGT, Int.reduceGE, Int.reduceNeg, Int.reduceAdd, Int.reduceSub, reduceCtorEq, List.reduceReplicate, ← List.map_take, ← List.map_drop]
      case' inr =>
        obtain ⟨m, hm⟩ : ∃ m, j = m + 1 := ⟨j - 1, by omega⟩
        obtain ⟨y, hy, _, hty, _⟩ := next_of (show m < b.length by omega)
        have hlast : (b.take j).getLast? = some y := by rw [hm, hty]; simp
        have wm : IntKind.i64.wrap ((j : Int) - 1) = (m : Int) := by rw [wrap_id (by omega) (by omega)]; omega
        have hgt : decide ((j : Int) > 0) = true := decide_eq_true (by omega)
        by_cases hyi : y ≥ i
        · have hge : decide (y ≥ i) = true := decide_eq_true hyi
          simp -dsimp -implicitDefEqProofs only [hcj, hi, intC, wn, qq, Nat.reduceBEq, reduceIte, Nat.reduceAdd, Nat.reduceSub, Nat.reduceLeDiff, Nat.reduceLT, Nat.reduceMul, Nat.reduceEqDiff, Int.reduceEq, Int.reduceBEq, Int.reduceBNe, Int.reduceLT, Int.reduceLE, Int.reduceGT, Int.reduceGE, Int.reduceNeg, Int.reduceAdd, Int.reduceSub, reduceCtorEq, List.reduceReplicate, ← List.map_take, ← List.map_drop]
          refine callI_pure (h0 i 0 _) rfl rfl ?_
          simp -dsimp -implicitDefEqProofs only [hr, findK_ids, if_neg hin, hgt, wm, hy, intC, hge, qq, Nat.reduceBEq, reduceIte, Nat.reduceAdd, Nat.reduceSub, Nat.reduceLeDiff, Nat.reduceLT, Nat.reduceMul, Nat.reduceEqDiff, Int.reduceEq, Int.reduceBEq, Int.reduceBNe, Int.reduceLT, Int.reduceLE, Int.reduceGT, Int.reduceGE, Int.reduceNeg, Int.reduceAdd, Int.reduceSub, reduceCtorEq, List.reduceReplicate, ← List.map_take, ← List.map_drop]
          exact gone _ (hjk fun h => by
            have h2 := h.up
            rw [htj0, List.pairwise_append] at h2
            have := h2.2.2 y (List.mem_of_getLast? hlast) i (by simp)
            omega)
        have hge : decide (y ≥ i) = false := decide_eq_false hyi
        have hnx : PartJ n (bs.take k) (b.take (j + 1)) := by rw [htj0]; exact hJ.snoc hir hin fun z hz => by rw [hlast] at hz; cases hz; omega
        simp -dsimp -implicitDefEqProofs only [hcj, hi, intC, wn, qq, Nat.reduceBEq, reduceIte, Nat.reduceAdd, Nat.reduceSub, Nat.reduceLeDiff, Nat.reduceLT, Nat.reduceMul, Nat.reduceEqDiff, Int.reduceEq, Int.reduceBEq, Int.reduceBNe, Int.reduceLT, Int.reduceLE, Int.reduceGT, Int.reduceGE, Int.reduceNeg, Int.reduceAdd, Int.reduceSub, reduceCtorEq, List.reduceReplicate, ← List.map_take, ← List.map_drop]
        refine callI_pure (h0 i 0 _) rfl rfl ?_
        simp -dsimp -implicitDefEqProofs only [hr, findK_ids, if_neg hin, hgt, wm, hy, intC, hge, updK_ids _ _ hin, hwj, qq, Nat.reduceBEq, reduceIte, Nat.reduceAdd, Nat.reduceSub, Nat.reduceLeDiff, Nat.reduceLT, Nat.reduceMul, Nat.reduceEqDiff, Int.reduceEq, Int.reduceBEq, Int.reduceBNe, Int.reduceLT, Int.reduceLE, Int.reduceGT, Int.reduceGE, Int.reduceNeg, Int.reduceAdd, Int.reduceSub, reduceCtorEq, List.reduceReplicate, ← List.map_take, ← List.map_drop]
      all_goals
        exact ⟨j + 1, by omega, by omega, rfl, by rw [htj0], hnx⟩
    · have hcj : decide ((j : Int) < (b.length : Int)) = false := decide_eq_false (by omega)
      rw [List.take_of_length_le hjl] at hJ
      rw [List.take_of_length_le hjl]
      simp -dsimp -implicitDefEqProofs only [hcj, hwk, qq, Nat.reduceBEq, reduceIte, Nat.reduceAdd, Nat.reduceSub, Nat.reduceLeDiff, Nat.reduceLT, Nat.reduceMul, Nat.reduceEqDiff, Int.reduceEq, Int.reduceBEq, Int.reduceBNe, Int.reduceLT, Int.reduceLE, Int.reduceGT, Int.reduceGE, Int.reduceNeg, Int.reduceAdd, Int.reduceSub, reduceCtorEq, List.reduceReplicate, ← List.map_take, ← List.map_drop]
      refine ⟨k + 1, by omega, by omega, x, rfl, by rw [htk]; simp, by rw [htk]; exact partK_snoc hK (by rw [← hbe]; simp) (fun y hy => by rw [hhd]; exact hpass y hy) hJ, .inr (by rw [htk, List.map_append, ← hhd]; simp)⟩
  · have hc : decide ((k : Int) < (bs.length : Int)) = false := by simp; omega
    rw [List.take_of_length_le hkl] at hK
    rw [List.take_of_length_le hkl]
    have hfin : partsB n bs = decide (bs.flatten.length = n) := by
      unfold partsB
      rw [Bool.eq_iff_iff, decide_eq_true_eq, decide_eq_true_eq]
      exact ⟨fun h => h.2, fun h => ⟨hK, h⟩⟩
    simp -dsimp -implicitDefEqProofs only [hc, idMap_length, qq, Nat.reduceBEq, reduceIte, Nat.reduceAdd, Nat.reduceSub, Nat.reduceLeDiff, Nat.reduceLT, Nat.reduceMul, Nat.reduceEqDiff, Int.reduceEq, Int.reduceBEq, Int.reduceBNe, Int.reduceLT, Int.reduceLE, Int.reduceGT, Int.reduceGE, Int.reduceNeg, Int.reduceAdd, Int.reduceSub, reduceCtorEq, List.reduceReplicate, ← List.map_take, ← List.map_drop]
    refine Ends.plain rfl rfl ?_
    rw [hfin]
    simp only [resV]
    congr 1
    rw [Bool.eq_iff_iff]; simp; omega
end Go.Sh.C3
end
section
namespace Go.Sh.C3
open Go.Sh
set_option maxRecDepth 10000
set_option linter.unusedVariables false
set_option linter.unusedSimpArgs false
variable {P : Program}
def ic_bung_CheckBungs (f0 f1 f2 : Nat) : IC := .seq (.reg [⟨some 4, none, .box (.t 0)⟩, ⟨some 6, none, .box (.t 2)⟩, ⟨some 8, none, .mov (.c (.i .i64 (0)))⟩] [1, 3, 4, 6]) (.seq (.seq (.reg [⟨some 13, none, .ld (some 2) (.t 4)⟩, ⟨some 14, none, .mov (.t 1)⟩, ⟨some 15, none, .ld (some 2) (.t 6)⟩, ⟨some 16, none, .calv (.c (.fn (.func f0) [] [])) [.t 13, .t 14, .t 15]⟩, ⟨some 9, none, .mov (.t 16)⟩] [1, 3, 4, 6, 9]) (.seq (.reg [⟨some 17, none, .mov (.t 9)⟩, ⟨some 18, none, .bin .neq (.t 17) (.c (.i .i64 (0)))⟩] [1, 3, 4, 6, 9, 18]) (.cond (.t 18) (.seq (.reg [⟨some 19, none, .mov (.t 9)⟩, ⟨some 8, none, .mov (.t 19)⟩] [8]) (.ret)) (.skip)))) (.seq (.seq (.reg [⟨some 20, none, .mov (.t 1)⟩, ⟨some 21, none, .len false (.t 20)⟩, ⟨some 22, none, .mov (.t 3)⟩, ⟨some 23, none, .calv (.c (.fn (.func f1) [] [])) [.t 21, .t 22]⟩, ⟨some 24, none, .un .not (.t 23)⟩] [1, 3, 4, 6, 24]) (.cond (.t 24) (.seq (.reg [⟨some 8, none, .mov (.c (.i .i64 (37)))⟩] [8]) (.ret)) (.skip))) (.seq (.reg [⟨some 25, none, .ld (some 2) (.t 4)⟩, ⟨some 26, none, .mov (.t 1)⟩, ⟨some 27, none, .ld (some 2) (.t 6)⟩, ⟨some 28, none, .bld [.i .i64 (0), .i .i64 (0), .nsl, .i .i64 (0), .i .i64 (0), .nmp] [(0, 2, (.t 25)), (2, 1, (.t 26)), (3, 2, (.t 27))]⟩, ⟨some 10, none, .alloc [.i .i64 (0), .i .i64 (0), .nsl, .i .i64 (0), .i .i64 (0), .nmp]⟩, ⟨none, none, .st 6 (.t 10) (.t 28)⟩] [3, 10]) (.seq (.seq (.reg [⟨some 29, none, .mov (.t 3)⟩, ⟨some 30, none, .len false (.t 29)⟩, ⟨some 31, none, .mov (.c (.i .i64 (0)))⟩] [10, 29, 30, 31]) (.block 0 (.loop (.seq (.reg [⟨some 32, none, .bin .lss (.t 31) (.t 30)⟩] [10, 29, 30, 31, 32]) (.seq (.cond (.t 32) (.skip) (.exit 0)) (.seq (.block 1 (.seq (.reg [⟨some 33, none, .ixs 1 (.t 29) (.t 31)⟩, ⟨some 34, none, .ld none (.t 33)⟩, ⟨some 12, none, .mov (.t 34)⟩] [10, 12, 29, 30, 31]) (.seq (.reg [⟨some 35, none, .ld (some 6) (.t 10)⟩, ⟨some 36, none, .mov (.t 12)⟩, ⟨some 37, none, .calv (.c (.fn (.func f2) [] [])) [.t 35, .t 36]⟩, ⟨some 38, none, .un .not (.t 37)⟩] [10, 29, 30, 31, 38]) (.cond (.t 38) (.seq (.reg [⟨some 8, none, .mov (.c (.i .i64 (3)))⟩] [8]) (.ret)) (.skip))))) (.reg [⟨some 39, none, .bin .add (.t 31) (.c (.i .i64 (1)))⟩, ⟨some 31, none, .mov (.t 39)⟩] [10, 29, 30, 31]))))))) (.seq (.reg [⟨some 8, none, .mov (.c (.i .i64 (0)))⟩] [8]) (.ret))))))
abbrev Low_bung_CheckBungs (P : Program) (f f0 f1 f2 : Nat) : Prop := lowF P f = some (40, [.tmp 8], (ic_bung_CheckBungs f0 f1 f2).erase)
theorem flatten_ge : ∀ {bs : List (List Int)}, (∀ b ∈ bs, b ≠ []) → bs.length ≤ bs.flatten.length
  | [], _ => by simp
  | b :: bs, h => by
    have h1 := flatten_ge (bs := bs) fun x hx => h x (List.mem_cons_of_mem _ hx)
    have h2 : 0 < b.length := List.length_pos_iff.2 (h b (by simp))
    rw [List.flatten_cons, List.length_append, List.length_cons]; omega
theorem parts_ok {n : Nat} {bs : List (List Int)} (h : partsB n bs = true) : (∀ b ∈ bs, okIx n b ∧ b.Nodup ∧ b ≠ []) ∧ bs.length ≤ n := by
  unfold partsB at h
  have h := (of_decide_eq_true h).1
  refine ⟨fun b hb => ⟨h.ix b hb, (List.pairwise_flatten.1 h.nd).1 b hb, h.ne b hb⟩, ?_⟩
  have h2 := h.len
  have := flatten_ge h.ne
  omega
noncomputable def cbE (w : Rg) (l : List Sag) (s : Spt) (bs : List (List Int)) : Int := if askedE w l s ≠ 0 then askedE w l s else if partsB l.length bs then (if bs.all (doS w l s) then 0 else 3) else 37
/-- do, where nothing has been tried. -/
def C_do0 (P : Program) (f : Nat) : Prop := ∀ (w : Rg) (l : List Sag) (s : Spt) (some : List Int), rgB w 0 200 = true → listB l = true → okIx l.length some → some.Nodup → some ≠ [] →
  Snd P f [.agg (packC w l s .nmp), .fsl (some.map intC)] [] (.b (doS w l s some)) []
theorem ok_do0 (hm : P.follows .mixedOrders = true) {f f0 f1 f2 : Nat} (low : Low_bung_packer_do P f f0 f1 f2) (h0 : C_rule P f0) (h1 : C_stacked P f1) (h2 : C_fits P f2) : C_do0 P f := by
  intro w l s some hw hv hs hn hne
  have hlen := list_len hv
  have h3 := nodup_bound l.length some hn hs
  have hpk := listB_pick hv (ruleS_ok hs) (ruleS_nodup hn)
  unfold packC
  refine snd_ic hm low (by simp) ?_
  unfold ic_bung_packer_do
  simp -dsimp -implicitDefEqProofs only [qq, Nat.reduceBEq, reduceIte, Nat.reduceAdd, Nat.reduceSub, Nat.reduceLeDiff, Nat.reduceLT, Nat.reduceMul, Nat.reduceEqDiff, Int.reduceEq, Int.reduceBEq, Int.reduceBNe, Int.reduceLT, Int.reduceLE, Int.reduceGT, Int.reduceGE, Int.reduceNeg, Int.reduceAdd, Int.reduceSub, reduceCtorEq, List.reduceReplicate, ← List.map_take, ← List.map_drop]
  refine callI_pure (h0 l some hv (by omega) hs) rfl rfl ?_
  simp -dsimp -implicitDefEqProofs only [qq, Nat.reduceBEq, reduceIte, Nat.reduceAdd, Nat.reduceSub, Nat.reduceLeDiff, Nat.reduceLT, Nat.reduceMul, Nat.reduceEqDiff, Int.reduceEq, Int.reduceBEq, Int.reduceBNe, Int.reduceLT, Int.reduceLE, Int.reduceGT, Int.reduceGE, Int.reduceNeg, Int.reduceAdd, Int.reduceSub, reduceCtorEq, List.reduceReplicate, ← List.map_take, ← List.map_drop]
  refine callI_pure (h1 l (ruleS l some) (by rw [ruleS_length]; omega) (ruleS_ok hs)) rfl rfl ?_
  simp -dsimp -implicitDefEqProofs only [qq, Nat.reduceBEq, reduceIte, Nat.reduceAdd, Nat.reduceSub, Nat.reduceLeDiff, Nat.reduceLT, Nat.reduceMul, Nat.reduceEqDiff, Int.reduceEq, Int.reduceBEq, Int.reduceBNe, Int.reduceLT, Int.reduceLE, Int.reduceGT, Int.reduceGE, Int.reduceNeg, Int.reduceAdd, Int.reduceSub, reduceCtorEq, List.reduceReplicate, ← List.map_take, ← List.map_drop]
  have hpl : 0 < (pickS l (ruleS l some)).length := by rw [pickS_len (ruleS_ok hs), ruleS_length]; exact List.length_pos_iff.2 hne
  refine callI_pure (h2 w (pickS l (ruleS l some)) s (by simp [bungB, hw, hpk, hpl])) rfl rfl ?_
  simp -dsimp -implicitDefEqProofs only [qq, Nat.reduceBEq, reduceIte, Nat.reduceAdd, Nat.reduceSub, Nat.reduceLeDiff, Nat.reduceLT, Nat.reduceMul, Nat.reduceEqDiff, Int.reduceEq, Int.reduceBEq, Int.reduceBNe, Int.reduceLT, Int.reduceLE, Int.reduceGT, Int.reduceGE, Int.reduceNeg, Int.reduceAdd, Int.reduceSub, reduceCtorEq, List.reduceReplicate, ← List.map_take, ← List.map_drop]
  exact Ends.plain rfl rfl rfl
def C_CheckBungs (P : Program) (f : Nat) : Prop := ∀ (w : Rg) (l : List Sag) (s : Spt) (bs : List (List Int)), bs.length ≤ 1000000000000000 → (∀ b ∈ bs, b.length ≤ 1000000000000000) → Snd P f [.agg w.c, .fsl (l.map Sag.c), .agg s.c, .fsl (bs.map rowC)] [] (.i .i64 (cbE w l s bs)) []
theorem ok_CheckBungs (hm : P.follows .mixedOrders = true) {f f0 f1 f2 : Nat} (low : Low_bung_CheckBungs P f f0 f1 f2) (h0 : C_asked P f0) (h1 : C_areBungs P f1) (h2 : C_do0 P f2) : C_CheckBungs P f := by
  intro w l s bs hl hbl
  refine snd_ic hm low (by simp) ?_
  unfold ic_bung_CheckBungs
  simp -dsimp -implicitDefEqProofs only [qq, Nat.reduceBEq, reduceIte, Nat.reduceAdd, Nat.reduceSub, Nat.reduceLeDiff, Nat.reduceLT, Nat.reduceMul, Nat.reduceEqDiff, Int.reduceEq, Int.reduceBEq, Int.reduceBNe, Int.reduceLT, Int.reduceLE, Int.reduceGT, Int.reduceGE, Int.reduceNeg, Int.reduceAdd, Int.reduceSub, reduceCtorEq, List.reduceReplicate, ← List.map_take, ← List.map_drop]
  refine callI_pure (h0 w l s) rfl rfl ?_
  cases he : (askedE w l s != 0)
  case true =>
    simp -dsimp -implicitDefEqProofs only [he, qq, Nat.reduceBEq, reduceIte, Nat.reduceAdd, Nat.reduceSub, Nat.reduceLeDiff, Nat.reduceLT, Nat.reduceMul, Nat.reduceEqDiff, Int.reduceEq, Int.reduceBEq, Int.reduceBNe, Int.reduceLT, Int.reduceLE, Int.reduceGT, Int.reduceGE, Int.reduceNeg, Int.reduceAdd, Int.reduceSub, reduceCtorEq, List.reduceReplicate, ← List.map_take, ← List.map_drop]
    exact Ends.plain rfl rfl (by have : askedE w l s ≠ 0 := by simpa using he
                                 simp [resV, cbE, this])
  have he' : askedE w l s = 0 := by simpa using he
  obtain ⟨hw, hv, hsp⟩ := asked_ok he'
  have hlen := list_len hv
  simp -dsimp -implicitDefEqProofs only [he, qq, Nat.reduceBEq, reduceIte, Nat.reduceAdd, Nat.reduceSub, Nat.reduceLeDiff, Nat.reduceLT, Nat.reduceMul, Nat.reduceEqDiff, Int.reduceEq, Int.reduceBEq, Int.reduceBNe, Int.reduceLT, Int.reduceLE, Int.reduceGT, Int.reduceGE, Int.reduceNeg, Int.reduceAdd, Int.reduceSub, reduceCtorEq, List.reduceReplicate, ← List.map_take, ← List.map_drop]
  refine callI_pure (h1 l.length bs (by omega) hl hbl) rfl rfl ?_
  cases hp : partsB l.length bs
  · simp -dsimp -implicitDefEqProofs only [qq, Nat.reduceBEq, reduceIte, Nat.reduceAdd, Nat.reduceSub, Nat.reduceLeDiff, Nat.reduceLT, Nat.reduceMul, Nat.reduceEqDiff, Int.reduceEq, Int.reduceBEq, Int.reduceBNe, Int.reduceLT, Int.reduceLE, Int.reduceGT, Int.reduceGE, Int.reduceNeg, Int.reduceAdd, Int.reduceSub, reduceCtorEq, List.reduceReplicate, ← List.map_take, ← List.map_drop]
    exact Ends.plain rfl rfl (by simp [resV, cbE, he', hp])
  obtain ⟨hb, hbn⟩ := parts_ok hp
  simp -dsimp -implicitDefEqProofs only [qq, Nat.reduceBEq, reduceIte, Nat.reduceAdd, Nat.reduceSub, Nat.reduceLeDiff, Nat.reduceLT, Nat.reduceMul, Nat.reduceEqDiff, Int.reduceEq, Int.reduceBEq, Int.reduceBNe, Int.reduceLT, Int.reduceLE, Int.reduceGT, Int.reduceGE, Int.reduceNeg, Int.reduceAdd, Int.reduceSub, reduceCtorEq, List.reduceReplicate, ← List.map_take, ← List.map_drop]
  refine loopI_st (fun k : Nat => bs.length - k) (fun k E H => k ≤ bs.length ∧ E = [(10, .rpt 2 6 0 0), (29, .fsl (bs.map rowC)), (30, .i .i64 bs.length), (31, .i .i64 k)] ∧ H[2]? = some (.row 6 [packC w l s .nmp]) ∧ (bs.take k).all (doS w l s) = true) 0 ⟨by omega, rfl, rfl, rfl⟩ ?_
  rintro k _ H ⟨hk, rfl, g2, hd⟩
  rcases Nat.lt_or_ge k bs.length with hkl | hkl
  · have hc : decide ((k : Int) < (bs.length : Int)) = true := by simpa using hkl
    obtain ⟨x, hx, hxm, htk, _⟩ := next_of hkl
    have hwk : IntKind.i64.wrap ((k : Int) + 1) = ((k + 1 : Nat) : Int) := wrap_succ (by omega)
    obtain ⟨q1, q2, q3⟩ := hb x hxm
    simp -dsimp -implicitDefEqProofs only [hc, hx, rowC, g2, packC, qq, Nat.reduceBEq, reduceIte, Nat.reduceAdd, Nat.reduceSub, Nat.reduceLeDiff, Nat.reduceLT, Nat.reduceMul, Nat.reduceEqDiff, Int.reduceEq, Int.reduceBEq, Int.reduceBNe, Int.reduceLT, Int.reduceLE, Int.reduceGT, Int.reduceGE, Int.reduceNeg, Int.reduceAdd, Int.reduceSub, reduceCtorEq, List.reduceReplicate, ← List.map_take, ← List.map_drop]
    refine callI_pure (h2 w l s x hw hv q1 q2 q3) rfl rfl ?_
    cases hdx : doS w l s x
    · simp -dsimp -implicitDefEqProofs only [qq, Nat.reduceBEq, reduceIte, Nat.reduceAdd, Nat.reduceSub, Nat.reduceLeDiff, Nat.reduceLT, Nat.reduceMul, Nat.reduceEqDiff, Int.reduceEq, Int.reduceBEq, Int.reduceBNe, Int.reduceLT, Int.reduceLE, Int.reduceGT, Int.reduceGE, Int.reduceNeg, Int.reduceAdd, Int.reduceSub, reduceCtorEq, List.reduceReplicate, ← List.map_take, ← List.map_drop]
      refine Ends.plain rfl rfl ?_
      have : bs.all (doS w l s) = false := by simp only [List.all_eq_false]; exact ⟨x, hxm, by rw [hdx]; simp⟩
      simp [resV, cbE, he', hp, this]
    · simp -dsimp -implicitDefEqProofs only [hwk, qq, Nat.reduceBEq, reduceIte, Nat.reduceAdd, Nat.reduceSub, Nat.reduceLeDiff, Nat.reduceLT, Nat.reduceMul, Nat.reduceEqDiff, Int.reduceEq, Int.reduceBEq, Int.reduceBNe, Int.reduceLT, Int.reduceLE, Int.reduceGT, Int.reduceGE, Int.reduceNeg, Int.reduceAdd, Int.reduceSub, reduceCtorEq, List.reduceReplicate, ← List.map_take, ← List.map_drop]
      exact ⟨k + 1, by omega, by omega, rfl, g2, by rw [htk, List.all_append, hd]; simp [hdx]⟩
  · have hc : decide ((k : Int) < (bs.length : Int)) = false := by simp; omega
    rw [List.take_of_length_le hkl] at hd
    simp -dsimp -implicitDefEqProofs only [hc, qq, Nat.reduceBEq, reduceIte, Nat.reduceAdd, Nat.reduceSub, Nat.reduceLeDiff, Nat.reduceLT, Nat.reduceMul, Nat.reduceEqDiff, Int.reduceEq, Int.reduceBEq, Int.reduceBNe, Int.reduceLT, Int.reduceLE, Int.reduceGT, Int.reduceGE, Int.reduceNeg, Int.reduceAdd, Int.reduceSub, reduceCtorEq, List.reduceReplicate, ← List.map_take, ← List.map_drop]
    exact Ends.plain rfl rfl (by simp [resV, cbE, he', hp, hd])

end Go.Sh.C3
end
section
namespace Go.Sh.C3
open Go.Sh
set_option linter.unusedVariables false
set_option linter.unusedSimpArgs false

/-- Bungs that the search comes to. -/
inductive Built (d : List Int → Bool) (many : Nat) : Nat → List (List Int) → Prop
  | nil : Built d many 0 []
  | step {i k : Nat} {bs : List (List Int)} : Built d many i bs → k < min (bs.length + 1) many → d (newB bs k i) = true → Built d many (i + 1) (addS bs k i)
theorem packS_built {d : List Int → Bool} {n many : Nat} (h0 : packS d n many n [] = none) : ∀ {i : Nat} {bs : List (List Int)}, Built d many i bs → i ≤ n → packS d n many (n - i) bs = none := by
  intro i bs h
  induction h with
  | nil => exact fun _ => h0
  | @step i k bs _ hk hd ih =>
    intro hi
    have := ih (by omega)
    obtain ⟨r, hr⟩ : ∃ r, n - i = r + 1 := ⟨n - (i + 1), by omega⟩
    rw [hr, packS, List.findSome?_eq_none_iff] at this
    have h2 := this k (List.mem_range.2 hk)
    rw [show n - (r + 1) = i by omega, if_pos hd] at h2
    rw [show n - (i + 1) = r by omega]; exact h2
theorem built_part {d : List Int → Bool} {many N : Nat} (hd : ∀ b x, okIx N (b ++ [x]) → (b ++ [x]).Nodup → b ≠ [] → d (b ++ [x]) = true → d b = true) : ∀ {n : Nat} {out : List (List Int)}, n ≤ N → PartK n out → out.flatten.length = n → out.all d = true → out.length ≤ many → Built d many n out
  | 0, out, _, hp, hl, _, _ => by
    have : out = [] := by
      cases out with
      | nil => rfl
      | cons b r =>
        have := hp.ne b (by simp)
        cases b with
        | nil => exact absurd rfl this
        | cons x b => simp at hl
    subst this; exact .nil
  | n + 1, out, hn9, hp, hl, ha, hm => by
    have hmem : (n : Int) ∈ out.flatten := by
      apply Classical.byContradiction
      intro hno
      have := nodup_bound n _ hp.nd (fun i hi => by
        have h1 := hp.okIx i hi
        have : i ≠ n := fun e => hno (e ▸ hi)
        omega)
      omega
    obtain ⟨c, hc, hnc⟩ := List.mem_flatten.1 hmem
    obtain ⟨pre, post, rfl⟩ := List.append_of_mem hc
    obtain ⟨b, t, rfl⟩ := List.append_of_mem hnc
    have hup := hp.up _ hc
    have hix := hp.ix _ hc
    have ht : t = [] := by
      cases t with
      | nil => rfl
      | cons y t =>
        have h1 := (List.pairwise_cons.1 (List.pairwise_append.1 hup).2.1).1 y (by simp)
        have h2 := hix y (by simp)
        omega
    subst ht
    have hnd := hp.nd
    simp only [List.flatten_append, List.flatten_cons] at hnd hl
    have hlen : pre.flatten.length + b.length + post.flatten.length = n := by simp only [List.length_append, List.length_cons, List.length_nil] at hl; omega
    have hnn : ∀ x, x ∈ pre.flatten ∨ x ∈ b ∨ x ∈ post.flatten → x ≠ n := by
      rintro x hx rfl
      rw [List.nodup_append] at hnd
      obtain ⟨_, h2, h3⟩ := hnd
      rw [List.nodup_append] at h2
      obtain ⟨h4, _, h5⟩ := h2
      rw [List.nodup_append] at h4
      rcases hx with hx | hx | hx
      · exact h3 _ hx n (by simp) rfl
      · exact h4.2.2 _ hx n (by simp) rfl
      · exact h5 n (by simp) _ hx rfl
    have hall := List.all_eq_true.1 ha
    by_cases hb : b = []
    · subst hb
      have hpost : post = [] := by
        cases post with
        | nil => rfl
        | cons q post =>
          have h1 := hp.hd
          simp only [List.map_append, List.map_cons, List.nil_append] at h1
          have h2 := (List.pairwise_cons.1 (List.pairwise_append.1 h1).2.1).1 (q.headD 0) (by simp)
          have h3 := hp.ne q (by simp)
          cases q with
          | nil => exact absurd rfl h3
          | cons y q =>
            have h4 := hp.ix (y :: q) (by simp) y (by simp)
            simp at h2
            omega
      subst hpost
      have hk : PartK n pre := by
        refine ⟨fun b hb => hp.ne b (by simp [hb]), ?_, fun b hb => hp.up b (by simp [hb]), fun b hb i hi => ?_, ?_⟩
        · have h1 := hp.hd
          rw [List.map_append] at h1
          exact (List.pairwise_append.1 h1).1
        · have h1 := hp.ix b (by simp [hb]) i hi
          have := hnn i (.inl (List.mem_flatten.2 ⟨b, hb, hi⟩))
          omega
        · exact (List.nodup_append.1 hnd).1
      have h1 := built_part (many := many) hd (by omega) hk (by simp only [List.flatten_nil, List.length_nil] at hlen; omega) (List.all_eq_true.2 fun b hb => hall b (by simp [hb])) (by simp at hm; omega)
      have h2 := h1.step (k := pre.length) (by simp at hm; omega) (by
        have := hall [(n : Int)] (by simp)
        simpa [newB] using this)
      simpa [addS] using h2
    · have hk : PartK n (pre ++ b :: post) := by
        refine ⟨fun c hc => ?_, ?_, fun c hc => ?_, fun c hc i hi => ?_, ?_⟩
        · rcases List.mem_append.1 hc with h | h
          · exact hp.ne c (by simp [h])
          · rcases List.mem_cons.1 h with rfl | h
            · exact hb
            · exact hp.ne c (by simp [h])
        · have h1 := hp.hd
          have e : (b ++ [(n : Int)]).headD 0 = b.headD 0 := by cases b with
            | nil => exact absurd rfl hb
            | cons y b => rfl
          simp only [List.map_append, List.map_cons, e] at h1 ⊢
          exact h1
        · rcases List.mem_append.1 hc with h | h
          · exact hp.up c (by simp [h])
          · rcases List.mem_cons.1 h with rfl | h
            · exact (List.pairwise_append.1 hup).1
            · exact hp.up c (by simp [h])
        · rcases List.mem_append.1 hc with h | h
          · have h1 := hp.ix c (by simp [h]) i hi
            have := hnn i (.inl (List.mem_flatten.2 ⟨c, h, hi⟩))
            omega
          · rcases List.mem_cons.1 h with rfl | h
            · have h1 := hix i (by simp [hi])
              have := hnn i (.inr (.inl hi))
              omega
            · have h1 := hp.ix c (by simp [h]) i hi
              have := hnn i (.inr (.inr (List.mem_flatten.2 ⟨c, h, hi⟩)))
              omega
        · simp only [List.flatten_append, List.flatten_cons]
          refine hnd.sublist ?_
          exact List.Sublist.append (List.Sublist.refl _) (List.Sublist.append (List.sublist_append_left _ _) (List.Sublist.refl _))
      have hdb : d (b ++ [(n : Int)]) = true := hall _ hc
      have hndb : (b ++ [(n : Int)]).Nodup := hup.imp fun hab => by omega
      have h1 := built_part (many := many) hd (by omega) hk (by simp only [List.flatten_append, List.flatten_cons, List.length_append]; omega) (List.all_eq_true.2 fun c hc => by
        rcases List.mem_append.1 hc with h | h
        · exact hall c (by simp [h])
        · rcases List.mem_cons.1 h with rfl | h
          · exact hd _ _ (fun i hi => by have := hix i hi; omega) hndb hb hdb
          · exact hall c (by simp [h])) (by simp at hm ⊢; omega)
      have h2 := h1.step (k := pre.length) (by simp at hm ⊢; omega) (by simpa [newB] using hdb)
      have e : addS (pre ++ b :: post) pre.length n = pre ++ (b ++ [(n : Int)]) :: post := by
        rw [addS, if_pos (by simp)]
        simp
      rw [e] at h2; exact h2
/-- What is added to lists that are bungs. -/
theorem partK_add {n k : Nat} {bs : List (List Int)} (h : PartK n bs) (hk : k ≤ bs.length) : PartK (n + 1) (addS bs k n) := by
  have hix : ∀ b ∈ bs, ∀ i ∈ b, i < (n : Int) := fun b hb i hi => (h.ix b hb i hi).2
  unfold addS
  split
  · rename_i hkl
    obtain ⟨pre, b, post, hbs, hpl⟩ : ∃ pre b post, bs = pre ++ b :: post ∧ pre.length = k := ⟨bs.take k, bs[k], bs.drop (k + 1), by simp, by simp; omega⟩
    subst hbs; subst hpl
    have hb : b ≠ [] := h.ne b (by simp)
    simp only [List.getElem?_append_right (Nat.le_refl _), Nat.sub_self, List.getElem?_cons_zero, Option.getD_some, List.set_append_right _ _ (Nat.le_refl _), List.set_cons_zero]
    have hnd := h.nd
    simp only [List.flatten_append, List.flatten_cons] at hnd
    have hnn : ∀ x, x ∈ pre.flatten ∨ x ∈ b ∨ x ∈ post.flatten → x < (n : Int) := by
      rintro x (hx | hx | hx)
      · obtain ⟨c, hc, hx⟩ := List.mem_flatten.1 hx; exact hix c (by simp [hc]) x hx
      · exact hix b (by simp) x hx
      · obtain ⟨c, hc, hx⟩ := List.mem_flatten.1 hx; exact hix c (by simp [hc]) x hx
    refine ⟨fun c hc => ?_, ?_, fun c hc => ?_, fun c hc i hi => ?_, ?_⟩
    · rcases List.mem_append.1 hc with g | g
      · exact h.ne c (by simp [g])
      · rcases List.mem_cons.1 g with rfl | g
        · simp
        · exact h.ne c (by simp [g])
    · have h1 := h.hd
      have e : (b ++ [(n : Int)]).headD 0 = b.headD 0 := by cases b with
        | nil => exact absurd rfl hb
        | cons y b => rfl
      simp only [List.map_append, List.map_cons, e] at h1 ⊢
      exact h1
    · rcases List.mem_append.1 hc with g | g
      · exact h.up c (by simp [g])
      · rcases List.mem_cons.1 g with rfl | g
        · exact List.pairwise_append.2 ⟨h.up b (by simp), by simp, fun x hx y hy => by simp at hy; subst hy; exact hix b (by simp) x hx⟩
        · exact h.up c (by simp [g])
    · rcases List.mem_append.1 hc with g | g
      · have := h.ix c (by simp [g]) i hi; omega
      · rcases List.mem_cons.1 g with rfl | g
        · rcases List.mem_append.1 hi with hi | hi
          · have := h.ix b (by simp) i hi; omega
          · simp at hi; omega
        · have := h.ix c (by simp [g]) i hi; omega
    · simp only [List.flatten_append, List.flatten_cons]
      rw [List.nodup_append] at hnd ⊢
      obtain ⟨h1, h2, h3⟩ := hnd
      rw [List.nodup_append] at h2
      refine ⟨h1, ?_, ?_⟩
      · rw [List.nodup_append]
        refine ⟨?_, h2.2.1, ?_⟩
        · rw [List.nodup_append]
          exact ⟨h2.1, by simp, fun x hx y hy e => by simp at hy; have := hnn x (.inr (.inl hx)); omega⟩
        · intro x hx y hy e
          rcases List.mem_append.1 hx with hx | hx
          · exact h2.2.2 x hx y hy e
          · simp at hx; have := hnn y (.inr (.inr hy)); omega
      · intro x hx y hy e
        have hxn := hnn x (.inl hx)
        rcases List.mem_append.1 hy with hy | hy
        · rcases List.mem_append.1 hy with hy | hy
          · exact h3 x hx y (by simp [hy]) e
          · simp at hy; omega
        · exact h3 x hx y (List.mem_append.2 (.inr hy)) e
  · have hnn : ∀ x ∈ bs.flatten, x < (n : Int) := fun x hx => by
      obtain ⟨c, hc, hx⟩ := List.mem_flatten.1 hx; exact hix c hc x hx
    refine ⟨fun c hc => ?_, ?_, fun c hc => ?_, fun c hc i hi => ?_, ?_⟩
    · rcases List.mem_append.1 hc with g | g
      · exact h.ne c g
      · simp at g; subst g; simp
    · rw [List.map_append, List.pairwise_append]
      refine ⟨h.hd, by simp, fun x hx y hy => ?_⟩
      obtain ⟨c, hc, rfl⟩ := List.mem_map.1 hx
      simp at hy; subst hy
      cases c with
      | nil => exact absurd rfl (h.ne _ hc)
      | cons z c => exact hix _ hc z (by simp)
    · rcases List.mem_append.1 hc with g | g
      · exact h.up c g
      · simp at g; subst g; simp
    · rcases List.mem_append.1 hc with g | g
      · have := h.ix c g i hi; omega
      · simp at g; subst g; simp at hi; omega
    · rw [List.flatten_append, List.nodup_append]
      refine ⟨h.nd, by simp, fun x hx y hy e => ?_⟩
      simp at hy; have := hnn x hx; omega
theorem flat_add {n k : Nat} {bs : List (List Int)} (h : bs.flatten.length = n) : (addS bs k n).flatten.length = n + 1 := by
  unfold addS
  split
  · rename_i hkl
    obtain ⟨pre, b, post, hbs, hpl⟩ : ∃ pre b post, bs = pre ++ b :: post ∧ pre.length = k := ⟨bs.take k, bs[k], bs.drop (k + 1), by simp, by simp; omega⟩
    subst hbs; subst hpl
    simp only [List.getElem?_append_right (Nat.le_refl _), Nat.sub_self, List.getElem?_cons_zero, Option.getD_some, List.set_append_right _ _ (Nat.le_refl _), List.set_cons_zero]
    simp at h ⊢; omega
  · simp [h]
theorem packS_part {d : List Int → Bool} {n many : Nat} : ∀ (r : Nat) (bs out : List (List Int)), r ≤ n → PartK (n - r) bs → bs.flatten.length = n - r → bs.all d = true → packS d n many r bs = some out → PartK n out ∧ out.flatten.length = n ∧ out.all d = true ∧ out.length = many
  | 0, bs, out, _, hp, hl, ha, h => by
    rw [packS] at h
    split at h
    · cases h; exact ⟨hp, hl, ha, by assumption⟩
    · cases h
  | r + 1, bs, out, hr, hp, hl, ha, h => by
    rw [packS] at h
    obtain ⟨k, hk, hf⟩ := List.exists_of_findSome?_eq_some h
    simp only [List.mem_range] at hk
    split at hf
    · rename_i hd
      have h1 := partK_add hp (show k ≤ bs.length by omega)
      have h2 := flat_add (k := k) hl
      rw [show n - (r + 1) + 1 = n - r by omega] at h1 h2
      refine packS_part r _ out (by omega) h1 h2 ?_ hf
      rw [List.all_eq_true] at ha ⊢
      intro b hb
      unfold addS at hb
      split at hb
      · rename_i hkl
        rcases List.mem_or_eq_of_mem_set hb with g | rfl
        · exact ha b g
        · exact hd
      · rename_i hkl
        rcases List.mem_append.1 hb with g | g
        · exact ha b g
        · simp at g; subst g
          have : bs[k]? = none := by simp; omega
          rw [newB, this] at hd; simpa using hd
    · cases hf
/-- The fewest: bungs that do, and none that are fewer do. -/
theorem fewS_spec {d : List Int → Bool} {n : Nat} (hd : ∀ b x, okIx n (b ++ [x]) → (b ++ [x]).Nodup → b ≠ [] → d (b ++ [x]) = true → d b = true) (hn : 0 < n) :
    match fewS d n with
    | none => ∀ out, partsP n out → out.all d = true → False
    | some p => partsP n p ∧ p.all d = true ∧ ∀ out, partsP n out → out.all d = true → p.length ≤ out.length := by
  have key : ∀ out, partsP n out → out.all d = true → 0 < out.length ∧ out.length ≤ n ∧ packS d n out.length n [] ≠ none := fun out hp ha => by
    have hle : out.length ≤ out.flatten.length := flatten_ge hp.1.ne
    have hpos : 0 < out.length := by
      cases out with
      | nil => have := hp.2; simp at this; omega
      | cons b r => simp
    refine ⟨hpos, by have := hp.2; omega, fun hno => ?_⟩
    have hb := built_part (many := out.length) hd (Nat.le_refl _) hp.1 hp.2 ha (Nat.le_refl _)
    have := packS_built hno hb (Nat.le_refl _)
    rw [Nat.sub_self, packS, if_pos rfl] at this
    cases this
  have hnil : PartK (n - n) [] := .nil _
  cases hf : fewS d n with
  | none =>
    intro out hp ha
    obtain ⟨h1, h2, h3⟩ := key out hp ha
    rw [fewS, List.findSome?_eq_none_iff] at hf
    exact h3 (by have := hf (out.length - 1) (List.mem_range.2 (by omega)); rwa [show out.length - 1 + 1 = out.length by omega] at this)
  | some p =>
    rw [fewS] at hf
    obtain ⟨l1, j, l2, hl, hj, hno⟩ := List.findSome?_eq_some_iff.1 hf
    obtain ⟨h1, h2, h3, h4⟩ := packS_part n [] p (Nat.le_refl _) hnil (by simp) rfl hj
    refine ⟨⟨h1, h2⟩, h3, fun out hp ha => ?_⟩
    obtain ⟨g1, g2, g3⟩ := key out hp ha
    rw [h4]
    apply Classical.byContradiction
    intro hlt
    have hjl : j = l1.length := by
      have := congrArg (fun l => l[l1.length]?) hl
      simp only [List.getElem?_append_right (Nat.le_refl _), Nat.sub_self, List.getElem?_cons_zero] at this
      have h5 : l1.length < n := by have := congrArg List.length hl; simp at this; omega
      rw [List.getElem?_range h5] at this
      simp at this; omega
    have hm : out.length - 1 ∈ l1 := by
      have h6 : l1[out.length - 1]? = some (out.length - 1) := by
        have : (List.range n)[out.length - 1]? = (l1 ++ j :: l2)[out.length - 1]? := by rw [hl]
        rw [List.getElem?_append_left (by omega), List.getElem?_range (by omega)] at this
        exact this.symm
      exact List.mem_of_getElem? h6
    exact g3 (by have := hno _ hm; rwa [show out.length - 1 + 1 = out.length by omega] at this)
end Go.Sh.C3
end
section
namespace Go.Sh.C3
open Go.Sh
set_option maxRecDepth 10000
set_option linter.unusedVariables false
set_option linter.unusedSimpArgs false
variable {P : Program}
def ic_potbankref03_Parts (f0 f1 : Nat) : IC := .seq (.reg [⟨some 6, none, .mov (.c (.nsl))⟩] [0, 1, 2]) (.seq (.reg [⟨some 7, none, .mov (.c (.nsl))⟩] [0, 1, 2, 7]) (.seq (.seq (.reg [⟨some 8, none, .mov (.c (.i .i64 (0)))⟩] [0, 1, 2, 7, 8]) (.block 0 (.loop (.seq (.seq (.reg [⟨some 10, none, .mov (.t 8)⟩, ⟨some 11, none, .mov (.t 0)⟩, ⟨some 12, none, .bin .lss (.t 10) (.t 11)⟩] [0, 1, 2, 7, 8, 12]) (.cond (.t 12) (.skip) (.exit 0))) (.seq (.block 1 (.seq (.reg [⟨some 9, none, .mov (.c (.i .i64 (0)))⟩] [0, 1, 2, 7, 8, 9]) (.seq (.seq (.reg [⟨some 15, none, .mov (.t 1)⟩, ⟨some 16, none, .len false (.t 15)⟩, ⟨some 17, none, .bin .gtr (.t 16) (.c (.i .i64 (0)))⟩] [0, 1, 2, 7, 8, 9, 17]) (.cond (.t 17) (.reg [⟨some 18, none, .mov (.t 1)⟩, ⟨some 19, none, .mov (.t 8)⟩, ⟨some 20, none, .mov (.t 1)⟩, ⟨some 21, none, .len false (.t 20)⟩, ⟨some 22, none, .bin .rem (.t 19) (.t 21)⟩, ⟨some 23, none, .ixs 1 (.t 18) (.t 22)⟩, ⟨some 24, none, .ld none (.t 23)⟩, ⟨some 25, none, .mov (.t 7)⟩, ⟨some 26, none, .len false (.t 25)⟩, ⟨some 27, none, .bin .add (.t 26) (.c (.i .i64 (1)))⟩, ⟨some 28, none, .mov (.t 2)⟩, ⟨some 29, none, .mm false (.t 27) (.t 28)⟩, ⟨some 30, none, .calv (.c (.fn (.func f0) [] [])) [.t 24, .t 29]⟩, ⟨some 9, none, .mov (.t 30)⟩] [0, 1, 2, 7, 8, 9]) (.skip))) (.reg [⟨some 31, none, .mov (.t 7)⟩, ⟨some 32, none, .mov (.t 9)⟩, ⟨some 33, none, .mov (.t 8)⟩, ⟨some 34, none, .calv (.c (.fn (.func f1) [] [])) [.t 31, .t 32, .t 33]⟩, ⟨some 7, none, .mov (.t 34)⟩] [0, 1, 2, 7, 8])))) (.reg [⟨some 13, none, .mov (.t 8)⟩, ⟨some 14, none, .bin .add (.t 13) (.c (.i .i64 (1)))⟩, ⟨some 8, none, .mov (.t 14)⟩] [0, 1, 2, 7, 8])))))) (.seq (.reg [⟨some 35, none, .mov (.t 7)⟩, ⟨some 6, none, .mov (.t 35)⟩] [6]) (.ret))))
abbrev Low_potbankref03_Parts (P : Program) (f f0 f1 : Nat) : Prop := lowF P f = some (36, [.tmp 6], (ic_potbankref03_Parts f0 f1).erase)
def ic_potbanklaw03_BungCounted (f0 f1 f2 f3 f4 f5 f6 f7 f8 : Nat) : IC := .seq (.reg [⟨some 3, none, .box (.t 0)⟩, ⟨some 4, none, .box (.t 1)⟩, ⟨some 6, none, .mov (.c (.b false))⟩] [2, 3, 4]) (.seq (.reg [⟨some 18, none, .calv (.c (.fn (.func f0) [] [])) []⟩, ⟨some 7, none, .mov (.t 18)⟩] [2, 3, 4, 7]) (.seq (.reg [⟨some 19, none, .fad 0 (.t 3)⟩, ⟨some 20, none, .ld none (.t 19)⟩, ⟨some 21, none, .calv (.c (.fn (.func f1) [] [])) [.t 20, .c (.i .i64 (6))]⟩, ⟨some 8, none, .mov (.t 21)⟩] [2, 3, 4, 7, 8]) (.seq (.reg [⟨some 22, none, .fad 2 (.t 3)⟩, ⟨some 23, none, .ld (some 2) (.t 22)⟩, ⟨some 24, none, .calv (.c (.fn (.func f2) [] [])) [.t 23]⟩, ⟨some 9, none, .alloc [.i .i64 (0), .i .i64 (0)]⟩, ⟨none, none, .st 2 (.t 9) (.t 24)⟩] [2, 4, 7, 8, 9]) (.seq (.drg [(0, ⟨some 25, none, .ixa 2 1 (.t 4) (.c (.i .i64 (0)))⟩), (0, ⟨some 26, none, .ld none (.t 25)⟩), (0, ⟨some 27, none, .calv (.c (.fn (.func f3) [] [])) [.t 26, .c (.i .i64 (1200))]⟩), (0, ⟨some 28, none, .ixa 2 1 (.t 4) (.c (.i .i64 (1)))⟩), (0, ⟨some 29, none, .ld none (.t 28)⟩), (0, ⟨some 30, none, .calv (.c (.fn (.func f3) [] [])) [.t 29, .c (.i .i64 (40))]⟩), (0, ⟨some 31, none, .bld [.i .i64 (0), .i .i64 (0)] [(0, 1, (.t 27)), (1, 1, (.t 30))]⟩), (2, ⟨some 10, none, .alloc [.i .i64 (0), .i .i64 (0)]⟩), (1, ⟨none, none, .st 2 (.t 10) (.t 31)⟩)] 8 [2, 7, 8, 9, 10]) (.seq (.reg [⟨some 33, none, .ld (some 2) (.t 9)⟩, ⟨some 34, none, .mov (.t 8)⟩, ⟨some 35, none, .ld (some 2) (.t 10)⟩, ⟨some 36, none, .calv (.c (.fn (.func f4) [] [])) [.t 33, .t 34, .t 35]⟩, ⟨some 32, none, .mov (.t 36)⟩, ⟨some 37, none, .ext (.t 32) 0⟩, ⟨some 38, none, .ext (.t 32) 1⟩, ⟨some 11, none, .mov (.t 37)⟩, ⟨some 12, none, .mov (.t 38)⟩] [2, 7, 8, 9, 10, 11, 12]) (.seq (.reg [⟨some 39, none, .mov (.t 8)⟩, ⟨some 40, none, .len false (.t 39)⟩, ⟨some 41, none, .mov (.t 2)⟩, ⟨some 42, none, .calv (.c (.fn (.func f5) [] [])) [.t 40, .t 41, .c (.i .i64 (6))]⟩, ⟨some 13, none, .mov (.t 42)⟩] [2, 7, 8, 9, 10, 11, 12, 13]) (.seq (.reg [⟨some 43, none, .ld (some 2) (.t 9)⟩, ⟨some 44, none, .mov (.t 8)⟩, ⟨some 45, none, .ld (some 2) (.t 10)⟩, ⟨some 46, none, .mov (.t 13)⟩, ⟨some 47, none, .calv (.c (.fn (.func f6) [] [])) [.t 43, .t 44, .t 45, .t 46]⟩, ⟨some 14, none, .mov (.t 47)⟩] [2, 7, 8, 9, 10, 11, 12, 13, 14]) (.seq (.seq (.reg [⟨some 48, none, .mov (.t 12)⟩, ⟨some 49, none, .bin .eql (.t 48) (.c (.i .i64 (3)))⟩] [2, 7, 8, 9, 10, 11, 12, 13, 14, 49]) (.cond (.t 49) (.seq (.reg [⟨some 50, none, .mov (.t 7)⟩, ⟨some 51, none, .mov (.t 50)⟩, ⟨some 52, some (51, true), .mov (.t 14)⟩, ⟨some 53, some (51, true), .bin .eql (.t 52) (.c (.i .i64 (3)))⟩, ⟨some 54, none, .pick (.t 51) (.t 53) (.c (.b false))⟩, ⟨some 6, none, .mov (.t 54)⟩] [6]) (.ret)) (.skip))) (.seq (.seq (.reg [⟨some 55, none, .mov (.t 7)⟩, ⟨some 56, none, .un .not (.t 55)⟩, ⟨some 57, none, .mov (.t 56)⟩, ⟨some 58, some (57, false), .mov (.t 12)⟩, ⟨some 59, some (57, false), .bin .neq (.t 58) (.c (.i .i64 (0)))⟩, ⟨some 60, none, .pick (.t 57) (.c (.b true)) (.t 59)⟩, ⟨some 61, none, .mov (.t 60)⟩, ⟨some 62, some (61, false), .ld (some 2) (.t 9)⟩, ⟨some 63, some (61, false), .mov (.t 8)⟩, ⟨some 64, some (61, false), .ld (some 2) (.t 10)⟩, ⟨some 65, some (61, false), .mov (.t 11)⟩, ⟨some 66, some (61, false), .calv (.c (.fn (.func f6) [] [])) [.t 62, .t 63, .t 64, .t 65]⟩, ⟨some 67, some (61, false), .bin .neq (.t 66) (.c (.i .i64 (0)))⟩, ⟨some 68, none, .pick (.t 61) (.c (.b true)) (.t 67)⟩, ⟨some 69, none, .mov (.t 68)⟩, ⟨some 70, some (69, false), .mov (.t 14)⟩, ⟨some 71, some (69, false), .bin .eql (.t 70) (.c (.i .i64 (0)))⟩, ⟨some 72, some (69, false), .mov (.t 71)⟩, ⟨some 73, some (72, true), .mov (.t 13)⟩, ⟨some 74, some (72, true), .len false (.t 73)⟩, ⟨some 75, some (72, true), .mov (.t 11)⟩, ⟨some 76, some (72, true), .len false (.t 75)⟩, ⟨some 77, some (72, true), .bin .lss (.t 74) (.t 76)⟩, ⟨some 78, some (69, false), .pick (.t 72) (.t 77) (.c (.b false))⟩, ⟨some 79, none, .pick (.t 69) (.c (.b true)) (.t 78)⟩, ⟨some 80, none, .mov (.t 79)⟩, ⟨some 81, some (80, false), .mov (.t 14)⟩, ⟨some 82, some (80, false), .bin .neq (.t 81) (.c (.i .i64 (0)))⟩, ⟨some 83, some (80, false), .mov (.t 82)⟩, ⟨some 84, some (83, true), .mov (.t 14)⟩, ⟨some 85, some (83, true), .bin .neq (.t 84) (.c (.i .i64 (3)))⟩, ⟨some 86, some (80, false), .pick (.t 83) (.t 85) (.c (.b false))⟩, ⟨some 87, none, .pick (.t 80) (.c (.b true)) (.t 86)⟩] [2, 8, 9, 10, 11, 87]) (.cond (.t 87) (.seq (.reg [⟨some 6, none, .mov (.c (.b false))⟩] [6]) (.ret)) (.skip))) (.seq (.seq (.reg [⟨some 15, none, .mov (.c (.i .i64 (0)))⟩] [2, 8, 9, 10, 11, 15]) (.block 0 (.loop (.seq (.seq (.reg [⟨some 88, none, .mov (.t 15)⟩, ⟨some 89, none, .mov (.t 11)⟩, ⟨some 90, none, .len false (.t 89)⟩, ⟨some 91, none, .bin .lss (.t 88) (.t 90)⟩] [2, 8, 9, 10, 11, 15, 91]) (.cond (.t 91) (.skip) (.exit 0))) (.seq (.block 1 (.seq (.drg [(0, ⟨some 94, none, .mov (.t 11)⟩), (0, ⟨some 95, none, .mov (.t 15)⟩), (0, ⟨some 96, none, .ixs 1 (.t 94) (.t 95)⟩), (0, ⟨some 97, none, .ld none (.t 96)⟩), (0, ⟨some 98, none, .len false (.t 97)⟩), (0, ⟨some 99, none, .bin .sub (.t 98) (.c (.i .i64 (1)))⟩), (0, ⟨some 100, none, .ld (some 2) (.t 9)⟩), (0, ⟨some 101, none, .mov (.t 2)⟩), (0, ⟨some 102, none, .mov (.t 15)⟩), (0, ⟨some 103, none, .calv (.c (.fn (.func f7) [] [])) [.t 101, .t 102]⟩), (0, ⟨some 104, none, .calv (.c (.fn (.func f8) [] [])) [.t 100, .t 103]⟩), (0, ⟨some 105, none, .bin .mul (.t 99) (.t 104)⟩), (0, ⟨some 16, none, .mov (.t 105)⟩)] 11 [2, 8, 9, 10, 11, 15, 16]) (.seq (.seq (.reg [⟨some 17, none, .mov (.c (.i .i64 (0)))⟩] [2, 8, 9, 10, 11, 15, 16, 17]) (.block 2 (.loop (.seq (.seq (.reg [⟨some 106, none, .mov (.t 17)⟩, ⟨some 107, none, .mov (.t 11)⟩, ⟨some 108, none, .mov (.t 15)⟩, ⟨some 109, none, .ixs 1 (.t 107) (.t 108)⟩, ⟨some 110, none, .ld none (.t 109)⟩, ⟨some 111, none, .len false (.t 110)⟩, ⟨some 112, none, .bin .lss (.t 106) (.t 111)⟩] [2, 8, 9, 10, 11, 15, 16, 17, 112]) (.cond (.t 112) (.skip) (.exit 2))) (.seq (.block 3 (.seq (.seq (.reg [⟨some 115, none, .mov (.t 11)⟩, ⟨some 116, none, .mov (.t 15)⟩, ⟨some 117, none, .ixs 1 (.t 115) (.t 116)⟩, ⟨some 118, none, .ld none (.t 117)⟩, ⟨some 119, none, .mov (.t 17)⟩, ⟨some 120, none, .ixs 1 (.t 118) (.t 119)⟩, ⟨some 121, none, .ld none (.t 120)⟩, ⟨some 122, none, .bin .lss (.t 121) (.c (.i .i64 (0)))⟩, ⟨some 123, none, .mov (.t 122)⟩, ⟨some 124, some (123, false), .mov (.t 11)⟩, ⟨some 125, some (123, false), .mov (.t 15)⟩, ⟨some 126, some (123, false), .ixs 1 (.t 124) (.t 125)⟩, ⟨some 127, some (123, false), .ld none (.t 126)⟩, ⟨some 128, some (123, false), .mov (.t 17)⟩, ⟨some 129, some (123, false), .ixs 1 (.t 127) (.t 128)⟩, ⟨some 130, some (123, false), .ld none (.t 129)⟩, ⟨some 131, some (123, false), .mov (.t 8)⟩, ⟨some 132, some (123, false), .len false (.t 131)⟩, ⟨some 133, some (123, false), .bin .geq (.t 130) (.t 132)⟩, ⟨some 134, none, .pick (.t 123) (.c (.b true)) (.t 133)⟩] [2, 8, 9, 10, 11, 15, 16, 17, 134]) (.cond (.t 134) (.seq (.reg [⟨some 6, none, .mov (.c (.b false))⟩] [6]) (.ret)) (.skip))) (.drg [(0, ⟨some 135, none, .mov (.t 16)⟩), (0, ⟨some 136, none, .mov (.t 8)⟩), (0, ⟨some 137, none, .mov (.t 11)⟩), (0, ⟨some 138, none, .mov (.t 15)⟩), (0, ⟨some 139, none, .ixs 1 (.t 137) (.t 138)⟩), (0, ⟨some 140, none, .ld none (.t 139)⟩), (0, ⟨some 141, none, .mov (.t 17)⟩), (0, ⟨some 142, none, .ixs 1 (.t 140) (.t 141)⟩), (0, ⟨some 143, none, .ld none (.t 142)⟩), (0, ⟨some 144, none, .ixs 8 (.t 136) (.t 143)⟩), (0, ⟨some 145, none, .fad 5 (.t 144)⟩), (0, ⟨some 146, none, .ld (some 2) (.t 145)⟩), (0, ⟨some 147, none, .mov (.t 2)⟩), (0, ⟨some 148, none, .mov (.t 17)⟩), (0, ⟨some 149, none, .bin .add (.t 148) (.c (.i .i64 (1)))⟩), (0, ⟨some 150, none, .calv (.c (.fn (.func f7) [] [])) [.t 147, .t 149]⟩), (0, ⟨some 151, none, .calv (.c (.fn (.func f8) [] [])) [.t 146, .t 150]⟩), (0, ⟨some 152, none, .bin .add (.t 135) (.t 151)⟩), (0, ⟨some 16, none, .mov (.t 152)⟩)] 17 [2, 8, 9, 10, 11, 15, 16, 17]))) (.reg [⟨some 113, none, .mov (.t 17)⟩, ⟨some 114, none, .bin .add (.t 113) (.c (.i .i64 (1)))⟩, ⟨some 17, none, .mov (.t 114)⟩] [2, 8, 9, 10, 11, 15, 16, 17])))))) (.seq (.reg [⟨some 153, none, .mov (.t 16)⟩, ⟨some 154, none, .fad 0 (.t 10)⟩, ⟨some 155, none, .ld none (.t 154)⟩, ⟨some 156, none, .bin .gtr (.t 153) (.t 155)⟩] [2, 8, 9, 10, 11, 15, 156]) (.cond (.t 156) (.seq (.reg [⟨some 6, none, .mov (.c (.b false))⟩] [6]) (.ret)) (.skip)))))) (.reg [⟨some 92, none, .mov (.t 15)⟩, ⟨some 93, none, .bin .add (.t 92) (.c (.i .i64 (1)))⟩, ⟨some 15, none, .mov (.t 93)⟩] [2, 8, 9, 10, 11, 15])))))) (.seq (.reg [⟨some 6, none, .mov (.c (.b true))⟩] [6]) (.ret))))))))))))
abbrev Low_potbanklaw03_BungCounted (P : Program) (f f0 f1 f2 f3 f4 f5 f6 f7 f8 : Nat) : Prop := lowF P f = some (157, [.tmp 6], (ic_potbanklaw03_BungCounted f0 f1 f2 f3 f4 f5 f6 f7 f8).erase)

def pkS (picks : List Int) (i many : Nat) : Nat := if picks.length = 0 then 0 else (((picks[i % picks.length]?).getD 0) % ((min (many + 1) 6 : Nat) : Int)).toNat
def chosP (picks : List Int) : Nat → List (List Int)
  | 0 => []
  | i + 1 => addS (chosP picks i) (pkS picks i (chosP picks i).length) i
theorem pkS_lt (picks : List Int) (i many : Nat) : pkS picks i many ≤ many ∧ pkS picks i many < 6 := by
  unfold pkS
  split
  · omega
  · have := mod_pos (n := (picks[i % picks.length]?).getD 0) (m := ((min (many + 1) 6 : Nat) : Int)) (by omega)
    omega
theorem chosP_ok (picks : List Int) : ∀ n, PartK n (chosP picks n) ∧ (chosP picks n).flatten.length = n
  | 0 => ⟨.nil _, rfl⟩
  | n + 1 => by
    obtain ⟨h1, h2⟩ := chosP_ok picks n
    exact ⟨partK_add h1 (pkS_lt _ _ _).1, flat_add h2⟩
theorem chosP_len (picks : List Int) (n : Nat) : (chosP picks n).length ≤ n ∧ ∀ b ∈ chosP picks n, b ≠ [] ∧ b.length ≤ n := by
  obtain ⟨h1, h2⟩ := chosP_ok picks n
  exact ⟨by have := flatten_ge h1.ne; omega, fun b hb => ⟨h1.ne b hb, by have := mem_flat_len hb; omega⟩⟩
def C_Parts (P : Program) (f : Nat) : Prop := ∀ (n : Nat) (picks : List Int), n ≤ 6 → picks.length ≤ 1000000000000000 → Snd P f [.i .i64 n, .fsl (picks.map intC), .i .i64 6] [] (.fsl ((chosP picks n).map rowC)) []
theorem ok_Parts (hm : P.follows .mixedOrders = true) {f f0 f1 : Nat} (low : Low_potbankref03_Parts P f f0 f1) (h0 : C_Mod P f0) (h1 : C_given P f1) : C_Parts P f := by
  intro n picks hn hpl
  refine snd_ic hm low (by simp) ?_
  unfold ic_potbankref03_Parts
  simp -dsimp -implicitDefEqProofs only [qq, Nat.reduceBEq, reduceIte, Nat.reduceAdd, Nat.reduceSub, Nat.reduceLeDiff, Nat.reduceLT, Nat.reduceMul, Nat.reduceEqDiff, Int.reduceEq, Int.reduceBEq, Int.reduceBNe, Int.reduceLT, Int.reduceLE, Int.reduceGT, Int.reduceGE, Int.reduceNeg, Int.reduceAdd, Int.reduceSub, reduceCtorEq, List.reduceReplicate, ← List.map_take, ← List.map_drop]
  refine loopI_st (fun i : Nat => n - i) (fun i E H => i ≤ n ∧ ∃ v, E = [(0, .i .i64 n), (1, .fsl (picks.map intC)), (2, .i .i64 6), (7, v), (8, .i .i64 i)] ∧ ((i = 0 ∧ v = .nsl) ∨ v = .fsl ((chosP picks i).map rowC))) 0 ⟨by omega, _, rfl, .inl ⟨rfl, rfl⟩⟩ ?_
  rintro i _ H ⟨hi, v, rfl, hv⟩
  have hend : Frz 0 H v (.fsl ((chosP picks i).map rowC)) := by
    rcases hv with ⟨rfl, rfl⟩ | rfl
    · exact .nil
    · exact .keep _ (by simp only [V.bel])
  rcases Nat.lt_or_ge i n with hin | hin
  · have hc : decide ((i : Int) < (n : Int)) = true := decide_eq_true (by omega)
    have hwi : IntKind.i64.wrap ((i : Int) + 1) = ((i + 1 : Nat) : Int) := wrap_succ (by omega)
    obtain ⟨hcl, hcb⟩ := chosP_len picks i
    have hk := pkS_lt picks i (chosP picks i).length
    have h1' := h1 (chosP picks i) (pkS picks i (chosP picks i).length) i hk.1 (by omega) (fun b hb => ⟨(hcb b hb).1, by have := (hcb b hb).2; omega⟩)
    rcases Nat.eq_zero_or_pos picks.length with hp | hp
    · have q : decide ((picks.length : Int) > 0) = false := decide_eq_false (by omega)
      have hk0 : pkS picks i (chosP picks i).length = 0 := if_pos hp
      rw [hk0] at h1'
      rcases hv with ⟨rfl, rfl⟩ | rfl
      · simp -dsimp -implicitDefEqProofs only [hc, q, qq, Nat.reduceBEq, reduceIte, Nat.reduceAdd, Nat.reduceSub, Nat.reduceLeDiff, Nat.reduceLT, Nat.reduceMul, Nat.reduceEqDiff, Int.reduceEq, Int.reduceBEq, Int.reduceBNe, Int.reduceLT, Int.reduceLE, Int.reduceGT, Int.reduceGE, Int.reduceNeg, Int.reduceAdd, Int.reduceSub, reduceCtorEq, List.reduceReplicate, ← List.map_take, ← List.map_drop]
        refine callI_give (fun _ => false) (.cons .nil (.same _)) ?_
        rw [killB_no]
        refine callI_pure h1' rfl rfl ?_
        simp -dsimp -implicitDefEqProofs only [hwi, qq, Nat.reduceBEq, reduceIte, Nat.reduceAdd, Nat.reduceSub, Nat.reduceLeDiff, Nat.reduceLT, Nat.reduceMul, Nat.reduceEqDiff, Int.reduceEq, Int.reduceBEq, Int.reduceBNe, Int.reduceLT, Int.reduceLE, Int.reduceGT, Int.reduceGE, Int.reduceNeg, Int.reduceAdd, Int.reduceSub, reduceCtorEq, List.reduceReplicate, ← List.map_take, ← List.map_drop]
        exact ⟨1, by omega, by omega, _, rfl, .inr (by show _ = V.fsl ((addS (chosP picks 0) (pkS picks 0 (chosP picks 0).length) ((0 : Nat) : Int)).map rowC); rw [hk0])⟩
      · simp -dsimp -implicitDefEqProofs only [hc, q, qq, Nat.reduceBEq, reduceIte, Nat.reduceAdd, Nat.reduceSub, Nat.reduceLeDiff, Nat.reduceLT, Nat.reduceMul, Nat.reduceEqDiff, Int.reduceEq, Int.reduceBEq, Int.reduceBNe, Int.reduceLT, Int.reduceLE, Int.reduceGT, Int.reduceGE, Int.reduceNeg, Int.reduceAdd, Int.reduceSub, reduceCtorEq, List.reduceReplicate, ← List.map_take, ← List.map_drop]
        refine callI_pure h1' rfl rfl ?_
        simp -dsimp -implicitDefEqProofs only [hwi, qq, Nat.reduceBEq, reduceIte, Nat.reduceAdd, Nat.reduceSub, Nat.reduceLeDiff, Nat.reduceLT, Nat.reduceMul, Nat.reduceEqDiff, Int.reduceEq, Int.reduceBEq, Int.reduceBNe, Int.reduceLT, Int.reduceLE, Int.reduceGT, Int.reduceGE, Int.reduceNeg, Int.reduceAdd, Int.reduceSub, reduceCtorEq, List.reduceReplicate, ← List.map_take, ← List.map_drop]
        exact ⟨i + 1, by omega, by omega, _, rfl, .inr (by rw [chosP, hk0])⟩
    · have q : decide ((picks.length : Int) > 0) = true := decide_eq_true (by omega)
      have hz : ∀ x : V, (if (picks.length : Int) = 0 then none else some x) = some x := fun x => if_neg (by omega)
      have ht : (i : Int).tmod (picks.length : Int) = ((i % picks.length : Nat) : Int) := by rw [Int.tmod_eq_emod_of_nonneg (by omega)]; simp
      obtain ⟨x, hx, _, _, _⟩ := next_of (Nat.mod_lt i hp)
      have hwl : IntKind.i64.wrap (((chosP picks i).length : Int) + 1) = (((chosP picks i).length + 1 : Nat) : Int) := wrap_succ (by omega)
      have hmin : min (((chosP picks i).length + 1 : Nat) : Int) 6 = ((min ((chosP picks i).length + 1) 6 : Nat) : Int) := by omega
      have hpos := mod_pos (n := x) (m := ((min ((chosP picks i).length + 1) 6 : Nat) : Int)) (by omega)
      have hkx : x % ((min ((chosP picks i).length + 1) 6 : Nat) : Int) = (pkS picks i (chosP picks i).length : Int) := by
        rw [pkS, if_neg (by omega), hx]; simp only [Option.getD_some]; omega
      have h0' := h0 x ((min ((chosP picks i).length + 1) 6 : Nat) : Int) (by omega) (by omega)
      rw [hkx] at h0'
      rcases hv with ⟨rfl, rfl⟩ | rfl
      · have hw1 : IntKind.i64.wrap 1 = 1 := by decide
        have hmin0 : min (1 : Int) 6 = ((min ((chosP picks 0).length + 1) 6 : Nat) : Int) := rfl
        simp -dsimp -implicitDefEqProofs only [hc, q, hz, ht, hx, intC, hw1, hmin0, qq, Nat.reduceBEq, reduceIte, Nat.reduceAdd, Nat.reduceSub, Nat.reduceLeDiff, Nat.reduceLT, Nat.reduceMul, Nat.reduceEqDiff, Int.reduceEq, Int.reduceBEq, Int.reduceBNe, Int.reduceLT, Int.reduceLE, Int.reduceGT, Int.reduceGE, Int.reduceNeg, Int.reduceAdd, Int.reduceSub, reduceCtorEq, List.reduceReplicate, ← List.map_take, ← List.map_drop]
        refine callI_pure h0' rfl rfl ?_
        simp -dsimp -implicitDefEqProofs only [qq, Nat.reduceBEq, reduceIte, Nat.reduceAdd, Nat.reduceSub, Nat.reduceLeDiff, Nat.reduceLT, Nat.reduceMul, Nat.reduceEqDiff, Int.reduceEq, Int.reduceBEq, Int.reduceBNe, Int.reduceLT, Int.reduceLE, Int.reduceGT, Int.reduceGE, Int.reduceNeg, Int.reduceAdd, Int.reduceSub, reduceCtorEq, List.reduceReplicate, ← List.map_take, ← List.map_drop]
        refine callI_give (fun _ => false) (.cons .nil (.same _)) ?_
        rw [killB_no]
        refine callI_pure h1' rfl rfl ?_
        simp -dsimp -implicitDefEqProofs only [hwi, qq, Nat.reduceBEq, reduceIte, Nat.reduceAdd, Nat.reduceSub, Nat.reduceLeDiff, Nat.reduceLT, Nat.reduceMul, Nat.reduceEqDiff, Int.reduceEq, Int.reduceBEq, Int.reduceBNe, Int.reduceLT, Int.reduceLE, Int.reduceGT, Int.reduceGE, Int.reduceNeg, Int.reduceAdd, Int.reduceSub, reduceCtorEq, List.reduceReplicate, ← List.map_take, ← List.map_drop]
        exact ⟨1, by omega, by omega, _, rfl, .inr (by rw [chosP]; rfl)⟩
      · simp -dsimp -implicitDefEqProofs only [hc, q, hz, ht, hx, intC, hwl, hmin, qq, Nat.reduceBEq, reduceIte, Nat.reduceAdd, Nat.reduceSub, Nat.reduceLeDiff, Nat.reduceLT, Nat.reduceMul, Nat.reduceEqDiff, Int.reduceEq, Int.reduceBEq, Int.reduceBNe, Int.reduceLT, Int.reduceLE, Int.reduceGT, Int.reduceGE, Int.reduceNeg, Int.reduceAdd, Int.reduceSub, reduceCtorEq, List.reduceReplicate, ← List.map_take, ← List.map_drop]
        refine callI_pure h0' rfl rfl ?_
        simp -dsimp -implicitDefEqProofs only [qq, Nat.reduceBEq, reduceIte, Nat.reduceAdd, Nat.reduceSub, Nat.reduceLeDiff, Nat.reduceLT, Nat.reduceMul, Nat.reduceEqDiff, Int.reduceEq, Int.reduceBEq, Int.reduceBNe, Int.reduceLT, Int.reduceLE, Int.reduceGT, Int.reduceGE, Int.reduceNeg, Int.reduceAdd, Int.reduceSub, reduceCtorEq, List.reduceReplicate, ← List.map_take, ← List.map_drop]
        refine callI_pure h1' rfl rfl ?_
        simp -dsimp -implicitDefEqProofs only [hwi, qq, Nat.reduceBEq, reduceIte, Nat.reduceAdd, Nat.reduceSub, Nat.reduceLeDiff, Nat.reduceLT, Nat.reduceMul, Nat.reduceEqDiff, Int.reduceEq, Int.reduceBEq, Int.reduceBNe, Int.reduceLT, Int.reduceLE, Int.reduceGT, Int.reduceGE, Int.reduceNeg, Int.reduceAdd, Int.reduceSub, reduceCtorEq, List.reduceReplicate, ← List.map_take, ← List.map_drop]
        exact ⟨i + 1, by omega, by omega, _, rfl, .inr (by rw [chosP])⟩
  · obtain rfl : i = n := by omega
    have hc : decide ((i : Int) < (i : Int)) = false := by simp
    simp -dsimp -implicitDefEqProofs only [hc, qq, Nat.reduceBEq, reduceIte, Nat.reduceAdd, Nat.reduceSub, Nat.reduceLeDiff, Nat.reduceLT, Nat.reduceMul, Nat.reduceEqDiff, Int.reduceEq, Int.reduceBEq, Int.reduceBNe, Int.reduceLT, Int.reduceLE, Int.reduceGT, Int.reduceGE, Int.reduceNeg, Int.reduceAdd, Int.reduceSub, reduceCtorEq, List.reduceReplicate, ← List.map_take, ← List.map_drop]
    exact Ends.ret rfl hend

theorem hOf_cons (s : Sag) (l : List Sag) : hOf (s :: l) = ⟨s.h.lo + (hOf l).lo, s.h.hi + (hOf l).hi⟩ := by simp [hOf, sumR]
theorem hOf_perm {a b : List Sag} (h : a.Perm b) : hOf a = hOf b := by
  induction h with
  | nil => rfl
  | cons x _ ih => rw [hOf_cons, hOf_cons, ih]
  | swap x y l => simp only [hOf_cons]; congr 1 <;> omega
  | trans _ _ h1 h2 => exact h1.trans h2
theorem do_height {w : Rg} {l : List Sag} {s : Spt} {b : List Int} (hw : rgB w 0 200 = true) (hv : listB l = true) (hb : okIx l.length b) (hn : b.Nodup) (hne : b ≠ []) (h : doS w l s b = true) : ((b.length : Int) - 1) * w.hi + (hOf (pickS l b)).hi ≤ s.crown := by
  have hro := ruleS_ok (l := l) hb
  have hlen : (pickS l (ruleS l b)).length = b.length := by rw [pickS_len hro, ruleS_length]
  have hpos : 0 < b.length := List.length_pos_iff.2 hne
  have h1 := (fitsS_one hw (listB_pick hv hro (ruleS_nodup hn)) (by omega)).1 (by simpa [doS] using h)
  have h2 := h1.1
  rw [heightS_eq w (by omega), hlen, hOf_perm (show (pickS l (ruleS l b)).Perm (pickS l b) from (ruleS_perm l b).filterMap _)] at h2
  exact h2
theorem counted_plain {w : Rg} {l : List Sag} {s : Spt} (hw : rgB w 0 200 = true) (hv : listB l = true) (ha : askedE w l s = 0) (h6 : l.length ≤ 6) {other : List (List Int)} (ho : partsP l.length other) :
    (fewE w l s = 3 ∧ cbE w l s other = 3) ∨ (fewE w l s = 0 ∧ cbE w l s (fewR w l s) = 0 ∧ (cbE w l s other = 3 ∨ cbE w l s other = 0 ∧ (fewR w l s).length ≤ other.length) ∧ (fewR w l s).length ≤ 6 ∧ ∀ b ∈ fewR w l s, okIx l.length b ∧ b.Nodup ∧ b ≠ [] ∧ b.length ≤ 6 ∧ doS w l s b = true) := by
  have hcb : ∀ bs, partsP l.length bs → cbE w l s bs = if bs.all (doS w l s) then 0 else 3 := fun bs hp => by
    rw [cbE, if_neg (by omega), show partsB l.length bs = true from decide_eq_true hp]; rfl
  rcases Nat.eq_zero_or_pos l.length with h0 | h0
  · right
    have hf : fewE w l s = 0 := by rw [fewE, if_neg (by omega), if_neg (by omega), if_pos h0]
    have hr : fewR w l s = [] := by rw [fewR, if_pos ⟨ha, by omega⟩, h0]; rfl
    have hnil : partsP l.length [] := ⟨.nil _, by simp [h0]⟩
    have hon : other = [] := by
      have := flatten_ge ho.1.ne
      have h2 := ho.2
      exact List.length_eq_zero_iff.1 (by omega)
    rw [hr, hon, hcb [] hnil]
    exact ⟨hf, rfl, .inr ⟨rfl, by simp⟩, by simp, by simp⟩
  · have hsp := fewS_spec (d := doS w l s) (n := l.length) (fun b x hi hn hb h => doS_sub hw hv hi hn hb h) h0
    have hfe : fewE w l s = if (fewS (doS w l s) l.length).isSome then 0 else 3 := by rw [fewE, if_neg (by omega), if_neg (by omega), if_neg (by omega)]
    have hfr : fewR w l s = (fewS (doS w l s) l.length).getD [] := by rw [fewR, if_pos ⟨ha, by omega⟩]
    cases hf : fewS (doS w l s) l.length with
    | none =>
      rw [hf] at hsp
      left
      refine ⟨by rw [hfe, hf]; rfl, ?_⟩
      rw [hcb other ho, if_neg (fun h => hsp other ho h)]
    | some p =>
      rw [hf] at hsp
      obtain ⟨h1, h2, h3⟩ := hsp
      right
      rw [hfr, hf]
      simp only [Option.getD_some]
      refine ⟨by rw [hfe, hf]; rfl, by rw [hcb p h1, if_pos h2], ?_, by have := flatten_ge h1.1.ne; have := h1.2; omega, fun b hb => ⟨fun i hi => h1.1.okIx i (List.mem_flatten.2 ⟨b, hb, hi⟩), (h1.1.up b hb).imp (fun hab => by omega), h1.1.ne b hb, by have := mem_flat_len hb; have := h1.2; omega, List.all_eq_true.1 h2 b hb⟩⟩
      rw [hcb other ho]
      by_cases h : other.all (doS w l s) = true
      · rw [if_pos h]; exact .inr ⟨rfl, h3 other ho h⟩
      · rw [if_neg h]; exact .inl rfl

/-- The heights that numbers choose. -/
def hwF (picks : List Int) : Nat → List Sag → List Int
  | _, [] => []
  | k, s :: l => oneS s.h (atS picks k) :: hwF picks (k + 1) l
theorem hwF_snoc (picks : List Int) (x : Sag) : ∀ (k : Nat) (l : List Sag), hwF picks k (l ++ [x]) = hwF picks k l ++ [oneS x.h (atS picks (k + l.length))]
  | k, [] => rfl
  | k, s :: l => by rw [List.cons_append, hwF, hwF, hwF_snoc picks x (k + 1) l, List.cons_append, List.length_cons, show k + 1 + l.length = k + (l.length + 1) by omega]
theorem hwF_sum (picks : List Int) : ∀ (k : Nat) (l : List Sag), (∀ s ∈ l, sagB s = true) → 0 ≤ (hwF picks k l).sum ∧ (hwF picks k l).sum ≤ (hOf l).hi ∧ (hwF picks k l).sum ≤ l.length * 10000
  | _, [], _ => by simp [hwF, hOf, sumR]
  | k, s :: l, h => by
    have ih := hwF_sum picks (k + 1) l fun x hx => h x (by simp [hx])
    have hs := h s (by simp)
    simp [sagB, rgB, inR] at hs
    have h1 := oneS_in (r := s.h) (atS picks k) (by omega)
    rw [hwF, List.sum_cons, hOf_cons, List.length_cons]
    simp only
    omega
def L_BungCounted (P : Program) (f : Nat) : Prop := ∀ (l : List Raw) (order : List Int) (a b c d : Int) (picks : List Int), picks.length ≤ 1000000000000000 → Snd P f [.agg (kilnC l order a b), .agg [.i .i64 c, .i .i64 d], .fsl (picks.map intC)] [] (.b true) []
set_option maxHeartbeats 8000000 in
theorem ok_BungCounted (hm : P.follows .mixedOrders = true) {f f0 f1 f2 f3 f4 f5 f6 f7 f8 : Nat} (low : Low_potbanklaw03_BungCounted P f f0 f1 f2 f3 f4 f5 f6 f7 f8) (h0 : C_sane P f0) (h1 : C_Made P f1) (h2 : C_Wad P f2) (h3 : C_Mod P f3) (h4 : C_Fewest P f4) (h5 : C_Parts P f5) (h6 : C_CheckBungs P f6) (h7 : C_at P f7) (h8 : C_one P f8) : L_BungCounted P f := by
  intro raws order a b c d picks hpl
  have h1' := h1 raws 6 (by decide)
  have hv := madeS_ok (l := raws.take 6) (by rw [List.length_take]; omega)
  have hlen : (madeS 0 (raws.take 6)).length ≤ 6 := by rw [madeS_length, List.length_take]; omega
  generalize madeS 0 (raws.take 6) = l at *
  have hwad : rgB (wadS a b) 0 200 = true := wadS_ok a b
  have h2' := h2 a b
  generalize wadS a b = w at *
  have m1 := mod_pos (n := c) (m := 1200) (by decide)
  have m2 := mod_pos (n := d) (m := 40) (by decide)
  have h31 := h3 c 1200 (by decide) (by decide)
  have h32 := h3 d 40 (by decide) (by decide)
  obtain ⟨s, hs⟩ : ∃ s : Spt, s = ⟨c % 1200, d % 40⟩ := ⟨_, rfl⟩
  have hsp : spotB s = true := by rw [hs]; simp [spotB, inR]; omega
  have hsc : [V.i .i64 (c % 1200), V.i .i64 (d % 40)] = s.c := by rw [hs]
  have ha : askedE w l s = 0 := by rw [askedE, if_pos hwad, if_pos hv, if_pos hsp]
  have h4' := h4 w l s
  have h5' := h5 l.length picks hlen hpl
  have hpart : partsP l.length (chosP picks l.length) := chosP_ok picks l.length
  have hpl2 := chosP_len picks l.length
  generalize chosP picks l.length = other at *
  have h6' := h6 w l s other (by omega) (fun b hb => by have := (hpl2.2 b hb).2; omega)
  have hcnt := counted_plain hwad hv ha hlen hpart
  have hwr := hwad
  simp [rgB] at hwr
  have hw0 : rgB w 0 10000000 = true := by simp [rgB]; omega
  clear hs
  refine snd_ic hm low (by simp) ?_
  unfold ic_potbanklaw03_BungCounted
  simp -dsimp -implicitDefEqProofs only [qq, Nat.reduceBEq, reduceIte, Nat.reduceAdd, Nat.reduceSub, Nat.reduceLeDiff, Nat.reduceLT, Nat.reduceMul, Nat.reduceEqDiff, Int.reduceEq, Int.reduceBEq, Int.reduceBNe, Int.reduceLT, Int.reduceLE, Int.reduceGT, Int.reduceGE, Int.reduceNeg, Int.reduceAdd, Int.reduceSub, reduceCtorEq, List.reduceReplicate, ← List.map_take, ← List.map_drop]
  refine callI_pure h0 rfl rfl ?_
  simp -dsimp -implicitDefEqProofs only [qq, Nat.reduceBEq, reduceIte, Nat.reduceAdd, Nat.reduceSub, Nat.reduceLeDiff, Nat.reduceLT, Nat.reduceMul, Nat.reduceEqDiff, Int.reduceEq, Int.reduceBEq, Int.reduceBNe, Int.reduceLT, Int.reduceLE, Int.reduceGT, Int.reduceGE, Int.reduceNeg, Int.reduceAdd, Int.reduceSub, reduceCtorEq, List.reduceReplicate, ← List.map_take, ← List.map_drop]
  refine callI_pure h1' rfl rfl ?_
  simp -dsimp -implicitDefEqProofs only [qq, Nat.reduceBEq, reduceIte, Nat.reduceAdd, Nat.reduceSub, Nat.reduceLeDiff, Nat.reduceLT, Nat.reduceMul, Nat.reduceEqDiff, Int.reduceEq, Int.reduceBEq, Int.reduceBNe, Int.reduceLT, Int.reduceLE, Int.reduceGT, Int.reduceGE, Int.reduceNeg, Int.reduceAdd, Int.reduceSub, reduceCtorEq, List.reduceReplicate, ← List.map_take, ← List.map_drop]
  refine callI_pure h2' rfl rfl ?_
  simp -dsimp -implicitDefEqProofs only [tn0, tn1, tw0, tw1, qq, Nat.reduceBEq, reduceIte, Nat.reduceAdd, Nat.reduceSub, Nat.reduceLeDiff, Nat.reduceLT, Nat.reduceMul, Nat.reduceEqDiff, Int.reduceEq, Int.reduceBEq, Int.reduceBNe, Int.reduceLT, Int.reduceLE, Int.reduceGT, Int.reduceGE, Int.reduceNeg, Int.reduceAdd, Int.reduceSub, reduceCtorEq, List.reduceReplicate, ← List.map_take, ← List.map_drop]
  refine callI_pure h31 rfl rfl ?_
  simp -dsimp -implicitDefEqProofs only [tn0, tn1, tw0, tw1, qq, Nat.reduceBEq, reduceIte, Nat.reduceAdd, Nat.reduceSub, Nat.reduceLeDiff, Nat.reduceLT, Nat.reduceMul, Nat.reduceEqDiff, Int.reduceEq, Int.reduceBEq, Int.reduceBNe, Int.reduceLT, Int.reduceLE, Int.reduceGT, Int.reduceGE, Int.reduceNeg, Int.reduceAdd, Int.reduceSub, reduceCtorEq, List.reduceReplicate, ← List.map_take, ← List.map_drop]
  refine callI_pure h32 rfl rfl ?_
  simp -dsimp -implicitDefEqProofs only [hsc, qq, Nat.reduceBEq, reduceIte, Nat.reduceAdd, Nat.reduceSub, Nat.reduceLeDiff, Nat.reduceLT, Nat.reduceMul, Nat.reduceEqDiff, Int.reduceEq, Int.reduceBEq, Int.reduceBNe, Int.reduceLT, Int.reduceLE, Int.reduceGT, Int.reduceGE, Int.reduceNeg, Int.reduceAdd, Int.reduceSub, reduceCtorEq, List.reduceReplicate, ← List.map_take, ← List.map_drop]
  refine callI_pure h4' rfl rfl ?_
  simp -dsimp -implicitDefEqProofs only [qq, Nat.reduceBEq, reduceIte, Nat.reduceAdd, Nat.reduceSub, Nat.reduceLeDiff, Nat.reduceLT, Nat.reduceMul, Nat.reduceEqDiff, Int.reduceEq, Int.reduceBEq, Int.reduceBNe, Int.reduceLT, Int.reduceLE, Int.reduceGT, Int.reduceGE, Int.reduceNeg, Int.reduceAdd, Int.reduceSub, reduceCtorEq, List.reduceReplicate, ← List.map_take, ← List.map_drop]
  refine callI_pure h5' rfl rfl ?_
  simp -dsimp -implicitDefEqProofs only [qq, Nat.reduceBEq, reduceIte, Nat.reduceAdd, Nat.reduceSub, Nat.reduceLeDiff, Nat.reduceLT, Nat.reduceMul, Nat.reduceEqDiff, Int.reduceEq, Int.reduceBEq, Int.reduceBNe, Int.reduceLT, Int.reduceLE, Int.reduceGT, Int.reduceGE, Int.reduceNeg, Int.reduceAdd, Int.reduceSub, reduceCtorEq, List.reduceReplicate, ← List.map_take, ← List.map_drop]
  refine callI_pure h6' rfl rfl ?_
  rcases hcnt with ⟨e1, e2⟩ | ⟨e1, e2, e3, e5, e4⟩
  · rw [e1, e2]
    simp -dsimp -implicitDefEqProofs only [qq, Nat.reduceBEq, reduceIte, Nat.reduceAdd, Nat.reduceSub, Nat.reduceLeDiff, Nat.reduceLT, Nat.reduceMul, Nat.reduceEqDiff, Int.reduceEq, Int.reduceBEq, Int.reduceBNe, Int.reduceLT, Int.reduceLE, Int.reduceGT, Int.reduceGE, Int.reduceNeg, Int.reduceAdd, Int.reduceSub, reduceCtorEq, List.reduceReplicate, ← List.map_take, ← List.map_drop]
    exact Ends.plain rfl rfl rfl
  generalize fewR w l s = p at *
  have h6p := h6 w l s p (by omega) (fun b hb => by have := (e4 b hb).2.2.2.1; omega)
  rw [e2] at h6p
  rw [e1]
  rcases e3 with e3 | ⟨e3, e6⟩
  case' inl =>
    rw [e3]
    simp -dsimp -implicitDefEqProofs only [qq, Nat.reduceBEq, reduceIte, Nat.reduceAdd, Nat.reduceSub, Nat.reduceLeDiff, Nat.reduceLT, Nat.reduceMul, Nat.reduceEqDiff, Int.reduceEq, Int.reduceBEq, Int.reduceBNe, Int.reduceLT, Int.reduceLE, Int.reduceGT, Int.reduceGE, Int.reduceNeg, Int.reduceAdd, Int.reduceSub, reduceCtorEq, List.reduceReplicate, ← List.map_take, ← List.map_drop]
    refine callI_pure h6p rfl rfl ?_
    simp -dsimp -implicitDefEqProofs only [qq, Nat.reduceBEq, reduceIte, Nat.reduceAdd, Nat.reduceSub, Nat.reduceLeDiff, Nat.reduceLT, Nat.reduceMul, Nat.reduceEqDiff, Int.reduceEq, Int.reduceBEq, Int.reduceBNe, Int.reduceLT, Int.reduceLE, Int.reduceGT, Int.reduceGE, Int.reduceNeg, Int.reduceAdd, Int.reduceSub, reduceCtorEq, List.reduceReplicate, ← List.map_take, ← List.map_drop]
  case' inr =>
    rw [e3]
    have q : decide ((other.length : Int) < (p.length : Int)) = false := decide_eq_false (by omega)
    simp -dsimp -implicitDefEqProofs only [qq, Nat.reduceBEq, reduceIte, Nat.reduceAdd, Nat.reduceSub, Nat.reduceLeDiff, Nat.reduceLT, Nat.reduceMul, Nat.reduceEqDiff, Int.reduceEq, Int.reduceBEq, Int.reduceBNe, Int.reduceLT, Int.reduceLE, Int.reduceGT, Int.reduceGE, Int.reduceNeg, Int.reduceAdd, Int.reduceSub, reduceCtorEq, List.reduceReplicate, ← List.map_take, ← List.map_drop]
    refine callI_pure h6p rfl rfl ?_
    simp -dsimp -implicitDefEqProofs only [q, qq, Nat.reduceBEq, reduceIte, Nat.reduceAdd, Nat.reduceSub, Nat.reduceLeDiff, Nat.reduceLT, Nat.reduceMul, Nat.reduceEqDiff, Int.reduceEq, Int.reduceBEq, Int.reduceBNe, Int.reduceLT, Int.reduceLE, Int.reduceGT, Int.reduceGE, Int.reduceNeg, Int.reduceAdd, Int.reduceSub, reduceCtorEq, List.reduceReplicate, ← List.map_take, ← List.map_drop]
  all_goals
    refine loopI_st (fun i : Nat => p.length - i) (fun i E H => i ≤ p.length ∧ E = [(2, .fsl (picks.map intC)), (8, .fsl (l.map Sag.c)), (9, .rpt 2 2 0 0), (10, .rpt 3 2 0 0), (11, .fsl (p.map rowC)), (15, .i .i64 i)] ∧ H[2]? = some (.row 2 [w.c]) ∧ H[3]? = some (.row 2 [s.c])) 0 ⟨by omega, rfl, rfl, rfl⟩ ?_
    rintro i _ H ⟨hi, rfl, hb2, hb3⟩
    rcases Nat.lt_or_ge i p.length with hil | hil
    · have hc : decide ((i : Int) < (p.length : Int)) = true := decide_eq_true (by omega)
      have hwi : IntKind.i64.wrap ((i : Int) + 1) = ((i + 1 : Nat) : Int) := wrap_succ (by omega)
      obtain ⟨b, hb, hbm, _, _⟩ := next_of hil
      obtain ⟨g1, g2, g3, g4, g5⟩ := e4 b hbm
      have hht := do_height hwad hv g1 g2 g3 g5
      have hbp : 0 < b.length := List.length_pos_iff.2 g3
      have h7' := h7 picks i (by omega) hpl
      have h8' := h8 w (atS picks i) hw0
      have r0 := oneS_in (r := w) (atS picks i) (by omega)
      change Snd P f8 [_, _] [] (.i .i64 (oneS w (atS picks i))) [] at h8'
      generalize oneS w (atS picks i) = o at *
      have hx0 : 0 ≤ ((b.length : Int) - 1) * o := Int.mul_nonneg (by omega) (by omega)
      have hx1 : ((b.length : Int) - 1) * o ≤ ((b.length : Int) - 1) * w.hi := Int.mul_le_mul_of_nonneg_left (by omega) (by omega)
      have hx2 : ((b.length : Int) - 1) * w.hi ≤ 5 * 200 := Int.mul_le_mul (by omega) (by omega) (by omega) (by omega)
      have hw1 : IntKind.i64.wrap ((b.length : Int) - 1) = (b.length : Int) - 1 := wrap_id (by omega) (by omega)
      obtain ⟨x, hx⟩ : ∃ x, x = ((b.length : Int) - 1) * o := ⟨_, rfl⟩
      have hw2 : IntKind.i64.wrap (((b.length : Int) - 1) * o) = x := by rw [hx]; exact wrap_id (by omega) (by omega)
      rw [← hx] at hx0 hx1
      simp -dsimp -implicitDefEqProofs only [hc, hb, hw1, hb2, qq, Nat.reduceBEq, reduceIte, Nat.reduceAdd, Nat.reduceSub, Nat.reduceLeDiff, Nat.reduceLT, Nat.reduceMul, Nat.reduceEqDiff, Int.reduceEq, Int.reduceBEq, Int.reduceBNe, Int.reduceLT, Int.reduceLE, Int.reduceGT, Int.reduceGE, Int.reduceNeg, Int.reduceAdd, Int.reduceSub, reduceCtorEq, List.reduceReplicate, ← List.map_take, ← List.map_drop]
      refine callI_pure h7' rfl rfl ?_
      simp -dsimp -implicitDefEqProofs only [qq, Nat.reduceBEq, reduceIte, Nat.reduceAdd, Nat.reduceSub, Nat.reduceLeDiff, Nat.reduceLT, Nat.reduceMul, Nat.reduceEqDiff, Int.reduceEq, Int.reduceBEq, Int.reduceBNe, Int.reduceLT, Int.reduceLE, Int.reduceGT, Int.reduceGE, Int.reduceNeg, Int.reduceAdd, Int.reduceSub, reduceCtorEq, List.reduceReplicate, ← List.map_take, ← List.map_drop]
      refine callI_pure h8' rfl rfl ?_
      simp -dsimp -implicitDefEqProofs only [hw2, qq, Nat.reduceBEq, reduceIte, Nat.reduceAdd, Nat.reduceSub, Nat.reduceLeDiff, Nat.reduceLT, Nat.reduceMul, Nat.reduceEqDiff, Int.reduceEq, Int.reduceBEq, Int.reduceBNe, Int.reduceLT, Int.reduceLE, Int.reduceGT, Int.reduceGE, Int.reduceNeg, Int.reduceAdd, Int.reduceSub, reduceCtorEq, List.reduceReplicate, ← List.map_take, ← List.map_drop]
      refine loopI_st (fun n : Nat => b.length - n) (fun n E H => n ≤ b.length ∧ E = [(2, .fsl (picks.map intC)), (8, .fsl (l.map Sag.c)), (9, .rpt 2 2 0 0), (10, .rpt 3 2 0 0), (11, .fsl (p.map rowC)), (15, .i .i64 i), (16, .i .i64 (x + (hwF picks 1 (pickS l (b.take n))).sum)), (17, .i .i64 n)] ∧ H[2]? = some (.row 2 [w.c]) ∧ H[3]? = some (.row 2 [s.c])) 0 ⟨by omega, by simp [pickS, hwF], hb2, hb3⟩ ?_
      rintro n _ H2 ⟨hn, rfl, hb2', hb3'⟩
      rcases Nat.lt_or_ge n b.length with hnl | hnl
      · have hc2 : decide ((n : Int) < (b.length : Int)) = true := decide_eq_true (by omega)
        have hwn : IntKind.i64.wrap ((n : Int) + 1) = ((n + 1 : Nat) : Int) := wrap_succ (by omega)
        obtain ⟨y, hy, hym, htk, _⟩ := next_of hnl
        have hyb := g1 y hym
        obtain ⟨z, hz, hzm, _, _⟩ := next_of (show y.toNat < l.length by omega)
        have hrow : rowAt (l.map Sag.c) y = some z.c := rowAt_int hyb.1 hz
        have hzs := sag_w hv hzm
        simp [sagB, rgB, inR] at hzs
        have h7n := h7 picks (n + 1) (by omega) hpl
        have h8n := h8 z.h (atS picks (n + 1)) (by simp [rgB]; omega)
        change Snd P f8 [_, _] [] (.i .i64 (oneS z.h (atS picks (n + 1)))) [] at h8n
        have q1 : decide (y < 0) = false := decide_eq_false (by omega)
        have q2 : decide (y ≥ (l.length : Int)) = false := decide_eq_false (by omega)
        have htn : okIx l.length (b.take n) := fun i hi => g1 i (List.mem_of_mem_take hi)
        have hpn : (pickS l (b.take n)).length = n := by rw [pickS_len htn, List.length_take]; omega
        have hsn : (hwF picks 1 (pickS l (b.take (n + 1)))).sum = (hwF picks 1 (pickS l (b.take n))).sum + oneS z.h (atS picks (n + 1)) := by
          rw [htk, pickS_snoc hz, hwF_snoc, List.sum_append, hpn, Nat.add_comm 1 n]; simp
        have hbd := hwF_sum picks 1 (pickS l (b.take (n + 1))) (fun s hs => sag_w hv (pickS_mem hs))
        have hbl : (pickS l (b.take (n + 1))).length ≤ 6 := by have := pickS_length l (b.take (n + 1)); rw [List.length_take] at this; omega
        have hwx : IntKind.i64.wrap (x + (hwF picks 1 (pickS l (b.take n))).sum + oneS z.h (atS picks (n + 1))) = x + (hwF picks 1 (pickS l (b.take (n + 1)))).sum := by rw [hsn] at hbd ⊢; rw [wrap_id (by omega) (by omega)]; omega
        simp -dsimp -implicitDefEqProofs only [hc2, hb, hy, q1, q2, hrow, hwn, intC, Sag.c, qq, Nat.reduceBEq, reduceIte, Nat.reduceAdd, Nat.reduceSub, Nat.reduceLeDiff, Nat.reduceLT, Nat.reduceMul, Nat.reduceEqDiff, Int.reduceEq, Int.reduceBEq, Int.reduceBNe, Int.reduceLT, Int.reduceLE, Int.reduceGT, Int.reduceGE, Int.reduceNeg, Int.reduceAdd, Int.reduceSub, reduceCtorEq, List.reduceReplicate, ← List.map_take, ← List.map_drop]
        refine callI_pure h7n rfl rfl ?_
        simp -dsimp -implicitDefEqProofs only [qq, Nat.reduceBEq, reduceIte, Nat.reduceAdd, Nat.reduceSub, Nat.reduceLeDiff, Nat.reduceLT, Nat.reduceMul, Nat.reduceEqDiff, Int.reduceEq, Int.reduceBEq, Int.reduceBNe, Int.reduceLT, Int.reduceLE, Int.reduceGT, Int.reduceGE, Int.reduceNeg, Int.reduceAdd, Int.reduceSub, reduceCtorEq, List.reduceReplicate, ← List.map_take, ← List.map_drop]
        refine callI_pure h8n rfl rfl ?_
        simp -dsimp -implicitDefEqProofs only [hwx, hwn, qq, Nat.reduceBEq, reduceIte, Nat.reduceAdd, Nat.reduceSub, Nat.reduceLeDiff, Nat.reduceLT, Nat.reduceMul, Nat.reduceEqDiff, Int.reduceEq, Int.reduceBEq, Int.reduceBNe, Int.reduceLT, Int.reduceLE, Int.reduceGT, Int.reduceGE, Int.reduceNeg, Int.reduceAdd, Int.reduceSub, reduceCtorEq, List.reduceReplicate, ← List.map_take, ← List.map_drop]
        exact ⟨n + 1, by omega, by omega, rfl, hb2', hb3'⟩
      · obtain rfl : n = b.length := by omega
        have hc2 : decide ((b.length : Int) < (b.length : Int)) = false := by simp
        have hbd := hwF_sum picks 1 (pickS l b) (fun s hs => sag_w hv (pickS_mem hs))
        rw [List.take_of_length_le (Nat.le_refl _)]
        have q3 : decide (x + (hwF picks 1 (pickS l b)).sum > s.crown) = false := decide_eq_false (by omega)
        simp -dsimp -implicitDefEqProofs only [hc2, hb, hb3', q3, hwi, qq, Nat.reduceBEq, reduceIte, Nat.reduceAdd, Nat.reduceSub, Nat.reduceLeDiff, Nat.reduceLT, Nat.reduceMul, Nat.reduceEqDiff, Int.reduceEq, Int.reduceBEq, Int.reduceBNe, Int.reduceLT, Int.reduceLE, Int.reduceGT, Int.reduceGE, Int.reduceNeg, Int.reduceAdd, Int.reduceSub, reduceCtorEq, List.reduceReplicate, ← List.map_take, ← List.map_drop]
        exact ⟨i + 1, by omega, by omega, rfl, hb2'⟩
    · obtain rfl : i = p.length := by omega
      have hc : decide ((p.length : Int) < (p.length : Int)) = false := by simp
      simp -dsimp -implicitDefEqProofs only [hc, qq, Nat.reduceBEq, reduceIte, Nat.reduceAdd, Nat.reduceSub, Nat.reduceLeDiff, Nat.reduceLT, Nat.reduceMul, Nat.reduceEqDiff, Int.reduceEq, Int.reduceBEq, Int.reduceBNe, Int.reduceLT, Int.reduceLE, Int.reduceGT, Int.reduceGE, Int.reduceNeg, Int.reduceAdd, Int.reduceSub, reduceCtorEq, List.reduceReplicate, ← List.map_take, ← List.map_drop]
      exact Ends.plain rfl rfl rfl
end Go.Sh.C3
end
section
namespace Go.Sh
open Go.Proofs Go.Sort Go.Shelf Go.RowKit Go.Lib
variable {P : Program} {ρ : Ren}
theorem sortsI_of (L : SlLaysF.n6 P ρ) (hf : isFn P (ρ.f 6)) : SortsI P (ρ.f 6) :=
  ⟨hf, fun p cap fv w => AnyF.slices_SortFunc_none { L with } p cap fv w, fun enc h1 cf hO g cb blk off cap d w eg hcmp hH hblk hsz hT => Any.slices_SortFunc_total L enc h1 cf hO g cb blk off cap d w eg hcmp hH hblk hsz hT⟩
end Go.Sh
end
section
namespace Go.Proofs
open Go.Shelf
def Try.sortInt_ren : Go.Shelf.Ren := ⟨fun | 6 => 133 | 15 => 148 | 14 => 147 | 28 => 158 | 29 => 159 | 20 => 150 | 21 => 151 | 22 => 152 | 23 => 153 | 24 => 154 | 25 => 155 | 26 => 156 | 27 => 157 | 46 => 160 | 47 => 161 | 48 => 162 | 49 => 163 | 50 => 164 | 57 => 165 | n => n, fun | 22 => 38 | 24 => 3 | 25 => 49 | 3 => 3 | 39 => 172 | 0 => 0 | 53 => 183 | 55 => 185 | 4 => 4 | 46 => 176 | 45 => 175 | 50 => 180 | 5 => 5 | 9 => 9 | 66 => 186 | 70 => 190 | 76 => 192 | 77 => 193 | n => n, fun | n => n⟩
theorem Try.sortInt : Go.Proofs.SlLaysF.n6 Try.prog Try.sortInt_ren := {
  mixed := by kernel_rfl
  f6 := ⟨Try.f133.name, by decide, Try.func133.trans (congrArg some (by kernel_rfl))⟩
  f14 := ⟨Try.f147.name, by decide, Try.func147.trans (congrArg some (by kernel_rfl))⟩
  f15 := Try.func148.trans (congrArg some (by kernel_rfl))
  f20 := ⟨Try.f150.name, by decide, Try.func150.trans (congrArg some (by kernel_rfl))⟩
  f21 := ⟨Try.f151.name, by decide, Try.func151.trans (congrArg some (by kernel_rfl))⟩
  f22 := ⟨Try.f152.name, by decide, Try.func152.trans (congrArg some (by kernel_rfl))⟩
  f23 := ⟨Try.f153.name, by decide, Try.func153.trans (congrArg some (by kernel_rfl))⟩
  f24 := ⟨Try.f154.name, by decide, Try.func154.trans (congrArg some (by kernel_rfl))⟩
  f25 := ⟨Try.f155.name, by decide, Try.func155.trans (congrArg some (by kernel_rfl))⟩
  f26 := ⟨Try.f156.name, by decide, Try.func156.trans (congrArg some (by kernel_rfl))⟩
  f27 := ⟨Try.f157.name, by decide, Try.func157.trans (congrArg some (by kernel_rfl))⟩
  f28 := Try.func158.trans (congrArg some (by kernel_rfl))
  f29 := Try.func159.trans (congrArg some (by kernel_rfl))
  f46 := ⟨Try.f160.name, by decide, Try.func160.trans (congrArg some (by kernel_rfl))⟩
  f47 := Try.func161.trans (congrArg some (by kernel_rfl))
  f48 := Try.func162.trans (congrArg some (by kernel_rfl))
  f49 := ⟨Try.f163.name, by decide, Try.func163.trans (congrArg some (by kernel_rfl))⟩
  f50 := ⟨Try.f164.name, by decide, Try.func164.trans (congrArg some (by kernel_rfl))⟩
  f57 := ⟨Try.f165.name, by decide, Try.func165.trans (congrArg some (by kernel_rfl))⟩
  t0 := Try.underlying0
  a0 := Try.isAgg0
  z0 := Try.sizeOf0
  v0 := Try.zeroValue0
  t3 := Try.underlying3
  a3 := Try.isAgg3
  z3 := Try.sizeOf3
  v3 := Try.zeroValue3
  t4 := Try.underlying4
  a4 := Try.isAgg4
  z4 := Try.sizeOf4
  v4 := Try.zeroValue4
  t5 := Try.underlying5
  a5 := Try.isAgg5
  z5 := Try.sizeOf5
  v5 := Try.zeroValue5
  t9 := Try.underlying9
  a9 := Try.isAgg9
  z9 := Try.sizeOf9
  v9 := Try.zeroValue9
  t22 := Try.underlying38
  a22 := Try.isAgg38
  z22 := Try.sizeOf38
  v22 := Try.zeroValue38
  a24 := Try.isAgg3
  z24 := Try.sizeOf3
  t25 := Try.underlying49
  a25 := Try.isAgg49
  z25 := Try.sizeOf49
  v25 := Try.zeroValue49
  t39 := Try.underlying172
  a39 := Try.isAgg172
  z39 := Try.sizeOf172
  v39 := Try.zeroValue172
  t45 := Try.underlying175
  a45 := Try.isAgg175
  z45 := Try.sizeOf175
  v45 := Try.zeroValue175
  t46 := Try.underlying176
  a46 := Try.isAgg176
  z46 := Try.sizeOf176
  v46 := Try.zeroValue176
  t50 := Try.underlying180
  a50 := Try.isAgg180
  z50 := Try.sizeOf180
  v50 := Try.zeroValue180
  t53 := Try.underlying183
  a53 := Try.isAgg183
  z53 := Try.sizeOf183
  v53 := Try.zeroValue183
  t55 := Try.underlying185
  a55 := Try.isAgg185
  z55 := Try.sizeOf185
  v55 := Try.zeroValue185
  t66 := Try.underlying186
  a66 := Try.isAgg186
  z66 := Try.sizeOf186
  v66 := Try.zeroValue186
  t70 := Try.underlying190
  a70 := Try.isAgg190
  z70 := Try.sizeOf190
  v70 := Try.zeroValue190
  t76 := Try.underlying192
  a76 := Try.isAgg192
  z76 := Try.sizeOf192
  v76 := Try.zeroValue192
  t77 := Try.underlying193
  a77 := Try.isAgg193
  z77 := Try.sizeOf193
  v77 := Try.zeroValue193 }
end Go.Proofs
end
section
namespace Go.Sh.C3
open Go.Sh Go.Proofs
set_option maxRecDepth 100000
set_option linter.unusedVariables false
theorem mixed : Try.prog.follows .mixedOrders = true := by kernel_rfl
theorem low_13 : lowF Try.prog 13 = some (157, [.tmp 6], (ic_potbanklaw03_BungCounted 19 61 62 27 20 63 57 29 28).erase) := by kernel_rfl
theorem low_19 : lowF Try.prog 19 = some (146, [.tmp 0], (ic_potbanklaw03_sane 75 59 32 24 26 53 20 39 22 40).erase) := by kernel_rfl
theorem low_75 : lowF Try.prog 75 = some (14, [.tmp 0], (ic_potbanklaw03_example).erase) := by kernel_rfl
theorem c_C_example_75 : C_example Try.prog 75 := ok_example mixed low_75
theorem low_59 : lowF Try.prog 59 = some (53, [.cell 6 (some 3), .tmp 7], (ic_bung_Set 110 94 111 112).erase) := by kernel_rfl
theorem low_110 : lowF Try.prog 110 = some (5, [.tmp 2], (ic_bung_isWad 139).erase) := by kernel_rfl
theorem low_139 : lowF Try.prog 139 = some (24, [.tmp 6], (ic_bung_isRange).erase) := by kernel_rfl
theorem c_C_isRange_139 : C_isRange Try.prog 139 := ok_isRange mixed low_139
theorem c_C_isWad_110 : C_isWad Try.prog 110 := ok_isWad mixed low_110 c_C_isRange_139
theorem low_94 : lowF Try.prog 94 = some (29, [.tmp 2], (ic_bung_isList 100).erase) := by kernel_rfl
theorem low_100 : lowF Try.prog 100 = some (26, [.tmp 2], (ic_bung_isSaggar 111 139).erase) := by kernel_rfl
theorem low_111 : lowF Try.prog 111 = some (15, [.tmp 6], (ic_bung_within).erase) := by kernel_rfl
theorem c_C_within_111 : C_within Try.prog 111 := ok_within mixed low_111
theorem c_C_isSaggar_100 : C_isSaggar Try.prog 100 := ok_isSaggar mixed low_100 c_C_within_111 c_C_isRange_139
theorem c_C_isList_94 : C_isList Try.prog 94 := ok_isList mixed low_94 c_C_isSaggar_100
theorem low_112 : lowF Try.prog 112 = some (23, [.tmp 4], (ic_bung_stacked).erase) := by kernel_rfl
theorem c_C_stacked_112 : C_stacked Try.prog 112 := ok_stacked mixed low_112
theorem c_C_Set_59 : C_Set Try.prog 59 := ok_Set mixed low_59 c_C_isWad_110 c_C_isList_94 c_C_within_111 c_C_stacked_112
theorem low_32 : lowF Try.prog 32 = some (10, [.tmp 2, .tmp 3], (ic_bung_Loads 80 88).erase) := by kernel_rfl
theorem low_80 : lowF Try.prog 80 = some (17, [.tmp 2], (ic_bung_isBung 110 94).erase) := by kernel_rfl
theorem c_C_isBung_80 : C_isBung Try.prog 80 := ok_isBung mixed low_80 c_C_isWad_110 c_C_isList_94
theorem low_88 : lowF Try.prog 88 = some (18, [.tmp 2], (ic_bung_loads 130).erase) := by kernel_rfl
theorem low_130 : lowF Try.prog 130 = some (4, [.tmp 2], (ic_bung_down 145).erase) := by kernel_rfl
theorem low_145 : lowF Try.prog 145 = some (25, [], (ic_bung_down_1 129).erase) := by kernel_rfl
theorem low_129 : lowF Try.prog 129 = some (26, [.cell 2 (some 2)], (ic_bung_sum).erase) := by kernel_rfl
theorem c_C_sum_129 : C_sum Try.prog 129 := ok_sum mixed low_129
theorem c_C_down_130 : C_down Try.prog 130 := ok_down mixed low_130 low_145 c_C_sum_129
theorem c_C_loads_88 : C_loads Try.prog 88 := ok_loads mixed low_88 c_C_down_130
theorem c_C_Loads_32 : C_Loads Try.prog 32 := ok_Loads mixed low_32 c_C_isBung_80 c_C_loads_88
theorem low_24 : lowF Try.prog 24 = some (11, [.tmp 2, .tmp 3], (ic_bung_Stands 80 82 81).erase) := by kernel_rfl
theorem low_82 : lowF Try.prog 82 = some (26, [.tmp 2], (ic_bung_courses 88 128).erase) := by kernel_rfl
theorem low_128 : lowF Try.prog 128 = some (17, [.tmp 4], (ic_bung_answer).erase) := by kernel_rfl
theorem c_C_answer_128 : C_answer Try.prog 128 := ok_answer mixed low_128
theorem c_C_courses_82 : C_courses Try.prog 82 := ok_courses mixed low_82 c_C_loads_88 c_C_answer_128
theorem low_81 : lowF Try.prog 81 = some (9, [.tmp 2], (ic_bung_all 127).erase) := by kernel_rfl
theorem low_127 : lowF Try.prog 127 = some (9, [.tmp 4], (ic_slices_Contains_Sint_int 144).erase) := by kernel_rfl
theorem low_144 : lowF Try.prog 144 = some (19, [.tmp 4], (ic_slices_Index_Sint_int).erase) := by kernel_rfl
theorem c_C_Index_144 : C_Index Try.prog 144 := ok_Index mixed low_144
theorem c_C_Contains_127 : C_Contains Try.prog 127 := ok_Contains mixed low_127 c_C_Index_144
theorem c_C_all_81 : C_all Try.prog 81 := ok_all mixed low_81 c_C_Contains_127
theorem c_C_Stands_24 : C_Stands Try.prog 24 := ok_Stands mixed low_24 c_C_isBung_80 c_C_courses_82 c_C_all_81
theorem low_26 : lowF Try.prog 26 = some (9, [.tmp 2, .tmp 3], (ic_bung_Lean 80 84).erase) := by kernel_rfl
theorem low_84 : lowF Try.prog 84 = some (41, [.tmp 2], (ic_bung_lean).erase) := by kernel_rfl
theorem c_C_lean_84 : C_lean Try.prog 84 := ok_lean mixed low_84
theorem c_C_Lean_26 : C_Lean Try.prog 26 := ok_Lean mixed low_26 c_C_isBung_80 c_C_lean_84
theorem low_53 : lowF Try.prog 53 = some (55, [.cell 2 (some 3), .tmp 3], (ic_bung_Breaks 80 82).erase) := by kernel_rfl
theorem c_C_Breaks_53 : C_Breaks Try.prog 53 := ok_Breaks mixed low_53 c_C_isBung_80 c_C_courses_82
theorem low_20 : lowF Try.prog 20 = some (45, [.tmp 6, .tmp 7], (ic_bung_Fewest 76 77).erase) := by kernel_rfl
theorem low_76 : lowF Try.prog 76 = some (19, [.tmp 6], (ic_bung_asked 110 94 85).erase) := by kernel_rfl
theorem low_85 : lowF Try.prog 85 = some (11, [.tmp 2], (ic_bung_isSpot 111).erase) := by kernel_rfl
theorem c_C_isSpot_85 : C_isSpot Try.prog 85 := ok_isSpot mixed low_85 c_C_within_111
theorem c_C_asked_76 : C_asked Try.prog 76 := ok_asked mixed low_76 c_C_isWad_110 c_C_isList_94 c_C_isSpot_85
theorem low_77 : lowF Try.prog 77 = some (69, [.tmp 8], (ic_bung_packer_pack 124 125 126 77).erase) := by kernel_rfl
theorem low_124 : lowF Try.prog 124 = some (8, [.tmp 2], (ic_slices_Clone_SSint_Sint).erase) := by kernel_rfl
theorem c_C_CloneR_124 : C_CloneR Try.prog 124 := ok_CloneR mixed low_124
theorem low_125 : lowF Try.prog 125 = some (8, [.tmp 2], (ic_slices_Clone_Sint_int).erase) := by kernel_rfl
theorem c_C_CloneI_125 : C_CloneI Try.prog 125 := ok_CloneI mixed low_125
theorem low_126 : lowF Try.prog 126 = some (36, [.tmp 4], (ic_bung_packer_known 107).erase) := by kernel_rfl
theorem low_107 : lowF Try.prog 107 = some (19, [.tmp 4], (ic_bung_packer_do 95 112 86).erase) := by kernel_rfl
theorem low_95 : lowF Try.prog 95 = some (14, [.tmp 4], (ic_bung_rule 132 125 134 133).erase) := by kernel_rfl
theorem isFn_134 : isFn Try.prog 134 := ⟨_, Try.func134, by kernel_rfl, by kernel_rfl⟩
theorem low_132 : lowF Try.prog 132 = some (17, [.tmp 3], (ic_bung_rule_1).erase) := by kernel_rfl
theorem c_C_strong_132 : C_strong Try.prog 132 := ok_strong mixed low_132
theorem low_134 : lowF Try.prog 134 = some (27, [.tmp 6], (ic_bung_rule_2 136 135).erase) := by kernel_rfl
theorem low_136 : lowF Try.prog 136 = some (20, [.tmp 4], (ic_cmp_Compare_int 149).erase) := by kernel_rfl
theorem low_149 : lowF Try.prog 149 = some (6, [.tmp 2], (ic_cmp_isNaN_int).erase) := by kernel_rfl
theorem c_C_isNaN_149 : C_isNaN Try.prog 149 := ok_isNaN mixed low_149
theorem c_C_Compare_136 : C_Compare Try.prog 136 := ok_Compare mixed low_136 c_C_isNaN_149
theorem low_135 : lowF Try.prog 135 = some (18, [.tmp 2], (ic_cmp_Or_int).erase) := by kernel_rfl
theorem c_C_Or_135 : C_Or Try.prog 135 := ok_Or mixed low_135
theorem c_C_order_134_132 : C_order Try.prog 134 132 := ok_order mixed low_134 c_C_Compare_136 c_C_Or_135 c_C_strong_132
theorem isFn_133 : isFn Try.prog 133 := ⟨_, Try.func133, by kernel_rfl, by kernel_rfl⟩
theorem c_C_rule_95 : C_rule Try.prog 95 := ok_rule mixed low_95 isFn_134 c_C_strong_132 c_C_CloneI_125 c_C_order_134_132 (sortsI_of Try.sortInt isFn_133)
theorem low_86 : lowF Try.prog 86 = some (40, [.tmp 4], (ic_bung_fits 83 82 81 84).erase) := by kernel_rfl
theorem low_83 : lowF Try.prog 83 = some (29, [.cell 2 (some 2)], (ic_bung_height 129).erase) := by kernel_rfl
theorem c_C_height_83 : C_height Try.prog 83 := ok_height mixed low_83 c_C_sum_129
theorem c_C_fits_86 : C_fits Try.prog 86 := ok_fits mixed low_86 c_C_height_83 c_C_courses_82 c_C_all_81 c_C_lean_84
theorem c_C_do_107 : C_do Try.prog 107 := ok_do mixed low_107 c_C_rule_95 c_C_stacked_112 c_C_fits_86
theorem c_C_known_126 : C_known Try.prog 126 := ok_known' mixed low_126 c_C_do_107
theorem c_C_pack_77 : C_pack Try.prog 77 := ok_pack mixed low_77 c_C_CloneR_124 c_C_CloneI_125 c_C_known_126
theorem c_C_Fewest_20 : C_Fewest Try.prog 20 := ok_Fewest mixed low_20 c_C_asked_76 c_C_pack_77
theorem low_39 : lowF Try.prog 39 = some (31, [.tmp 4], (ic_potbankref03_SameRanges).erase) := by kernel_rfl
theorem c_C_SameRanges_39 : C_SameRanges Try.prog 39 := ok_SameRanges mixed low_39
theorem low_22 : lowF Try.prog 22 = some (31, [.tmp 4], (ic_potbankref03_SameParts 40).erase) := by kernel_rfl
theorem low_40 : lowF Try.prog 40 = some (26, [.tmp 4], (ic_potbankref01_Same).erase) := by kernel_rfl
theorem c_C_Same_40 : C_Same Try.prog 40 := ok_Same mixed low_40
theorem c_C_SameParts_22 : C_SameParts Try.prog 22 := ok_SameParts mixed low_22 c_C_Same_40
theorem c_C_sane_19 : C_sane Try.prog 19 := ok_sane mixed low_19 c_C_example_75 c_C_Set_59 c_C_Loads_32 c_C_Stands_24 c_C_Lean_26 c_C_Breaks_53 c_C_Fewest_20 c_C_SameRanges_39 c_C_SameParts_22 c_C_Same_40
theorem low_61 : lowF Try.prog 61 = some (72, [.tmp 4], (ic_potbankref03_Made 27).erase) := by kernel_rfl
theorem low_27 : lowF Try.prog 27 = some (12, [.tmp 4], (ic_potbankref03_Mod).erase) := by kernel_rfl
theorem c_C_Mod_27 : C_Mod Try.prog 27 := ok_Mod mixed low_27
theorem c_C_Made_61 : C_Made Try.prog 61 := ok_Made mixed low_61 c_C_Mod_27
theorem low_62 : lowF Try.prog 62 = some (14, [.cell 2 (some 2)], (ic_potbankref03_Wad 27).erase) := by kernel_rfl
theorem c_C_Wad_62 : C_Wad Try.prog 62 := ok_Wad mixed low_62 c_C_Mod_27
theorem low_63 : lowF Try.prog 63 = some (36, [.tmp 6], (ic_potbankref03_Parts 27 114).erase) := by kernel_rfl
theorem low_114 : lowF Try.prog 114 = some (42, [.tmp 6], (ic_potbankref03_given).erase) := by kernel_rfl
theorem c_C_given_114 : C_given Try.prog 114 := ok_given mixed low_114
theorem c_C_Parts_63 : C_Parts Try.prog 63 := ok_Parts mixed low_63 c_C_Mod_27 c_C_given_114
theorem low_57 : lowF Try.prog 57 = some (40, [.tmp 8], (ic_bung_CheckBungs 76 106 107).erase) := by kernel_rfl
theorem low_106 : lowF Try.prog 106 = some (69, [.tmp 4], (ic_bung_areBungs 111).erase) := by kernel_rfl
theorem c_C_areBungs_106 : C_areBungs Try.prog 106 := ok_areBungs mixed low_106 c_C_within_111
theorem c_C_do0_107 : C_do0 Try.prog 107 := ok_do0 mixed low_107 c_C_rule_95 c_C_stacked_112 c_C_fits_86
theorem c_C_CheckBungs_57 : C_CheckBungs Try.prog 57 := ok_CheckBungs mixed low_57 c_C_asked_76 c_C_areBungs_106 c_C_do0_107
theorem low_29 : lowF Try.prog 29 = some (15, [.tmp 4], (ic_potbanklaw03_at).erase) := by kernel_rfl
theorem c_C_at_29 : C_at Try.prog 29 := ok_at mixed low_29
theorem low_28 : lowF Try.prog 28 = some (16, [.tmp 4], (ic_potbanklaw03_one 27).erase) := by kernel_rfl
theorem c_C_one_28 : C_one Try.prog 28 := ok_one mixed low_28 c_C_Mod_27
theorem c_L_BungCounted_13 : L_BungCounted Try.prog 13 := ok_BungCounted mixed low_13 c_C_sane_19 c_C_Made_61 c_C_Wad_62 c_C_Mod_27 c_C_Fewest_20 c_C_Parts_63 c_C_CheckBungs_57 c_C_at_29 c_C_one_28
theorem isFn_13 : isFn Try.prog 13 := ⟨_, Try.func13, by kernel_rfl, by kernel_rfl⟩
end Go.Sh.C3
end
