/- The calculus over shadows, and contracts: B4B, ShNz, B5A, B5E, B5H, B5I, B5J, B7A, B7B, B7C, B7D, B8A, B4C, B7E, B5B, B5C, B8B, B5D, B5M, B8F, ShSp, TryShelfP, S3BungSeated. -/
import Derived.Test.YthaiheabibapiaaK3
import Derived.Shelf.SlSortCmp.NoneTotal
import Derived.Shelf.SlLaysF
import Derived.Shelf.SlGeneric
import Derived.Ground.SlsfProg
import Derived.Test.YthaiheabibapiaaProg
set_option linter.all false
section
namespace Go.Sh.C3
open Go.Sh
set_option maxRecDepth 10000
set_option linter.unusedVariables false
set_option linter.unusedSimpArgs false
variable {P : Program}

/-- The first so many, up to n, for which there are bungs. -/
def fewS (d : List Int → Bool) (n : Nat) : Option (List (List Int)) := (List.range n).findSome? fun j => packS d n (j + 1) n []
def fewE (w : Rg) (l : List Sag) (s : Spt) : Int := if askedE w l s ≠ 0 then askedE w l s else if 9 < l.length then 36 else if l.length = 0 then 0 else if (fewS (doS w l s) l.length).isSome then 0 else 3
def fewR (w : Rg) (l : List Sag) (s : Spt) : List (List Int) := if askedE w l s = 0 ∧ l.length ≤ 9 then (fewS (doS w l s) l.length).getD [] else []
def C_Fewest (P : Program) (f : Nat) : Prop := ∀ (w : Rg) (l : List Sag) (s : Spt), Snd P f [.agg w.c, .fsl (l.map Sag.c), .agg s.c] [] (.tup [.fsl ((fewR w l s).map rowC), .i .i64 (fewE w l s)]) []
theorem asked_ok {w : Rg} {l : List Sag} {s : Spt} (h : askedE w l s = 0) : rgB w 0 200 = true ∧ listB l = true ∧ spotB s = true := by
  unfold askedE at h
  split at h
  · split at h
    · split at h
      · exact ⟨by assumption, by assumption, by assumption⟩
      · cases h
    · cases h
  · cases h
theorem ok_Fewest (hm : P.follows .mixedOrders = true) {f f0 f1 : Nat} (low : Low_bung_Fewest P f f0 f1) (h0 : C_asked P f0) (h1 : C_pack P f1) : C_Fewest P f := by
  intro w l s
  have none_ : ∀ (H : List Blk) (e : Int), fewE w l s = e → fewR w l s = [] → Frz 0 H (resV [.nsl, .i .i64 e]) (.tup [.fsl ((fewR w l s).map rowC), .i .i64 (fewE w l s)]) := fun H e h1 h2 => by rw [h1, h2]; exact frz2 .nil (.keep _ rfl)
  refine snd_ic hm low (by simp) ?_
  unfold ic_bung_Fewest
  simp -dsimp -implicitDefEqProofs only [qq, Nat.reduceBEq, reduceIte, Nat.reduceAdd, Nat.reduceSub, Nat.reduceLeDiff, Nat.reduceLT, Nat.reduceMul, Nat.reduceEqDiff, Int.reduceEq, Int.reduceBEq, Int.reduceBNe, Int.reduceLT, Int.reduceLE, Int.reduceGT, Int.reduceGE, Int.reduceNeg, Int.reduceAdd, Int.reduceSub, reduceCtorEq, List.reduceReplicate, ← List.map_take, ← List.map_drop]
  refine callI_pure (h0 w l s) rfl rfl ?_
  simp -dsimp -implicitDefEqProofs only [qq, Nat.reduceBEq, reduceIte, Nat.reduceAdd, Nat.reduceSub, Nat.reduceLeDiff, Nat.reduceLT, Nat.reduceMul, Nat.reduceEqDiff, Int.reduceEq, Int.reduceBEq, Int.reduceBNe, Int.reduceLT, Int.reduceLE, Int.reduceGT, Int.reduceGE, Int.reduceNeg, Int.reduceAdd, Int.reduceSub, reduceCtorEq, List.reduceReplicate, ← List.map_take, ← List.map_drop]
  refine brG_of (fun he => ?_) (fun he => ?_) <;> simp -dsimp -implicitDefEqProofs only [qq, Nat.reduceBEq, reduceIte, Nat.reduceAdd, Nat.reduceSub, Nat.reduceLeDiff, Nat.reduceLT, Nat.reduceMul, Nat.reduceEqDiff, Int.reduceEq, Int.reduceBEq, Int.reduceBNe, Int.reduceLT, Int.reduceLE, Int.reduceGT, Int.reduceGE, Int.reduceNeg, Int.reduceAdd, Int.reduceSub, reduceCtorEq, List.reduceReplicate, ← List.map_take, ← List.map_drop]
  · have he' : askedE w l s ≠ 0 := by simpa using he
    exact Ends.ret rfl (none_ _ _ (by simp [fewE, he']) (by simp [fewR, he']))
  have he' : askedE w l s = 0 := by simpa using he
  obtain ⟨hw, hv, hsp⟩ := asked_ok he'
  have hlen := list_len hv
  refine brG_of (fun h9 => ?_) (fun h9 => ?_) <;> simp -dsimp -implicitDefEqProofs only [qq, Nat.reduceBEq, reduceIte, Nat.reduceAdd, Nat.reduceSub, Nat.reduceLeDiff, Nat.reduceLT, Nat.reduceMul, Nat.reduceEqDiff, Int.reduceEq, Int.reduceBEq, Int.reduceBNe, Int.reduceLT, Int.reduceLE, Int.reduceGT, Int.reduceGE, Int.reduceNeg, Int.reduceAdd, Int.reduceSub, reduceCtorEq, List.reduceReplicate, ← List.map_take, ← List.map_drop]
  · have h9' : 9 < l.length := by simp at h9; omega
    exact Ends.ret rfl (none_ _ _ (by simp [fewE, he', h9']) (by simp [fewR]; omega))
  have h9' : l.length ≤ 9 := by simp at h9; omega
  refine brG_of (fun hz => ?_) (fun hz => ?_) <;> simp -dsimp -implicitDefEqProofs only [qq, Nat.reduceBEq, reduceIte, Nat.reduceAdd, Nat.reduceSub, Nat.reduceLeDiff, Nat.reduceLT, Nat.reduceMul, Nat.reduceEqDiff, Int.reduceEq, Int.reduceBEq, Int.reduceBNe, Int.reduceLT, Int.reduceLE, Int.reduceGT, Int.reduceGE, Int.reduceNeg, Int.reduceAdd, Int.reduceSub, reduceCtorEq, List.reduceReplicate, ← List.map_take, ← List.map_drop]
  · have hz' : l.length = 0 := by simp at hz; simp [hz]
    exact Ends.ret rfl (none_ _ _ (by simp [fewE, he', hz']) (by simp [fewR, hz', fewS]))
  have hpos : 0 < l.length := by simp at hz; exact List.length_pos_iff.2 hz
  simp -dsimp -implicitDefEqProofs only [Rg.c, qq, Nat.reduceBEq, reduceIte, Nat.reduceAdd, Nat.reduceSub, Nat.reduceLeDiff, Nat.reduceLT, Nat.reduceMul, Nat.reduceEqDiff, Int.reduceEq, Int.reduceBEq, Int.reduceBNe, Int.reduceLT, Int.reduceLE, Int.reduceGT, Int.reduceGE, Int.reduceNeg, Int.reduceAdd, Int.reduceSub, reduceCtorEq, List.reduceReplicate, ← List.map_take, ← List.map_drop]
  refine loopI_st (fun k : Nat => l.length - k) (fun k E H => k ≤ l.length ∧ E = [(1, .fsl (l.map Sag.c)), (9, .rpt 3 6 0 0), (10, .i .i64 (k + 1 : Nat))] ∧ ∃ ts, Faith w l s ts ∧ H[2]? = some (.mp (tmap ts)) ∧ H[3]? = some (.row 6 [packC w l s (.rmp 2)]) ∧ (∀ j, j < k → packS (doS w l s) l.length (j + 1) l.length [] = none)) 0 ⟨by omega, rfl, [], ⟨by simp, fun a v _ _ h => by simp at h⟩, rfl, rfl, fun j hj => by omega⟩ ?_
  rintro k _ H ⟨hk, rfl, ts, hF, hm2, hp3, hno⟩
  simp -dsimp -implicitDefEqProofs only [qq, Nat.reduceBEq, reduceIte, Nat.reduceAdd, Nat.reduceSub, Nat.reduceLeDiff, Nat.reduceLT, Nat.reduceMul, Nat.reduceEqDiff, Int.reduceEq, Int.reduceBEq, Int.reduceBNe, Int.reduceLT, Int.reduceLE, Int.reduceGT, Int.reduceGE, Int.reduceNeg, Int.reduceAdd, Int.reduceSub, reduceCtorEq, List.reduceReplicate, ← List.map_take, ← List.map_drop]
  cases hc : decide (((k + 1 : Nat) : Int) ≤ (l.length : Int)) <;> simp -dsimp -implicitDefEqProofs only [hc, qq, Nat.reduceBEq, reduceIte, Nat.reduceAdd, Nat.reduceSub, Nat.reduceLeDiff, Nat.reduceLT, Nat.reduceMul, Nat.reduceEqDiff, Int.reduceEq, Int.reduceBEq, Int.reduceBNe, Int.reduceLT, Int.reduceLE, Int.reduceGT, Int.reduceGE, Int.reduceNeg, Int.reduceAdd, Int.reduceSub, reduceCtorEq, List.reduceReplicate, ← List.map_take, ← List.map_drop]
  · have hkl : k = l.length := by simp at hc; omega
    have hn : fewS (doS w l s) l.length = none := by
      rw [fewS, List.findSome?_eq_none_iff]
      exact fun j hj => hno j (by simp at hj; omega)
    exact Ends.ret rfl (none_ _ _ (by rw [fewE, if_neg (by simp [he']), if_neg (by omega), if_neg (by omega), hn]; rfl) (by simp [fewR, hn]))
  have hkl : k < l.length := by simp at hc; omega
  have hwk : IntKind.i64.wrap (((k + 1 : Nat) : Int) + 1) = ((k + 1 + 1 : Nat) : Int) := wrap_succ (by omega)
  have hpk := h1 l.length H w l s 2 ts [] (k + 1) hm2 hF hw hv hpos h9' (Nat.le_refl _) ⟨by simp, by simp, by simp, by simp, fun h => by omega⟩ (by omega)
  rw [Nat.sub_self] at hpk
  simp -dsimp -implicitDefEqProofs only [hp3, packC, qq, Nat.reduceBEq, reduceIte, Nat.reduceAdd, Nat.reduceSub, Nat.reduceLeDiff, Nat.reduceLT, Nat.reduceMul, Nat.reduceEqDiff, Int.reduceEq, Int.reduceBEq, Int.reduceBNe, Int.reduceLT, Int.reduceLE, Int.reduceGT, Int.reduceGE, Int.reduceNeg, Int.reduceAdd, Int.reduceSub, reduceCtorEq, List.reduceReplicate, ← List.map_take, ← List.map_drop]
  refine callI_give (fun _ => false) (.cons (.keep _) (.cons .nil (.same _))) ?_
  rw [killB_no]
  refine callI_x hpk ?_
  rintro v H6 ⟨⟨ts3, hF3, rfl⟩, hres⟩
  have e1 := get_setsame (b' := .mp (tmap ts3)) hm2
  have e2 : (H.set 2 (.mp (tmap ts3)))[3]? = some (.row 6 [packC w l s (.rmp 2)]) := get_setne hp3 (by omega)
  cases hr : packS (doS w l s) l.length (k + 1) l.length [] with
  | none =>
    rw [hr] at hres
    subst hres
    simp -dsimp -implicitDefEqProofs only [hwk, qq, Nat.reduceBEq, reduceIte, Nat.reduceAdd, Nat.reduceSub, Nat.reduceLeDiff, Nat.reduceLT, Nat.reduceMul, Nat.reduceEqDiff, Int.reduceEq, Int.reduceBEq, Int.reduceBNe, Int.reduceLT, Int.reduceLE, Int.reduceGT, Int.reduceGE, Int.reduceNeg, Int.reduceAdd, Int.reduceSub, reduceCtorEq, List.reduceReplicate, ← List.map_take, ← List.map_drop]
    exact ⟨k + 1, by omega, by omega, rfl, ts3, hF3, e1, e2, fun j hj => by
      rcases Nat.lt_succ_iff_lt_or_eq.1 hj with h | rfl
      · exact hno j h
      · exact hr⟩
  | some out =>
    rw [hr] at hres
    obtain ⟨hne, rfl⟩ := hres
    obtain ⟨x, out', rfl⟩ : ∃ x out', out = x :: out' := by cases out with | nil => exact absurd rfl hne | cons x o => exact ⟨x, o, rfl⟩
    simp -dsimp -implicitDefEqProofs only [qq, Nat.reduceBEq, reduceIte, Nat.reduceAdd, Nat.reduceSub, Nat.reduceLeDiff, Nat.reduceLT, Nat.reduceMul, Nat.reduceEqDiff, Int.reduceEq, Int.reduceBEq, Int.reduceBNe, Int.reduceLT, Int.reduceLE, Int.reduceGT, Int.reduceGE, Int.reduceNeg, Int.reduceAdd, Int.reduceSub, reduceCtorEq, List.reduceReplicate, ← List.map_take, ← List.map_drop]
    have hs : fewS (doS w l s) l.length = some (x :: out') := findSome_range hkl hno hr
    have q1 : fewE w l s = 0 := by rw [fewE, if_neg (by simp [he']), if_neg (by omega), if_neg (by omega), hs]; rfl
    have q2 : fewR w l s = x :: out' := by simp [fewR, he', h9', hs]
    rw [q1, q2]
    exact Ends.ret rfl (frz_keep2 rfl rfl)
end Go.Sh.C3
end
section
namespace Go.Sh
set_option linter.unusedVariables false
set_option linter.unusedSimpArgs false
variable {P : Program}

/-- One's own slice, full; or nothing, nil or not. -/
def OwnZ (H : List Blk) (k : Nat) (rows : List (List V)) (v : V) : Prop := (rows = [] ∧ (v = .nsl ∨ v = .fs0)) ∨ ∃ p c e, v = .rsl p k 0 rows.length c e ∧ H[p]? = some (.row k rows)
theorem OwnS.z {H : List Blk} {k : Nat} {rows : List (List V)} {v : V} (h : OwnS H k rows v) : OwnZ H k rows v := by
  rcases h with ⟨h1, h2⟩ | h
  · exact .inl ⟨h1, .inl h2⟩
  · exact .inr h
theorem OwnZ.pos {H : List Blk} {k : Nat} {rows : List (List V)} {v : V} (h : OwnZ H k rows v) (hr : rows ≠ []) : ∃ p c e, v = .rsl p k 0 rows.length c e ∧ H[p]? = some (.row k rows) := by
  rcases h with ⟨h, _⟩ | h
  · exact absurd h hr
  · exact h
theorem OwnS.pos {H : List Blk} {k : Nat} {rows : List (List V)} {v : V} (h : OwnS H k rows v) (hr : rows ≠ []) : ∃ p c e, v = .rsl p k 0 rows.length c e ∧ H[p]? = some (.row k rows) := h.z.pos hr
theorem OwnZ.s {H : List Blk} {k : Nat} {rows : List (List V)} {v : V} (h : OwnZ H k rows v) (hr : rows ≠ []) : OwnS H k rows v := .inr (h.pos hr)
theorem OwnZ.shown {H : List Blk} {k : Nat} {rows : List (List V)} {v : V} (h : OwnZ H k rows v) : shown H v = some rows := by
  rcases h with ⟨rfl, rfl | rfl⟩ | ⟨p, c, e, rfl, h2⟩
  · rfl
  · rfl
  · simp [Sh.shown, h2]
theorem OwnZ.move {H H' : List Blk} {k : Nat} {rows : List (List V)} {v : V} (h : OwnZ H k rows v) (hk : ∀ p b c e, H[p]? = some b → v = .rsl p k 0 rows.length c e → H'[p]? = some b) : OwnZ H' k rows v := by
  rcases h with h | ⟨p, c, e, h1, h2⟩
  · exact .inl h
  · exact .inr ⟨p, c, e, h1, hk p _ c e h2 h1⟩
theorem OwnZ.app {H : List Blk} {k : Nat} {rows : List (List V)} {v : V} (h : OwnZ H k rows v) (l : List Blk) : OwnZ (H ++ l) k rows v := h.move fun p b _ _ hb _ => get_app hb l
theorem OwnZ.frz {H : List Blk} {k : Nat} {rows : List (List V)} {v : V} (h : OwnZ H k rows v) (hb : ∀ row ∈ rows, belL 0 row = true) : Frz 0 H v (.fsl rows) := by
  rcases h with ⟨rfl, rfl | rfl⟩ | h
  · exact .nil
  · exact .emp
  · exact OwnS.frz (.inr h) hb
/-- New since H0, whose blocks are as they were. -/
structure NewZ (H0 H : List Blk) (k : Nat) (rows : List (List V)) (r : V) : Prop where
  own : OwnZ H k rows r
  len : H0.length ≤ H.length
  keep : ∀ (p : Nat) (b : Blk), H0[p]? = some b → H[p]? = some b
  fresh : ∀ p k o l c e, r = .rsl p k o l c e → H0.length ≤ p
theorem NewZ.emp (H : List Blk) (k : Nat) : NewZ H H k [] .fs0 := ⟨.inl ⟨rfl, .inr rfl⟩, Nat.le_refl _, fun _ _ h => h, by simp⟩
theorem NewZ.nil (H : List Blk) (k : Nat) : NewZ H H k [] .nsl := ⟨.inl ⟨rfl, .inl rfl⟩, Nat.le_refl _, fun _ _ h => h, by simp⟩
theorem New.z {H0 H : List Blk} {k : Nat} {rows : List (List V)} {r : V} (h : New H0 H k rows r) : NewZ H0 H k rows r := ⟨h.own.z, h.len, h.keep, h.fresh⟩
theorem take_keep {H0 H : List Blk} (hl : H0.length ≤ H.length) (hk : ∀ (p : Nat) (b : Blk), H0[p]? = some b → H[p]? = some b) : H.take H0.length = H0 := by
  apply List.ext_getElem?
  intro i
  rw [List.getElem?_take]
  split
  · rename_i h
    rw [hk i H0[i] (by simp [h]), List.getElem?_eq_getElem h]
  · rw [List.getElem?_eq_none (by omega)]
theorem NewZ.take {H0 H : List Blk} {k : Nat} {rows : List (List V)} {r : V} (h : NewZ H0 H k rows r) : H.take H0.length = H0 := take_keep h.len h.keep
theorem NewZ.app {H0 H : List Blk} {k : Nat} {rows : List (List V)} {r : V} (h : NewZ H0 H k rows r) (l : List Blk) : NewZ H0 (H ++ l) k rows r :=
  ⟨h.own.app l, by have := h.len; simp; omega, fun p b hb => get_app (h.keep p b hb) l, h.fresh⟩
/-- An append to it. -/
theorem app_newZ {k bytes : Nat} {x y : V} {H0 H : List Blk} {rows ys : List (List V)} {K : V → List Blk → Prop} (hx : NewZ H0 H k rows x) (h0 : 0 < k) (hb : bytes ≤ 1000000) (hy : Sh.shown H y = some ys) (hys : ∀ r ∈ ys, r.length = k ∧ r.all V.one = true)
    (hl : rows.length + ys.length ≤ 1000000) (hK : ∀ v' H', NewZ H0 H' k (rows ++ ys) v' → K v' H') : appI k bytes x y H K := by
  have hlen := hx.len
  refine ⟨h0, hb, ys, hy, hys, ?_⟩
  rcases hx.own with ⟨rfl, rfl | rfl⟩ | ⟨p, c0, e0, rfl, h2⟩
  · simp only
    refine ⟨fun h => ?_, fun h => ⟨by simpa using hl, ?_⟩⟩
    · subst h; exact hK _ _ hx
    · exact hK _ _ ⟨.inr ⟨H.length, ys.length, false, by simp, by simp⟩, by simp; omega, fun p b hb => get_app (hx.keep p b hb) _, fun p k' o l c e he => by simp at he; omega⟩
  · simp only
    refine ⟨fun h => ?_, fun h => ⟨by simpa using hl, ?_⟩⟩
    · subst h; exact hK _ _ hx
    · exact hK _ _ ⟨.inr ⟨H.length, ys.length, false, by simp, by simp⟩, by simp; omega, fun p b hb => get_app (hx.keep p b hb) _, fun p k' o l c e he => by simp at he; omega⟩
  · have hf := hx.fresh _ _ _ _ _ _ rfl
    refine ⟨by trivial, hl, rows, h2, by simp, .inr (.inr ⟨by trivial, by trivial, ?_⟩)⟩
    refine hK _ _ ⟨.inr ⟨H.length, rows.length + ys.length, false, by simp, by rw [show H.length = (H.set p .dead).length by simp]; exact get_new _ _⟩, by simp; omega, fun q b h => get_app (get_setne (hx.keep q b h) (fun e => by have := get_lt h; omega)) _, ?_⟩
    intro q k' o l c e he
    simp at he
    omega
/-- The list of slices' rows, cut. -/
theorem shown_drop {H : List Blk} {p k o n c : Nat} {e : Bool} {rows : List (List V)} (h : H[p]? = some (.row k rows)) (hl : o + n ≤ rows.length) : Sh.shown H (.rsl p k o n c e) = some ((rows.drop o).take n) := by
  simp [Sh.shown, h, hl]

/-! ### two slices of one's own -/
def Dis (x v : V) : Prop := ∀ p k o l c e k' o' l' c' e', x = .rsl p k o l c e → v = .rsl p k' o' l' c' e' → False
theorem Dis.symm {x v : V} (h : Dis x v) : Dis v x := fun p k o l c e k' o' l' c' e' h1 h2 => h p k' o' l' c' e' k o l c e h2 h1
theorem Dis.nil (v : V) : Dis .nsl v := fun p k o l c e k' o' l' c' e' h1 _ => by cases h1
theorem OwnS.lt {H : List Blk} {k : Nat} {rows : List (List V)} {v : V} (h : OwnS H k rows v) {p k' o l c : Nat} {e : Bool} (hv : v = .rsl p k' o l c e) : p < H.length := by
  rcases h with ⟨_, h⟩ | ⟨q, c0, e0, h, hq⟩
  · rw [h] at hv; cases hv
  · rw [h] at hv; cases hv; exact get_lt hq
theorem OwnS.give {H : List Blk} {k : Nat} {rows : List (List V)} {v : V} (h : OwnS H k rows v) (hb : ∀ r ∈ rows, belL 0 r = true) : ∃ kk : Nat → Bool, Give kk H v (.fsl rows) ∧ ∀ p, kk p = true → ∃ k o l c e, v = .rsl p k o l c e := by
  rcases h with ⟨rfl, rfl⟩ | ⟨pu, cu, eu, rfl, hpu⟩
  · exact ⟨fun _ => false, .nil, fun p h => by cases h⟩
  · refine ⟨fun i => i == pu, ?_, fun p h => ⟨k, 0, rows.length, cu, eu, by rw [eq_of_beq h]⟩⟩
    refine .sl pu k 0 rows.length cu eu rows rows (by simp) hpu (by simp) rfl hb ?_ ?_
    · intro i r r' h1 h3
      simp at h1
      rw [h1] at h3; cases h3; rfl
    · intro i r r' j x x' h1 h3 e1 e2
      simp at h1
      rw [h1] at h3; cases h3
      rw [e1] at e2; cases e2
      exact .keep _
end Go.Sh
end
section
namespace Go.Sh.C3
open Go.Sh
set_option maxRecDepth 10000
set_option linter.unusedVariables false
set_option linter.unusedSimpArgs false
variable {P : Program}
end Go.Sh.C3
end
section
namespace Go.Sh.C3
open Go.Sh
set_option maxRecDepth 10000
set_option linter.unusedVariables false
set_option linter.unusedSimpArgs false
variable {P : Program}
end Go.Sh.C3
end
section
namespace Go.Sh.C3
open Go.Sh
variable {P : Program}

theorem coursesS_three : ∀ {l : List Sag} {x : Int}, x ∈ coursesS l → x = 0 ∨ x = 1 ∨ x = 2
  | [], x, h => by simp [coursesS] at h
  | s :: r, x, h => by
    simp only [coursesS, List.mem_cons] at h
    rcases h with rfl | h
    · unfold answerS; split <;> (try split) <;> simp
    · exact coursesS_three h
theorem standsS_one {l : List Sag} : standsS l = 1 ↔ ∀ x ∈ coursesS l, x = 1 := by
  unfold standsS allS
  split
  · rename_i h; simp; exact ⟨0, h, by decide⟩
  · rename_i h0
    split
    · rename_i h; simp; exact ⟨2, h, by decide⟩
    · rename_i h2
      simp only [true_iff]
      intro x hx
      rcases coursesS_three hx with rfl | rfl | rfl
      · exact absurd hx h0
      · rfl
      · exact absurd hx h2
theorem leanG_sub {w : Int} (hw : 0 ≤ w) {m l : List Sag} (h : m.Sublist l) (hv : ∀ s ∈ l, sagB s = true) : 0 ≤ (leanG w m).2 ∧ (leanG w m).2 ≤ (leanG w l).2 ∧ 0 ≤ (leanG w m).1 ∧ (leanG w m).1 ≤ (leanG w l).1 := by
  induction h with
  | slnil => simp [leanG]
  | cons s _ ih =>
    obtain ⟨a1, a2, a3, a4⟩ := ih fun x hx => hv x (by simp [hx])
    have hs := hv s (by simp)
    simp [sagB, rgB, inR] at hs
    simp only [leanG]
    rename_i l' _
    have : 0 ≤ s.tilt * ((leanG w l').2 + s.h.hi) := Int.mul_nonneg (by omega) (by omega)
    omega
  | cons_cons s _ ih =>
    obtain ⟨a1, a2, a3, a4⟩ := ih fun x hx => hv x (by simp [hx])
    have hs := hv s (by simp)
    simp [sagB, rgB, inR] at hs
    simp only [leanG]
    rename_i m' l' _
    have b1 : 0 ≤ s.tilt * ((leanG w m').2 + s.h.hi) := Int.mul_nonneg (by omega) (by omega)
    have b2 : s.tilt * ((leanG w m').2 + s.h.hi) ≤ s.tilt * ((leanG w l').2 + s.h.hi) := Int.mul_le_mul_of_nonneg_left (by omega) (by omega)
    omega
theorem fitsS_one {w : Rg} {l : List Sag} {s : Spt} (hw : rgB w 0 200 = true) (hv : listB l = true) (hl : 0 < l.length) : fitsS w l s = 1 ↔ (heightS w l).hi ≤ s.crown ∧ leanS w l ≤ s.lean ∧ ∀ x ∈ coursesS l, x = 1 := by
  rw [← standsS_one]
  unfold fitsS
  have hlo : (heightS w l).lo ≤ (heightS w l).hi := by
    have hw' : 0 ≤ w.lo ∧ w.lo ≤ w.hi := by simp [rgB] at hw; omega
    rw [heightS_eq w hl]
    have a1 : ((l.length : Int) - 1) * w.lo ≤ ((l.length : Int) - 1) * w.hi := Int.mul_le_mul_of_nonneg_left (by omega) (by omega)
    have a2 : (hOf l).lo ≤ (hOf l).hi := by
      have hs := fun s hs => sag_w hv (s := s) hs
      clear hv hl a1
      induction l with
      | nil => simp [hOf, sumR]
      | cons s l ih =>
        have h1 := ih fun x hx => hs x (by simp [hx])
        have h2 := hs s (by simp)
        simp [sagB, rgB, inR] at h2
        simp [hOf, sumR] at h1 ⊢; omega
    simp only; omega
  split
  · rename_i h
    simp only [false_iff, reduceCtorEq, Int.reduceEq]
    rintro ⟨h1, h2, h3⟩
    rcases h with h | h
    · omega
    · rw [h3] at h; cases h
  · split
    · rename_i h; simp [h]
    · rename_i h
      simp only [Int.reduceEq, false_iff]
      exact fun hh => h ⟨hh.1, hh.2.1, hh.2.2⟩
end Go.Sh.C3
end
section
namespace Go.Sh.C3
open Go.Sh
variable {P : Program}

end Go.Sh.C3
end
section
namespace Go.Sh.C3
open Go.Sh
set_option maxRecDepth 10000
set_option linter.unusedVariables false
set_option linter.unusedSimpArgs false
variable {P : Program}
/-- An append that leaves all other slices as they were. -/
theorem app_ownA {k bytes : Nat} {x y : V} {H l : List Blk} {rows ys : List (List V)} {K : V → List Blk → Prop} (hx : OwnS H k rows x) (h0 : 0 < k) (hb : bytes ≤ 1000000) (hy : Sh.shown (H ++ l) y = some ys) (hys : ∀ r ∈ ys, r.length = k ∧ r.all V.one = true)
    (hl : rows.length + ys.length ≤ 1000000) (hK : ∀ x' H', OwnS H' k (rows ++ ys) x' → (∀ kv rv v, OwnS H kv rv v → Dis x v → OwnS H' kv rv v ∧ Dis x' v) → K x' H') : appI k bytes x y (H ++ l) K :=
  app_own (hx.app l) h0 hb hy hys hl fun x' H' h1 h2 h3 => hK x' H' h1 fun kv rv v hv hd =>
    ⟨hv.move fun p b c e hp hve => h2.keep p b (get_app hp l) fun k o l c e hxe => hd _ _ _ _ _ _ _ _ _ _ _ hxe hve,
    fun p k o l' c e k' o' l'' c' e' he hve => by
      rcases h3 p k o l' c e he with g | g
      · exact hd _ _ _ _ _ _ _ _ _ _ _ g hve
      · have := hv.lt hve; simp at g; omega⟩
/-- The rows that were laid, the k-th one a slice of one's own. -/
def Rows (bs : List (List Int)) (k n : Nat) (H : List Blk) (v : V) : Prop := ∃ rows, OwnS H 1 rows v ∧ rows.length = n ∧ ((n ≤ k ∧ rows = (bs.take n).map rowC) ∨ (k < n ∧ ∃ u b, bs[k]? = some b ∧ rows = ((bs.take n).map rowC).set k [u] ∧ OwnS H 1 (b.map intC) u ∧ Dis v u))
end Go.Sh.C3
end
section
namespace Go.Sh.C3
open Go.Sh
set_option maxRecDepth 10000
set_option linter.unusedVariables false
set_option linter.unusedSimpArgs false
variable {P : Program}
def ic_potbankref03_Mod : IC := .seq (.reg [⟨some 4, none, .mov (.c (.i .i64 (0)))⟩] [0, 1]) (.seq (.reg [⟨some 5, none, .mov (.t 0)⟩, ⟨some 6, none, .mov (.t 1)⟩, ⟨some 7, none, .bin .rem (.t 5) (.t 6)⟩, ⟨some 8, none, .mov (.t 1)⟩, ⟨some 9, none, .bin .add (.t 7) (.t 8)⟩, ⟨some 10, none, .mov (.t 1)⟩, ⟨some 11, none, .bin .rem (.t 9) (.t 10)⟩, ⟨some 4, none, .mov (.t 11)⟩] [4]) (.ret))
abbrev Low_potbankref03_Mod (P : Program) (f : Nat) : Prop := lowF P f = some (12, [.tmp 4], (ic_potbankref03_Mod).erase)
def ic_potbankref03_Made (f0 : Nat) : IC := .seq (.reg [⟨some 4, none, .mov (.c (.nsl))⟩] [0, 1]) (.seq (.reg [⟨some 5, none, .mov (.c (.nsl))⟩] [0, 1, 5]) (.seq (.seq (.reg [⟨some 6, none, .mov (.c (.i .i64 (0)))⟩] [0, 1, 5, 6]) (.block 0 (.loop (.seq (.seq (.reg [⟨some 11, none, .mov (.t 6)⟩, ⟨some 12, none, .mov (.t 0)⟩, ⟨some 13, none, .len false (.t 12)⟩, ⟨some 14, none, .bin .lss (.t 11) (.t 13)⟩, ⟨some 15, none, .mov (.t 14)⟩, ⟨some 16, some (15, true), .mov (.t 6)⟩, ⟨some 17, some (15, true), .mov (.t 1)⟩, ⟨some 18, some (15, true), .bin .lss (.t 16) (.t 17)⟩, ⟨some 19, none, .pick (.t 15) (.t 18) (.c (.b false))⟩] [0, 1, 5, 6, 19]) (.cond (.t 19) (.skip) (.exit 0))) (.seq (.block 1 (.seq (.reg [⟨some 22, none, .mov (.t 0)⟩, ⟨some 23, none, .mov (.t 6)⟩, ⟨some 24, none, .ixs 7 (.t 22) (.t 23)⟩, ⟨some 25, none, .ld (some 7) (.t 24)⟩, ⟨some 7, none, .alloc [.i .i64 (0), .i .i64 (0), .i .i64 (0), .i .i64 (0), .i .i64 (0), .i .i64 (0), .i .i64 (0)]⟩, ⟨none, none, .st 7 (.t 7) (.t 25)⟩] [0, 1, 5, 6, 7]) (.seq (.reg [⟨some 26, none, .ixa 7 1 (.t 7) (.c (.i .i64 (0)))⟩, ⟨some 27, none, .ld none (.t 26)⟩, ⟨some 28, none, .calv (.c (.fn (.func f0) [] [])) [.t 27, .c (.i .i64 (200))]⟩, ⟨some 8, none, .mov (.t 28)⟩] [0, 1, 5, 6, 7, 8]) (.seq (.reg [⟨some 29, none, .ixa 7 1 (.t 7) (.c (.i .i64 (2)))⟩, ⟨some 30, none, .ld none (.t 29)⟩, ⟨some 31, none, .calv (.c (.fn (.func f0) [] [])) [.t 30, .c (.i .i64 (900))]⟩, ⟨some 9, none, .mov (.t 31)⟩] [0, 1, 5, 6, 7, 8, 9]) (.seq (.reg [⟨some 32, none, .ixa 7 1 (.t 7) (.c (.i .i64 (4)))⟩, ⟨some 33, none, .ld none (.t 32)⟩, ⟨some 34, none, .calv (.c (.fn (.func f0) [] [])) [.t 33, .c (.i .i64 (300))]⟩, ⟨some 35, none, .bin .add (.c (.i .i64 (20))) (.t 34)⟩, ⟨some 10, none, .mov (.t 35)⟩] [0, 1, 5, 6, 7, 8, 9, 10]) (.drg [(0, ⟨some 36, none, .mov (.t 5)⟩), (0, ⟨some 37, none, .mov (.t 6)⟩), (0, ⟨some 38, none, .bin .add (.c (.i .i64 (1))) (.t 37)⟩), (0, ⟨some 39, none, .ixa 7 1 (.t 7) (.c (.i .i64 (6)))⟩), (0, ⟨some 40, none, .ld none (.t 39)⟩), (0, ⟨some 41, none, .calv (.c (.fn (.func f0) [] [])) [.t 40, .c (.i .i64 (20))]⟩), (0, ⟨some 42, none, .bin .mul (.c (.i .i64 (40))) (.t 41)⟩), (0, ⟨some 43, none, .bin .add (.t 38) (.t 42)⟩), (0, ⟨some 44, none, .mov (.t 8)⟩), (0, ⟨some 45, none, .mov (.t 8)⟩), (0, ⟨some 46, none, .ixa 7 1 (.t 7) (.c (.i .i64 (1)))⟩), (0, ⟨some 47, none, .ld none (.t 46)⟩), (0, ⟨some 48, none, .calv (.c (.fn (.func f0) [] [])) [.t 47, .c (.i .i64 (40))]⟩), (0, ⟨some 49, none, .bin .add (.t 45) (.t 48)⟩), (0, ⟨some 50, none, .bld [.i .i64 (0), .i .i64 (0)] [(0, 1, (.t 44)), (1, 1, (.t 49))]⟩), (0, ⟨some 51, none, .mov (.t 9)⟩), (0, ⟨some 52, none, .mov (.t 9)⟩), (0, ⟨some 53, none, .ixa 7 1 (.t 7) (.c (.i .i64 (3)))⟩), (0, ⟨some 54, none, .ld none (.t 53)⟩), (0, ⟨some 55, none, .calv (.c (.fn (.func f0) [] [])) [.t 54, .c (.i .i64 (60))]⟩), (0, ⟨some 56, none, .bin .add (.t 52) (.t 55)⟩), (0, ⟨some 57, none, .bld [.i .i64 (0), .i .i64 (0)] [(0, 1, (.t 51)), (1, 1, (.t 56))]⟩), (0, ⟨some 58, none, .mov (.t 10)⟩), (0, ⟨some 59, none, .mov (.t 10)⟩), (0, ⟨some 60, none, .ixa 7 1 (.t 7) (.c (.i .i64 (5)))⟩), (0, ⟨some 61, none, .ld none (.t 60)⟩), (0, ⟨some 62, none, .calv (.c (.fn (.func f0) [] [])) [.t 61, .c (.i .i64 (12))]⟩), (0, ⟨some 63, none, .bin .add (.t 59) (.t 62)⟩), (0, ⟨some 64, none, .bld [.i .i64 (0), .i .i64 (0)] [(0, 1, (.t 58)), (1, 1, (.t 63))]⟩), (0, ⟨some 65, none, .ixa 7 1 (.t 7) (.c (.i .i64 (6)))⟩), (0, ⟨some 66, none, .ld none (.t 65)⟩), (0, ⟨some 67, none, .calv (.c (.fn (.func f0) [] [])) [.t 66, .c (.i .i64 (25))]⟩), (0, ⟨some 68, none, .bld [.i .i64 (0), .i .i64 (0), .i .i64 (0), .i .i64 (0), .i .i64 (0), .i .i64 (0), .i .i64 (0), .i .i64 (0)] [(0, 1, (.t 43)), (1, 2, (.t 50)), (3, 2, (.t 57)), (5, 2, (.t 64)), (7, 1, (.t 67))]⟩), (1, ⟨some 69, none, .bsl false 8 1 [.i .i64 (0), .i .i64 (0), .i .i64 (0), .i .i64 (0), .i .i64 (0), .i .i64 (0), .i .i64 (0), .i .i64 (0)] [(0, (.t 68))]⟩), (1, ⟨some 70, none, .app 8 64 (.t 36) (.t 69)⟩), (0, ⟨some 5, none, .mov (.t 70)⟩)] 34 [0, 1, 5, 6])))))) (.reg [⟨some 20, none, .mov (.t 6)⟩, ⟨some 21, none, .bin .add (.t 20) (.c (.i .i64 (1)))⟩, ⟨some 6, none, .mov (.t 21)⟩] [0, 1, 5, 6])))))) (.seq (.reg [⟨some 71, none, .mov (.t 5)⟩, ⟨some 4, none, .mov (.t 71)⟩] [4]) (.ret))))
abbrev Low_potbankref03_Made (P : Program) (f f0 : Nat) : Prop := lowF P f = some (72, [.tmp 4], (ic_potbankref03_Made f0).erase)
def ic_potbankref03_Wad (f0 : Nat) : IC := .seq (.reg [⟨some 1, none, .box (.t 0)⟩, ⟨some 2, none, .alloc [.i .i64 (0), .i .i64 (0)]⟩] [1, 2]) (.seq (.reg [⟨some 4, none, .ixa 2 1 (.t 1) (.c (.i .i64 (0)))⟩, ⟨some 5, none, .ld none (.t 4)⟩, ⟨some 6, none, .calv (.c (.fn (.func f0) [] [])) [.t 5, .c (.i .i64 (15))]⟩, ⟨some 3, none, .mov (.t 6)⟩] [1, 2, 3]) (.seq (.reg [⟨some 7, none, .mov (.t 3)⟩, ⟨some 8, none, .mov (.t 3)⟩, ⟨some 9, none, .ixa 2 1 (.t 1) (.c (.i .i64 (1)))⟩, ⟨some 10, none, .ld none (.t 9)⟩, ⟨some 11, none, .calv (.c (.fn (.func f0) [] [])) [.t 10, .c (.i .i64 (10))]⟩, ⟨some 12, none, .bin .add (.t 8) (.t 11)⟩, ⟨some 13, none, .bld [.i .i64 (0), .i .i64 (0)] [(0, 1, (.t 7)), (1, 1, (.t 12))]⟩, ⟨none, none, .st 2 (.t 2) (.t 13)⟩] [2]) (.ret)))
abbrev Low_potbankref03_Wad (P : Program) (f f0 : Nat) : Prop := lowF P f = some (14, [.cell 2 (some 2)], (ic_potbankref03_Wad f0).erase)
def ic_potbankref03_Shuffled (f0 : Nat) : IC := .seq (.reg [⟨some 4, none, .mov (.c (.nsl))⟩] [0, 1]) (.seq (.reg [⟨some 5, none, .mov (.c (.nsl))⟩] [0, 1, 5]) (.seq (.seq (.reg [⟨some 6, none, .mov (.c (.i .i64 (0)))⟩] [0, 1, 5, 6]) (.block 0 (.loop (.seq (.seq (.reg [⟨some 10, none, .mov (.t 6)⟩, ⟨some 11, none, .mov (.t 0)⟩, ⟨some 12, none, .bin .lss (.t 10) (.t 11)⟩] [0, 1, 5, 6, 12]) (.cond (.t 12) (.skip) (.exit 0))) (.seq (.block 1 (.reg [⟨some 15, none, .mov (.t 5)⟩, ⟨some 16, none, .mov (.t 6)⟩, ⟨some 17, none, .bsl false 1 1 [.i .i64 (0)] [(0, (.t 16))]⟩, ⟨some 18, none, .app 1 8 (.t 15) (.t 17)⟩, ⟨some 5, none, .mov (.t 18)⟩] [0, 1, 5, 6])) (.reg [⟨some 13, none, .mov (.t 6)⟩, ⟨some 14, none, .bin .add (.t 13) (.c (.i .i64 (1)))⟩, ⟨some 6, none, .mov (.t 14)⟩] [0, 1, 5, 6])))))) (.seq (.reg [⟨some 7, none, .mov (.c (.nsl))⟩] [0, 1, 5, 7]) (.seq (.seq (.reg [⟨some 8, none, .mov (.c (.i .i64 (0)))⟩] [0, 1, 5, 7, 8]) (.block 2 (.loop (.seq (.seq (.reg [⟨some 19, none, .mov (.t 8)⟩, ⟨some 20, none, .mov (.t 0)⟩, ⟨some 21, none, .bin .lss (.t 19) (.t 20)⟩] [0, 1, 5, 7, 8, 21]) (.cond (.t 21) (.skip) (.exit 2))) (.seq (.block 3 (.seq (.reg [⟨some 9, none, .mov (.c (.i .i64 (0)))⟩] [0, 1, 5, 7, 8, 9]) (.seq (.seq (.reg [⟨some 24, none, .mov (.t 1)⟩, ⟨some 25, none, .len false (.t 24)⟩, ⟨some 26, none, .bin .gtr (.t 25) (.c (.i .i64 (0)))⟩] [0, 1, 5, 7, 8, 9, 26]) (.cond (.t 26) (.reg [⟨some 27, none, .mov (.t 1)⟩, ⟨some 28, none, .mov (.t 8)⟩, ⟨some 29, none, .mov (.t 1)⟩, ⟨some 30, none, .len false (.t 29)⟩, ⟨some 31, none, .bin .rem (.t 28) (.t 30)⟩, ⟨some 32, none, .ixs 1 (.t 27) (.t 31)⟩, ⟨some 33, none, .ld none (.t 32)⟩, ⟨some 34, none, .mov (.t 5)⟩, ⟨some 35, none, .len false (.t 34)⟩, ⟨some 36, none, .calv (.c (.fn (.func f0) [] [])) [.t 33, .t 35]⟩, ⟨some 9, none, .mov (.t 36)⟩] [0, 1, 5, 7, 8, 9]) (.skip))) (.seq (.reg [⟨some 37, none, .mov (.t 7)⟩, ⟨some 38, none, .mov (.t 5)⟩, ⟨some 39, none, .mov (.t 9)⟩, ⟨some 40, none, .ixs 1 (.t 38) (.t 39)⟩, ⟨some 41, none, .ld none (.t 40)⟩, ⟨some 42, none, .bsl false 1 1 [.i .i64 (0)] [(0, (.t 41))]⟩, ⟨some 43, none, .app 1 8 (.t 37) (.t 42)⟩, ⟨some 7, none, .mov (.t 43)⟩] [0, 1, 5, 7, 8, 9]) (.drg [(1, ⟨some 44, none, .bsl false 1 0 [.i .i64 (0)] []⟩), (0, ⟨some 45, none, .mov (.t 5)⟩), (0, ⟨some 46, none, .mov (.t 9)⟩), (0, ⟨some 47, none, .slc 1 (.t 45) none (some (.t 46)) none⟩), (1, ⟨some 48, none, .app 1 8 (.t 44) (.t 47)⟩), (0, ⟨some 49, none, .mov (.t 5)⟩), (0, ⟨some 50, none, .mov (.t 9)⟩), (0, ⟨some 51, none, .bin .add (.t 50) (.c (.i .i64 (1)))⟩), (0, ⟨some 52, none, .slc 1 (.t 49) (some (.t 51)) none none⟩), (1, ⟨some 53, none, .app 1 8 (.t 48) (.t 52)⟩), (0, ⟨some 5, none, .mov (.t 53)⟩)] 9 [0, 1, 5, 7, 8]))))) (.reg [⟨some 22, none, .mov (.t 8)⟩, ⟨some 23, none, .bin .add (.t 22) (.c (.i .i64 (1)))⟩, ⟨some 8, none, .mov (.t 23)⟩] [0, 1, 5, 7, 8])))))) (.seq (.reg [⟨some 54, none, .mov (.t 7)⟩, ⟨some 4, none, .mov (.t 54)⟩] [4]) (.ret))))))
abbrev Low_potbankref03_Shuffled (P : Program) (f f0 : Nat) : Prop := lowF P f = some (55, [.tmp 4], (ic_potbankref03_Shuffled f0).erase)
def ic_potbanklaw03_stack (f0 f1 f2 : Nat) : IC := .seq (.reg [⟨some 5, none, .box (.t 2)⟩, ⟨some 6, none, .alloc [.i .i64 (0), .i .i64 (0), .nsl]⟩] [0, 1, 5, 6]) (.seq (.reg [⟨some 11, none, .mov (.t 0)⟩, ⟨some 12, none, .calv (.c (.fn (.func f0) [] [])) [.t 11, .c (.i .i64 (12))]⟩, ⟨some 7, none, .mov (.t 12)⟩] [1, 5, 6, 7]) (.seq (.seq (.reg [⟨some 13, none, .mov (.t 7)⟩, ⟨some 14, none, .len false (.t 13)⟩, ⟨some 15, none, .bin .eql (.t 14) (.c (.i .i64 (0)))⟩] [1, 5, 6, 7, 15]) (.cond (.t 15) (.reg [⟨some 16, none, .bld [.i .i64 (0), .i .i64 (0), .i .i64 (0), .i .i64 (0), .i .i64 (0), .i .i64 (0), .i .i64 (0)] []⟩, ⟨some 17, none, .bsl false 7 1 [.i .i64 (0), .i .i64 (0), .i .i64 (0), .i .i64 (0), .i .i64 (0), .i .i64 (0), .i .i64 (0)] [(0, (.t 16))]⟩, ⟨some 18, none, .calv (.c (.fn (.func f0) [] [])) [.t 17, .c (.i .i64 (1))]⟩, ⟨some 7, none, .mov (.t 18)⟩] [1, 5, 6, 7]) (.skip))) (.seq (.reg [⟨some 19, none, .ld (some 2) (.t 5)⟩, ⟨some 20, none, .calv (.c (.fn (.func f1) [] [])) [.t 19]⟩, ⟨some 21, none, .bld [.i .i64 (0), .i .i64 (0), .nsl] [(0, 2, (.t 20))]⟩, ⟨some 8, none, .alloc [.i .i64 (0), .i .i64 (0), .nsl]⟩, ⟨none, none, .st 3 (.t 8) (.t 21)⟩] [1, 6, 7, 8]) (.seq (.reg [⟨some 22, none, .mov (.t 7)⟩, ⟨some 23, none, .len false (.t 22)⟩, ⟨some 24, none, .mov (.t 1)⟩, ⟨some 25, none, .calv (.c (.fn (.func f2) [] [])) [.t 23, .t 24]⟩, ⟨some 9, none, .mov (.t 25)⟩] [6, 7, 8, 9]) (.seq (.seq (.reg [⟨some 10, none, .mov (.c (.i .i64 (0)))⟩] [6, 7, 8, 9, 10]) (.block 0 (.loop (.seq (.seq (.reg [⟨some 26, none, .mov (.t 10)⟩, ⟨some 27, none, .mov (.t 9)⟩, ⟨some 28, none, .len false (.t 27)⟩, ⟨some 29, none, .bin .lss (.t 26) (.t 28)⟩] [6, 7, 8, 9, 10, 29]) (.cond (.t 29) (.skip) (.exit 0))) (.seq (.block 1 (.drg [(0, ⟨some 32, none, .fad 2 (.t 8)⟩), (0, ⟨some 33, none, .ld none (.t 32)⟩), (0, ⟨some 34, none, .mov (.t 7)⟩), (0, ⟨some 35, none, .mov (.t 9)⟩), (0, ⟨some 36, none, .mov (.t 10)⟩), (0, ⟨some 37, none, .ixs 1 (.t 35) (.t 36)⟩), (0, ⟨some 38, none, .ld none (.t 37)⟩), (0, ⟨some 39, none, .ixs 8 (.t 34) (.t 38)⟩), (0, ⟨some 40, none, .ld (some 8) (.t 39)⟩), (1, ⟨some 41, none, .bsl false 8 1 [.i .i64 (0), .i .i64 (0), .i .i64 (0), .i .i64 (0), .i .i64 (0), .i .i64 (0), .i .i64 (0), .i .i64 (0)] [(0, (.t 40))]⟩), (1, ⟨some 42, none, .app 8 64 (.t 33) (.t 41)⟩), (0, ⟨some 43, none, .fad 2 (.t 8)⟩), (1, ⟨none, none, .st 1 (.t 43) (.t 42)⟩)] 10 [6, 7, 8, 9, 10])) (.reg [⟨some 30, none, .mov (.t 10)⟩, ⟨some 31, none, .bin .add (.t 30) (.c (.i .i64 (1)))⟩, ⟨some 10, none, .mov (.t 31)⟩] [6, 7, 8, 9, 10])))))) (.seq (.reg [⟨some 44, none, .ld (some 3) (.t 8)⟩, ⟨none, none, .st 3 (.t 6) (.t 44)⟩] [6]) (.ret)))))))
abbrev Low_potbanklaw03_stack (P : Program) (f f0 f1 f2 : Nat) : Prop := lowF P f = some (45, [.cell 6 (some 3)], (ic_potbanklaw03_stack f0 f1 f2).erase)

theorem tn0 : Int.toNat 0 * 1 = 0 := rfl
theorem tl0 : ((0 : Int) < ((7 : Nat) : Int)) = True := by decide
theorem tn1 : Int.toNat 1 * 1 = 1 := rfl
theorem tl1 : ((1 : Int) < ((7 : Nat) : Int)) = True := by decide
theorem tn2 : Int.toNat 2 * 1 = 2 := rfl
theorem tl2 : ((2 : Int) < ((7 : Nat) : Int)) = True := by decide
theorem tn3 : Int.toNat 3 * 1 = 3 := rfl
theorem tl3 : ((3 : Int) < ((7 : Nat) : Int)) = True := by decide
theorem tn4 : Int.toNat 4 * 1 = 4 := rfl
theorem tl4 : ((4 : Int) < ((7 : Nat) : Int)) = True := by decide
theorem tn5 : Int.toNat 5 * 1 = 5 := rfl
theorem tl5 : ((5 : Int) < ((7 : Nat) : Int)) = True := by decide
theorem tn6 : Int.toNat 6 * 1 = 6 := rfl
theorem tl6 : ((6 : Int) < ((7 : Nat) : Int)) = True := by decide
theorem tw0 : ((0 : Int) < ((2 : Nat) : Int)) = True := by decide
theorem tw1 : ((1 : Int) < ((2 : Nat) : Int)) = True := by decide
theorem mod_eq {n m : Int} (hm : 0 < m) : (n.tmod m + m).tmod m = n % m := by
  have h1 : -m < n.tmod m := by have := Int.lt_tmod_of_pos n hm; omega
  have h3 : n.tmod m < m := Int.tmod_lt_of_pos n hm
  rw [Int.tmod_eq_emod_of_nonneg (by omega), Int.add_emod_right]
  have h4 : n.tmod m = n - m * n.tdiv m := by have := Int.mul_tdiv_add_tmod n m; omega
  rw [h4, Int.sub_mul_emod_self_left]
def C_Mod (P : Program) (f : Nat) : Prop := ∀ n m : Int, 0 < m → m ≤ 1000000000 → Snd P f [.i .i64 n, .i .i64 m] [] (.i .i64 (n % m)) []
theorem ok_Mod (hm : P.follows .mixedOrders = true) {f : Nat} (low : Low_potbankref03_Mod P f) : C_Mod P f := by
  intro n m h0 h1
  have h3 : n.tmod m < m := Int.tmod_lt_of_pos n h0
  have h2 : -m < n.tmod m := by have := Int.lt_tmod_of_pos n h0; omega
  have hw : IntKind.i64.wrap (n.tmod m + m) = n.tmod m + m := wrap_id (by omega) (by omega)
  have hme := mod_eq (n := n) h0
  have hz : ∀ x : V, (if m = 0 then none else some x) = some x := fun x => if_neg (by omega)
  refine snd_ic hm low (by simp) ?_
  unfold ic_potbankref03_Mod
  simp -dsimp -implicitDefEqProofs only [qq, Nat.reduceBEq, reduceIte, Nat.reduceAdd, Nat.reduceSub, Nat.reduceLeDiff, Nat.reduceLT, Nat.reduceMul, Nat.reduceEqDiff, Int.reduceEq, Int.reduceBEq, Int.reduceBNe, Int.reduceLT, Int.reduceLE, Int.reduceGT, Int.reduceGE, Int.reduceNeg, Int.reduceAdd, Int.reduceSub, reduceCtorEq, List.reduceReplicate, ← List.map_take, ← List.map_drop]
  simp -dsimp -implicitDefEqProofs only [hz, hw, hme, qq, Nat.reduceBEq, reduceIte, Nat.reduceAdd, Nat.reduceSub, Nat.reduceLeDiff, Nat.reduceLT, Nat.reduceMul, Nat.reduceEqDiff, Int.reduceEq, Int.reduceBEq, Int.reduceBNe, Int.reduceLT, Int.reduceLE, Int.reduceGT, Int.reduceGE, Int.reduceNeg, Int.reduceAdd, Int.reduceSub, reduceCtorEq, List.reduceReplicate, ← List.map_take, ← List.map_drop]
  exact Ends.plain rfl rfl rfl
theorem mod_pos {n m : Int} (h : 0 < m) : 0 ≤ n % m ∧ n % m < m := ⟨Int.emod_nonneg _ (by omega), Int.emod_lt_of_pos _ h⟩
abbrev wadS (a b : Int) : Rg := ⟨a % 15, a % 15 + b % 10⟩
def C_Wad (P : Program) (f : Nat) : Prop := ∀ a b : Int, Snd P f [.agg [.i .i64 a, .i .i64 b]] [] (.agg (wadS a b).c) []
theorem ok_Wad (hm : P.follows .mixedOrders = true) {f f0 : Nat} (low : Low_potbankref03_Wad P f f0) (h0 : C_Mod P f0) : C_Wad P f := by
  intro a b
  have h1 := mod_pos (n := a) (m := 15) (by decide)
  have h2 := mod_pos (n := b) (m := 10) (by decide)
  have w1 : IntKind.i64.wrap (a % 15 + b % 10) = a % 15 + b % 10 := wrap_id (by omega) (by omega)
  refine snd_ic hm low (by simp) ?_
  unfold ic_potbankref03_Wad
  simp -dsimp -implicitDefEqProofs only [qq, Nat.reduceBEq, reduceIte, Nat.reduceAdd, Nat.reduceSub, Nat.reduceLeDiff, Nat.reduceLT, Nat.reduceMul, Nat.reduceEqDiff, Int.reduceEq, Int.reduceBEq, Int.reduceBNe, Int.reduceLT, Int.reduceLE, Int.reduceGT, Int.reduceGE, Int.reduceNeg, Int.reduceAdd, Int.reduceSub, reduceCtorEq, List.reduceReplicate, ← List.map_take, ← List.map_drop]
  simp -dsimp -implicitDefEqProofs only [tn0, tn1, tw0, tw1, qq, Nat.reduceBEq, reduceIte, Nat.reduceAdd, Nat.reduceSub, Nat.reduceLeDiff, Nat.reduceLT, Nat.reduceMul, Nat.reduceEqDiff, Int.reduceEq, Int.reduceBEq, Int.reduceBNe, Int.reduceLT, Int.reduceLE, Int.reduceGT, Int.reduceGE, Int.reduceNeg, Int.reduceAdd, Int.reduceSub, reduceCtorEq, List.reduceReplicate, ← List.map_take, ← List.map_drop]
  refine callI_pure (h0 a 15 (by decide) (by decide)) rfl rfl ?_
  simp -dsimp -implicitDefEqProofs only [tn0, tn1, tw0, tw1, qq, Nat.reduceBEq, reduceIte, Nat.reduceAdd, Nat.reduceSub, Nat.reduceLeDiff, Nat.reduceLT, Nat.reduceMul, Nat.reduceEqDiff, Int.reduceEq, Int.reduceBEq, Int.reduceBNe, Int.reduceLT, Int.reduceLE, Int.reduceGT, Int.reduceGE, Int.reduceNeg, Int.reduceAdd, Int.reduceSub, reduceCtorEq, List.reduceReplicate, ← List.map_take, ← List.map_drop]
  refine callI_pure (h0 b 10 (by decide) (by decide)) rfl rfl ?_
  simp -dsimp -implicitDefEqProofs only [w1, qq, Nat.reduceBEq, reduceIte, Nat.reduceAdd, Nat.reduceSub, Nat.reduceLeDiff, Nat.reduceLT, Nat.reduceMul, Nat.reduceEqDiff, Int.reduceEq, Int.reduceBEq, Int.reduceBNe, Int.reduceLT, Int.reduceLE, Int.reduceGT, Int.reduceGE, Int.reduceNeg, Int.reduceAdd, Int.reduceSub, reduceCtorEq, List.reduceReplicate, ← List.map_take, ← List.map_drop]
  exact Ends.plain rfl rfl rfl
/-- A saggar's numbers. -/
structure Raw where
  a : Int
  b : Int
  c : Int
  d : Int
  e : Int
  g : Int
  h : Int
abbrev Raw.C (r : Raw) : List V := [.i .i64 r.a, .i .i64 r.b, .i .i64 r.c, .i .i64 r.d, .i .i64 r.e, .i .i64 r.g, .i .i64 r.h]
def madeF (i : Nat) (r : Raw) : Sag := ⟨1 + i + 40 * (r.h % 20), ⟨r.a % 200, r.a % 200 + r.b % 40⟩, ⟨r.c % 900, r.c % 900 + r.d % 60⟩, ⟨20 + r.e % 300, 20 + r.e % 300 + r.g % 12⟩, r.h % 25⟩
def madeS : Nat → List Raw → List Sag
  | _, [] => []
  | i, r :: l => madeF i r :: madeS (i + 1) l
theorem madeS_snoc (x : Raw) : ∀ (i : Nat) (l : List Raw), madeS i (l ++ [x]) = madeS i l ++ [madeF (i + l.length) x]
  | i, [] => rfl
  | i, r :: l => by
    rw [List.cons_append, madeS, madeS, madeS_snoc x (i + 1) l, List.cons_append, List.length_cons, show i + 1 + l.length = i + (l.length + 1) by omega]
theorem madeS_length : ∀ (i : Nat) (l : List Raw), (madeS i l).length = l.length
  | _, [] => rfl
  | i, r :: l => by rw [madeS, List.length_cons, madeS_length, List.length_cons]
def C_Made (P : Program) (f : Nat) : Prop := ∀ (l : List Raw) (most : Nat), most ≤ 12 → Snd P f [.fsl (l.map Raw.C), .i .i64 most] [] (.fsl ((madeS 0 (l.take most)).map Sag.c)) []
set_option maxHeartbeats 2000000 in
theorem ok_Made (hm : P.follows .mixedOrders = true) {f f0 : Nat} (low : Low_potbankref03_Made P f f0) (h0 : C_Mod P f0) : C_Made P f := by
  intro l most hmost
  have end_ : ∀ (k : Nat) (H : List Blk) (v : V), (l.length ≤ k ∨ most ≤ k) → k ≤ most → OwnS H 8 ((madeS 0 (l.take k)).map Sag.c) v → Ends [.tmp 4] [] (.fsl ((madeS 0 (l.take most)).map Sag.c)) [] .ret [(4, v)] H := fun k H v hk hkm ho => by
    have : l.take most = l.take k := by
      rcases hk with hk | hk
      · rw [List.take_of_length_le (by omega), List.take_of_length_le hk]
      · rw [show most = k by omega]
    rw [this]
    exact Ends.ret rfl (ho.frz (by intro r hr; obtain ⟨x, _, rfl⟩ := List.mem_map.1 hr; rfl))
  refine snd_ic hm low (by simp) ?_
  unfold ic_potbankref03_Made
  simp -dsimp -implicitDefEqProofs only [qq, Nat.reduceBEq, reduceIte, Nat.reduceAdd, Nat.reduceSub, Nat.reduceLeDiff, Nat.reduceLT, Nat.reduceMul, Nat.reduceEqDiff, Int.reduceEq, Int.reduceBEq, Int.reduceBNe, Int.reduceLT, Int.reduceLE, Int.reduceGT, Int.reduceGE, Int.reduceNeg, Int.reduceAdd, Int.reduceSub, reduceCtorEq, List.reduceReplicate, ← List.map_take, ← List.map_drop]
  refine loopI_st (fun k : Nat => most - k) (fun k E H => k ≤ most ∧ ∃ v, E = [(0, .fsl (l.map Raw.C)), (1, .i .i64 most), (5, v), (6, .i .i64 k)] ∧ k ≤ l.length ∧ OwnS H 8 ((madeS 0 (l.take k)).map Sag.c) v) 0 ⟨by omega, _, rfl, by omega, .nil _ _⟩ ?_
  rintro k _ H ⟨hk, v, rfl, hkl, ho⟩
  rcases Nat.lt_or_ge k l.length with hkl | hkl
  · have hc : decide ((k : Int) < (l.length : Int)) = true := decide_eq_true (by omega)
    rcases Nat.lt_or_ge k most with hkm | hkm
    · have hc2 : decide ((k : Int) < (most : Int)) = true := decide_eq_true (by omega)
      have hwk : IntKind.i64.wrap ((k : Int) + 1) = ((k + 1 : Nat) : Int) := wrap_succ (by omega)
      obtain ⟨x, hx, _, htk, _⟩ := next_of hkl
      have h200 := mod_pos (n := x.a) (m := 200) (by decide)
      have h40 := mod_pos (n := x.b) (m := 40) (by decide)
      have h900 := mod_pos (n := x.c) (m := 900) (by decide)
      have h60 := mod_pos (n := x.d) (m := 60) (by decide)
      have h300 := mod_pos (n := x.e) (m := 300) (by decide)
      have h12 := mod_pos (n := x.g) (m := 12) (by decide)
      have h20 := mod_pos (n := x.h) (m := 20) (by decide)
      have h25 := mod_pos (n := x.h) (m := 25) (by decide)
      have w1 : IntKind.i64.wrap (20 + x.e % 300) = 20 + x.e % 300 := wrap_id (by omega) (by omega)
      have w2 : IntKind.i64.wrap (1 + (k : Int)) = 1 + (k : Int) := wrap_id (by omega) (by omega)
      have w3 : IntKind.i64.wrap (40 * (x.h % 20)) = 40 * (x.h % 20) := wrap_id (by omega) (by omega)
      have w4 : IntKind.i64.wrap (1 + (k : Int) + 40 * (x.h % 20)) = 1 + (k : Int) + 40 * (x.h % 20) := wrap_id (by omega) (by omega)
      have w5 : IntKind.i64.wrap (x.a % 200 + x.b % 40) = x.a % 200 + x.b % 40 := wrap_id (by omega) (by omega)
      have w6 : IntKind.i64.wrap (x.c % 900 + x.d % 60) = x.c % 900 + x.d % 60 := wrap_id (by omega) (by omega)
      have w7 : IntKind.i64.wrap (20 + x.e % 300 + x.g % 12) = 20 + x.e % 300 + x.g % 12 := wrap_id (by omega) (by omega)
      have hlen : ((madeS 0 (l.take k)).map Sag.c).length = k := by rw [List.length_map, madeS_length, List.length_take]; omega
      have hnew : (madeS 0 (l.take (k + 1))).map Sag.c = (madeS 0 (l.take k)).map Sag.c ++ [(madeF k x).c] := by
        rw [htk, madeS_snoc, List.map_append, Nat.zero_add, List.length_take, Nat.min_eq_left (by omega)]; rfl
      simp -dsimp -implicitDefEqProofs only [hc, hc2, hx, Raw.C, tn0, tn1, tn2, tn3, tn4, tn5, tn6, tl0, tl1, tl2, tl3, tl4, tl5, tl6, qq, Nat.reduceBEq, reduceIte, Nat.reduceAdd, Nat.reduceSub, Nat.reduceLeDiff, Nat.reduceLT, Nat.reduceMul, Nat.reduceEqDiff, Int.reduceEq, Int.reduceBEq, Int.reduceBNe, Int.reduceLT, Int.reduceLE, Int.reduceGT, Int.reduceGE, Int.reduceNeg, Int.reduceAdd, Int.reduceSub, reduceCtorEq, List.reduceReplicate, ← List.map_take, ← List.map_drop]
      refine callI_pure (h0 x.a 200 (by decide) (by decide)) rfl rfl ?_
      simp -dsimp -implicitDefEqProofs only [Raw.C, tn0, tn1, tn2, tn3, tn4, tn5, tn6, tl0, tl1, tl2, tl3, tl4, tl5, tl6, qq, Nat.reduceBEq, reduceIte, Nat.reduceAdd, Nat.reduceSub, Nat.reduceLeDiff, Nat.reduceLT, Nat.reduceMul, Nat.reduceEqDiff, Int.reduceEq, Int.reduceBEq, Int.reduceBNe, Int.reduceLT, Int.reduceLE, Int.reduceGT, Int.reduceGE, Int.reduceNeg, Int.reduceAdd, Int.reduceSub, reduceCtorEq, List.reduceReplicate, ← List.map_take, ← List.map_drop]
      refine callI_pure (h0 x.c 900 (by decide) (by decide)) rfl rfl ?_
      simp -dsimp -implicitDefEqProofs only [Raw.C, tn0, tn1, tn2, tn3, tn4, tn5, tn6, tl0, tl1, tl2, tl3, tl4, tl5, tl6, qq, Nat.reduceBEq, reduceIte, Nat.reduceAdd, Nat.reduceSub, Nat.reduceLeDiff, Nat.reduceLT, Nat.reduceMul, Nat.reduceEqDiff, Int.reduceEq, Int.reduceBEq, Int.reduceBNe, Int.reduceLT, Int.reduceLE, Int.reduceGT, Int.reduceGE, Int.reduceNeg, Int.reduceAdd, Int.reduceSub, reduceCtorEq, List.reduceReplicate, ← List.map_take, ← List.map_drop]
      refine callI_pure (h0 x.e 300 (by decide) (by decide)) rfl rfl ?_
      simp -dsimp -implicitDefEqProofs only [Raw.C, w1, tn0, tn1, tn2, tn3, tn4, tn5, tn6, tl0, tl1, tl2, tl3, tl4, tl5, tl6, qq, Nat.reduceBEq, reduceIte, Nat.reduceAdd, Nat.reduceSub, Nat.reduceLeDiff, Nat.reduceLT, Nat.reduceMul, Nat.reduceEqDiff, Int.reduceEq, Int.reduceBEq, Int.reduceBNe, Int.reduceLT, Int.reduceLE, Int.reduceGT, Int.reduceGE, Int.reduceNeg, Int.reduceAdd, Int.reduceSub, reduceCtorEq, List.reduceReplicate, ← List.map_take, ← List.map_drop]
      refine callI_pure (h0 x.h 20 (by decide) (by decide)) rfl rfl ?_
      simp -dsimp -implicitDefEqProofs only [Raw.C, w1, w2, w3, w4, w5, w6, w7, tn0, tn1, tn2, tn3, tn4, tn5, tn6, tl0, tl1, tl2, tl3, tl4, tl5, tl6, qq, Nat.reduceBEq, reduceIte, Nat.reduceAdd, Nat.reduceSub, Nat.reduceLeDiff, Nat.reduceLT, Nat.reduceMul, Nat.reduceEqDiff, Int.reduceEq, Int.reduceBEq, Int.reduceBNe, Int.reduceLT, Int.reduceLE, Int.reduceGT, Int.reduceGE, Int.reduceNeg, Int.reduceAdd, Int.reduceSub, reduceCtorEq, List.reduceReplicate, ← List.map_take, ← List.map_drop]
      refine callI_pure (h0 x.b 40 (by decide) (by decide)) rfl rfl ?_
      simp -dsimp -implicitDefEqProofs only [Raw.C, w1, w2, w3, w4, w5, w6, w7, tn0, tn1, tn2, tn3, tn4, tn5, tn6, tl0, tl1, tl2, tl3, tl4, tl5, tl6, qq, Nat.reduceBEq, reduceIte, Nat.reduceAdd, Nat.reduceSub, Nat.reduceLeDiff, Nat.reduceLT, Nat.reduceMul, Nat.reduceEqDiff, Int.reduceEq, Int.reduceBEq, Int.reduceBNe, Int.reduceLT, Int.reduceLE, Int.reduceGT, Int.reduceGE, Int.reduceNeg, Int.reduceAdd, Int.reduceSub, reduceCtorEq, List.reduceReplicate, ← List.map_take, ← List.map_drop]
      refine callI_pure (h0 x.d 60 (by decide) (by decide)) rfl rfl ?_
      simp -dsimp -implicitDefEqProofs only [Raw.C, w1, w2, w3, w4, w5, w6, w7, tn0, tn1, tn2, tn3, tn4, tn5, tn6, tl0, tl1, tl2, tl3, tl4, tl5, tl6, qq, Nat.reduceBEq, reduceIte, Nat.reduceAdd, Nat.reduceSub, Nat.reduceLeDiff, Nat.reduceLT, Nat.reduceMul, Nat.reduceEqDiff, Int.reduceEq, Int.reduceBEq, Int.reduceBNe, Int.reduceLT, Int.reduceLE, Int.reduceGT, Int.reduceGE, Int.reduceNeg, Int.reduceAdd, Int.reduceSub, reduceCtorEq, List.reduceReplicate, ← List.map_take, ← List.map_drop]
      refine callI_pure (h0 x.g 12 (by decide) (by decide)) rfl rfl ?_
      simp -dsimp -implicitDefEqProofs only [Raw.C, w1, w2, w3, w4, w5, w6, w7, tn0, tn1, tn2, tn3, tn4, tn5, tn6, tl0, tl1, tl2, tl3, tl4, tl5, tl6, qq, Nat.reduceBEq, reduceIte, Nat.reduceAdd, Nat.reduceSub, Nat.reduceLeDiff, Nat.reduceLT, Nat.reduceMul, Nat.reduceEqDiff, Int.reduceEq, Int.reduceBEq, Int.reduceBNe, Int.reduceLT, Int.reduceLE, Int.reduceGT, Int.reduceGE, Int.reduceNeg, Int.reduceAdd, Int.reduceSub, reduceCtorEq, List.reduceReplicate, ← List.map_take, ← List.map_drop]
      refine callI_pure (h0 x.h 25 (by decide) (by decide)) rfl rfl ?_
      simp -dsimp -implicitDefEqProofs only [Raw.C, w1, w2, w3, w4, w5, w6, w7, tn0, tn1, tn2, tn3, tn4, tn5, tn6, tl0, tl1, tl2, tl3, tl4, tl5, tl6, qq, Nat.reduceBEq, reduceIte, Nat.reduceAdd, Nat.reduceSub, Nat.reduceLeDiff, Nat.reduceLT, Nat.reduceMul, Nat.reduceEqDiff, Int.reduceEq, Int.reduceBEq, Int.reduceBNe, Int.reduceLT, Int.reduceLE, Int.reduceGT, Int.reduceGE, Int.reduceNeg, Int.reduceAdd, Int.reduceSub, reduceCtorEq, List.reduceReplicate, ← List.map_take, ← List.map_drop]
      refine app_ownA (ys := [(madeF k x).c]) ho (by decide) (by decide) (by simp [Sh.shown, List.getElem?_append_right, madeF]) (by simp [V.one]) (by rw [hlen]; simp; omega) fun v' H' hv' _ => ?_
      simp -dsimp -implicitDefEqProofs only [hwk, qq, Nat.reduceBEq, reduceIte, Nat.reduceAdd, Nat.reduceSub, Nat.reduceLeDiff, Nat.reduceLT, Nat.reduceMul, Nat.reduceEqDiff, Int.reduceEq, Int.reduceBEq, Int.reduceBNe, Int.reduceLT, Int.reduceLE, Int.reduceGT, Int.reduceGE, Int.reduceNeg, Int.reduceAdd, Int.reduceSub, reduceCtorEq, List.reduceReplicate, ← List.map_take, ← List.map_drop]
      exact ⟨k + 1, by omega, by omega, v', rfl, by omega, by rw [hnew]; exact hv'⟩
    · have hc2 : decide ((k : Int) < (most : Int)) = false := decide_eq_false (by omega)
      simp -dsimp -implicitDefEqProofs only [hc, hc2, qq, Nat.reduceBEq, reduceIte, Nat.reduceAdd, Nat.reduceSub, Nat.reduceLeDiff, Nat.reduceLT, Nat.reduceMul, Nat.reduceEqDiff, Int.reduceEq, Int.reduceBEq, Int.reduceBNe, Int.reduceLT, Int.reduceLE, Int.reduceGT, Int.reduceGE, Int.reduceNeg, Int.reduceAdd, Int.reduceSub, reduceCtorEq, List.reduceReplicate, ← List.map_take, ← List.map_drop]
      exact end_ k _ _ (.inr hkm) hk ho
  · have hc : decide ((k : Int) < (l.length : Int)) = false := decide_eq_false (by omega)
    simp -dsimp -implicitDefEqProofs only [hc, qq, Nat.reduceBEq, reduceIte, Nat.reduceAdd, Nat.reduceSub, Nat.reduceLeDiff, Nat.reduceLT, Nat.reduceMul, Nat.reduceEqDiff, Int.reduceEq, Int.reduceBEq, Int.reduceBNe, Int.reduceLT, Int.reduceLE, Int.reduceGT, Int.reduceGE, Int.reduceNeg, Int.reduceAdd, Int.reduceSub, reduceCtorEq, List.reduceReplicate, ← List.map_take, ← List.map_drop]
    exact end_ k _ _ (.inl hkl) hk ho

theorem madeF_ok {i : Nat} (hi : i < 40) (r : Raw) : sagB (madeF i r) = true := by
  have h200 := mod_pos (n := r.a) (m := 200) (by decide)
  have h40 := mod_pos (n := r.b) (m := 40) (by decide)
  have h900 := mod_pos (n := r.c) (m := 900) (by decide)
  have h60 := mod_pos (n := r.d) (m := 60) (by decide)
  have h300 := mod_pos (n := r.e) (m := 300) (by decide)
  have h12 := mod_pos (n := r.g) (m := 12) (by decide)
  have h20 := mod_pos (n := r.h) (m := 20) (by decide)
  have h25 := mod_pos (n := r.h) (m := 25) (by decide)
  simp only [sagB, madeF, inR, rgB, Bool.and_eq_true, decide_eq_true_eq]
  repeat' apply And.intro
  all_goals exact decide_eq_true (by omega)
theorem madeS_mem : ∀ {i : Nat} {l : List Raw} {s : Sag}, s ∈ madeS i l → ∃ j r, i ≤ j ∧ j < i + l.length ∧ s = madeF j r
  | _, [], _, h => by simp [madeS] at h
  | i, r :: l, s, h => by
    rw [madeS, List.mem_cons] at h
    rcases h with rfl | h
    · exact ⟨i, r, by omega, by simp, rfl⟩
    · obtain ⟨j, r, h1, h2, rfl⟩ := madeS_mem h
      exact ⟨j, r, by omega, by simp; omega, rfl⟩
theorem madeS_nodup : ∀ (i : Nat) (l : List Raw), i + l.length ≤ 40 → ((madeS i l).map (·.id)).Nodup
  | _, [], _ => by simp [madeS]
  | i, r :: l, h => by
    simp only [List.length_cons] at h
    rw [madeS, List.map_cons, List.nodup_cons]
    refine ⟨fun hm => ?_, madeS_nodup (i + 1) l (by omega)⟩
    obtain ⟨s, hs, he⟩ := List.mem_map.1 hm
    obtain ⟨j, r2, h1, h2, rfl⟩ := madeS_mem hs
    simp only [madeF] at he
    generalize r.h % 20 = u at he
    generalize r2.h % 20 = v at he
    omega
theorem madeS_ok {l : List Raw} (h : l.length ≤ 12) : listB (madeS 0 l) = true := by
  have h1 : ∀ s ∈ madeS 0 l, sagB s = true := fun s hs => by
    obtain ⟨j, r, _, h2, rfl⟩ := madeS_mem hs
    exact madeF_ok (by omega) r
  have h2 := madeS_nodup 0 l (by omega)
  simp only [listB, Bool.and_eq_true, decide_eq_true_eq, List.all_eq_true]
  exact ⟨⟨by rw [madeS_length]; omega, h1⟩, h2⟩
end Go.Sh.C3
end
section
namespace Go.Sh.C3
open Go.Sh
set_option maxRecDepth 10000
set_option linter.unusedVariables false
set_option linter.unusedSimpArgs false
variable {P : Program}

def kS (picks : List Int) (i m : Nat) : Nat := if picks.length = 0 then 0 else (((picks[i % picks.length]?).getD 0) % (m : Int)).toNat
theorem kS_lt {picks : List Int} {i m : Nat} (h : 0 < m) : kS picks i m < m := by
  unfold kS
  split
  · exact h
  · have := mod_pos (n := (picks[i % picks.length]?).getD 0) (m := (m : Int)) (by omega)
    omega
/-- What is left and what came out, after so many rounds. -/
def shufS (picks : List Int) (n : Nat) : Nat → List Int × List Int
  | 0 => (ixS n, [])
  | i + 1 => ((shufS picks n i).1.eraseIdx (kS picks i (shufS picks n i).1.length), (shufS picks n i).2 ++ [((shufS picks n i).1[kS picks i (shufS picks n i).1.length]?).getD 0])
theorem shufS_len {picks : List Int} {n : Nat} : ∀ i, i ≤ n → (shufS picks n i).1.length = n - i
  | 0, _ => by simp [shufS, ixS_length]
  | i + 1, h => by
    have := shufS_len (picks := picks) (n := n) i (by omega)
    have hk := kS_lt (picks := picks) (i := i) (show 0 < (shufS picks n i).1.length by omega)
    rw [shufS, List.length_eraseIdx_of_lt hk]
    omega
theorem shufS_perm {picks : List Int} {n : Nat} : ∀ i, i ≤ n → ((shufS picks n i).2 ++ (shufS picks n i).1).Perm (ixS n)
  | 0, _ => by simp [shufS]
  | i + 1, h => by
    have hl := shufS_len (picks := picks) i (show i ≤ n by omega)
    refine List.Perm.trans ?_ (shufS_perm (picks := picks) i (by omega))
    rw [shufS]
    have hk := kS_lt (picks := picks) (i := i) (show 0 < (shufS picks n i).1.length by omega)
    generalize kS picks i (shufS picks n i).1.length = k at *
    generalize (shufS picks n i).1 = a at *
    obtain ⟨x, hx, _, _, hdr⟩ := next_of hk
    rw [hx, Option.getD_some, List.append_assoc]
    refine List.Perm.append_left _ ?_
    rw [List.eraseIdx_eq_take_drop_succ, List.singleton_append]
    conv => rhs; rw [← List.take_append_drop k a, hdr]
    exact List.perm_middle.symm
def shuffled (picks : List Int) (n : Nat) : List Int := (shufS picks n n).2
theorem shuffled_perm (picks : List Int) (n : Nat) : (shuffled picks n).Perm (ixS n) := by
  have h1 := shufS_perm (picks := picks) n (Nat.le_refl _)
  have h2 := shufS_len (picks := picks) n (Nat.le_refl _)
  rw [Nat.sub_self] at h2
  rw [List.length_eq_zero_iff.1 h2, List.append_nil] at h1
  exact h1
def C_Shuffled (P : Program) (f : Nat) : Prop := ∀ (n : Nat) (picks : List Int), n ≤ 30 → picks.length ≤ 1000000000000000 → Snd P f [.i .i64 n, .fsl (picks.map intC)] [] (.fsl ((shuffled picks n).map intC)) []
set_option maxHeartbeats 2000000 in
theorem ok_Shuffled (hm : P.follows .mixedOrders = true) {f f0 : Nat} (low : Low_potbankref03_Shuffled P f f0) (h0 : C_Mod P f0) : C_Shuffled P f := by
  intro n picks hn hpl
  refine snd_ic hm low (by simp) ?_
  unfold ic_potbankref03_Shuffled
  simp -dsimp -implicitDefEqProofs only [qq, Nat.reduceBEq, reduceIte, Nat.reduceAdd, Nat.reduceSub, Nat.reduceLeDiff, Nat.reduceLT, Nat.reduceMul, Nat.reduceEqDiff, Int.reduceEq, Int.reduceBEq, Int.reduceBNe, Int.reduceLT, Int.reduceLE, Int.reduceGT, Int.reduceGE, Int.reduceNeg, Int.reduceAdd, Int.reduceSub, reduceCtorEq, List.reduceReplicate, ← List.map_take, ← List.map_drop]
  refine loopI_st (fun i : Nat => n - i) (fun i E H => i ≤ n ∧ ∃ v, E = [(0, .i .i64 n), (1, .fsl (picks.map intC)), (5, v), (6, .i .i64 i)] ∧ OwnS H 1 ((ixS i).map intC) v) 0 ⟨by omega, _, rfl, .nil _ _⟩ ?_
  rintro i _ H ⟨hi, v, rfl, ho⟩
  rcases Nat.lt_or_ge i n with hin | hin
  · have hc : decide ((i : Int) < (n : Int)) = true := decide_eq_true (by omega)
    have hwi : IntKind.i64.wrap ((i : Int) + 1) = ((i + 1 : Nat) : Int) := wrap_succ (by omega)
    simp -dsimp -implicitDefEqProofs only [hc, qq, Nat.reduceBEq, reduceIte, Nat.reduceAdd, Nat.reduceSub, Nat.reduceLeDiff, Nat.reduceLT, Nat.reduceMul, Nat.reduceEqDiff, Int.reduceEq, Int.reduceBEq, Int.reduceBNe, Int.reduceLT, Int.reduceLE, Int.reduceGT, Int.reduceGE, Int.reduceNeg, Int.reduceAdd, Int.reduceSub, reduceCtorEq, List.reduceReplicate, ← List.map_take, ← List.map_drop]
    refine app_ownA (ys := [[.i .i64 i]]) ho (by decide) (by decide) (by simp [Sh.shown]) (by simp [V.one]) (by simp [ixS_length]; omega) fun v' H' hv' _ => ?_
    simp -dsimp -implicitDefEqProofs only [hwi, qq, Nat.reduceBEq, reduceIte, Nat.reduceAdd, Nat.reduceSub, Nat.reduceLeDiff, Nat.reduceLT, Nat.reduceMul, Nat.reduceEqDiff, Int.reduceEq, Int.reduceBEq, Int.reduceBNe, Int.reduceLT, Int.reduceLE, Int.reduceGT, Int.reduceGE, Int.reduceNeg, Int.reduceAdd, Int.reduceSub, reduceCtorEq, List.reduceReplicate, ← List.map_take, ← List.map_drop]
    exact ⟨i + 1, by omega, by omega, v', rfl, by rw [ixS_succ, List.map_append]; exact hv'⟩
  obtain rfl : i = n := by omega
  have hc : decide ((i : Int) < (i : Int)) = false := by simp
  simp -dsimp -implicitDefEqProofs only [hc, qq, Nat.reduceBEq, reduceIte, Nat.reduceAdd, Nat.reduceSub, Nat.reduceLeDiff, Nat.reduceLT, Nat.reduceMul, Nat.reduceEqDiff, Int.reduceEq, Int.reduceBEq, Int.reduceBNe, Int.reduceLT, Int.reduceLE, Int.reduceGT, Int.reduceGE, Int.reduceNeg, Int.reduceAdd, Int.reduceSub, reduceCtorEq, List.reduceReplicate, ← List.map_take, ← List.map_drop]
  clear hc hin hi
  refine loopI_st (fun j : Nat => i - j) (fun j E H => j ≤ i ∧ ∃ v u, E = [(0, .i .i64 i), (1, .fsl (picks.map intC)), (5, v), (7, u), (8, .i .i64 j)] ∧ OwnZ H 1 ((shufS picks i j).1.map intC) v ∧ OwnS H 1 ((shufS picks i j).2.map intC) u ∧ Dis u v) 0 ⟨by omega, v, .nsl, rfl, ho.z, .nil _ _, .nil _⟩ ?_
  clear ho v H
  rintro j _ H ⟨hj, v, u, rfl, ho, hu, hd⟩
  have hll := shufS_len (picks := picks) j hj
  have hperm := (shufS_perm (picks := picks) j hj).length_eq
  rw [List.length_append, ixS_length] at hperm
  rcases Nat.lt_or_ge j i with hji | hji
  · have hc : decide ((j : Int) < (i : Int)) = true := decide_eq_true (by omega)
    have hwj : IntKind.i64.wrap ((j : Int) + 1) = ((j + 1 : Nat) : Int) := wrap_succ (by omega)
    have hkl := kS_lt (picks := picks) (i := j) (show 0 < (shufS picks i j).1.length by omega)
    have hnx1 : (shufS picks i (j + 1)).1 = (shufS picks i j).1.eraseIdx (kS picks j (shufS picks i j).1.length) := rfl
    have hnx2 : (shufS picks i (j + 1)).2 = (shufS picks i j).2 ++ [((shufS picks i j).1[kS picks j (shufS picks i j).1.length]?).getD 0] := rfl
    obtain ⟨kk, hkk⟩ : ∃ kk, kk = kS picks j (shufS picks i j).1.length := ⟨_, rfl⟩
    have hkv : picks.length ≠ 0 → (((picks[j % picks.length]?).getD 0) % (((shufS picks i j).1.length : Nat) : Int)) = (kk : Int) := fun h => by
      rw [hkk, kS, if_neg h]
      have := mod_pos (n := (picks[j % picks.length]?).getD 0) (m := (((shufS picks i j).1.length : Nat) : Int)) (by omega)
      omega
    have hk0 : picks.length = 0 → kk = 0 := fun h => by rw [hkk, kS, if_pos h]
    rw [← hkk] at hkl hnx1 hnx2
    generalize (shufS picks i j).1 = a at *
    generalize (shufS picks i j).2 = o at *
    obtain ⟨x, hx, _, _, _⟩ := next_of hkl
    rw [hx, Option.getD_some] at hnx2
    rw [List.eraseIdx_eq_take_drop_succ] at hnx1
    have hos : OwnS H 1 (a.map intC) v := ho.s (by simp; intro e; rw [e] at hkl; simp at hkl)
    obtain ⟨p, c, e, hve, hp⟩ := ho.pos (by simp; intro e; rw [e] at hkl; simp at hkl)
    rw [List.length_map] at hve
    subst hve
    obtain ⟨n2, hn2⟩ : ∃ n2, n2 = a.length := ⟨_, rfl⟩
    rw [← hn2] at hd hos
    rcases Nat.eq_zero_or_pos picks.length with hp0 | hp0
    case' inl =>
      have hgt : decide ((picks.length : Int) > 0) = false := by simp [List.length_eq_zero_iff.1 hp0]
      have hkk0 := hk0 hp0
      subst hkk0
      have hx0 : (a.map intC)[0]? = some (intC x) := by rw [List.getElem?_map, hx]; rfl
      have tz : Int.toNat 0 = 0 := rfl
      simp -dsimp -implicitDefEqProofs only [hc, hgt, hp, tz, hx0, hx, intC, qq, Nat.reduceBEq, reduceIte, Nat.reduceAdd, Nat.reduceSub, Nat.reduceLeDiff, Nat.reduceLT, Nat.reduceMul, Nat.reduceEqDiff, Int.reduceEq, Int.reduceBEq, Int.reduceBNe, Int.reduceLT, Int.reduceLE, Int.reduceGT, Int.reduceGE, Int.reduceNeg, Int.reduceAdd, Int.reduceSub, reduceCtorEq, List.reduceReplicate, ← List.map_take, ← List.map_drop]
      refine ⟨by omega, ?_⟩
      refine app_ownA (ys := [[.i .i64 x]]) hu (by decide) (by decide) (by simp [Sh.shown]) (by simp [V.one]) (by rw [List.length_map]; simp; omega) fun u' H1 hu' hA => ?_
      obtain ⟨hv1, hd1⟩ := hA _ _ _ (hn2 ▸ hos) (hn2 ▸ hd)
      have hp1 : H1[p]? = some (.row 1 (a.map intC)) := by
        obtain ⟨p', c', e', he, hp'⟩ := hv1.pos (by simp; intro e; rw [e] at hkl; simp at hkl)
        rw [List.length_map] at he
        cases he; exact hp'
      have irow : ∀ {r : List V}, r ∈ a.map intC → r.length = 1 ∧ r.all V.one = true := fun hr => by obtain ⟨x, _, rfl⟩ := List.mem_map.1 hr; exact ⟨rfl, rfl⟩
      have hw1 : IntKind.i64.wrap 1 = 1 := by decide
      have tz1 : Int.toNat 1 = 1 := rfl
      simp -dsimp -implicitDefEqProofs only [hw1, hp1, tz, tz1, qq, Nat.reduceBEq, reduceIte, Nat.reduceAdd, Nat.reduceSub, Nat.reduceLeDiff, Nat.reduceLT, Nat.reduceMul, Nat.reduceEqDiff, Int.reduceEq, Int.reduceBEq, Int.reduceBNe, Int.reduceLT, Int.reduceLE, Int.reduceGT, Int.reduceGE, Int.reduceNeg, Int.reduceAdd, Int.reduceSub, reduceCtorEq, List.reduceReplicate, ← List.map_take, ← List.map_drop]
      refine ⟨by simp, by simp, by omega, app_emp (ys := ((a.map intC).drop 0).take 0) (by decide) (by decide) (shown_drop (get_app hp1 _) (by simp)) (fun r hr => by simp at hr) (by simp) fun v1 H2 hn1 => ⟨hn1.z.take, ?_⟩⟩
      have hp2 := hn1.keep _ _ hp1
      simp -dsimp -implicitDefEqProofs only [hw1, hp2, tz, tz1, qq, Nat.reduceBEq, reduceIte, Nat.reduceAdd, Nat.reduceSub, Nat.reduceLeDiff, Nat.reduceLT, Nat.reduceMul, Nat.reduceEqDiff, Int.reduceEq, Int.reduceBEq, Int.reduceBNe, Int.reduceLT, Int.reduceLE, Int.reduceGT, Int.reduceGE, Int.reduceNeg, Int.reduceAdd, Int.reduceSub, reduceCtorEq, List.reduceReplicate, ← List.map_take, ← List.map_drop]
      refine ⟨by omega, by omega, app_newZ (ys := ((a.map intC).drop 1).take (a.length - 1)) hn1.z (by decide) (by decide) (shown_drop hp2 (by simp; omega)) (fun r hr => irow (List.mem_of_mem_drop (List.mem_of_mem_take hr))) (by simp; omega) fun v3 H4 hn3 => ?_⟩
      simp -dsimp -implicitDefEqProofs only [hwj, qq, Nat.reduceBEq, reduceIte, Nat.reduceAdd, Nat.reduceSub, Nat.reduceLeDiff, Nat.reduceLT, Nat.reduceMul, Nat.reduceEqDiff, Int.reduceEq, Int.reduceBEq, Int.reduceBNe, Int.reduceLT, Int.reduceLE, Int.reduceGT, Int.reduceGE, Int.reduceNeg, Int.reduceAdd, Int.reduceSub, reduceCtorEq, List.reduceReplicate, ← List.map_take, ← List.map_drop]
      have e1 : ((a.map intC).drop 1).take (a.length - 1) = (a.map intC).drop 1 := by rw [List.take_of_length_le (by simp)]
      have hv3 := hn3.own
      rw [e1] at hv3
      exact ⟨j + 1, by omega, by omega, v3, u', rfl, by rw [hnx1]; simpa using hv3, by rw [hnx2, List.map_append]; exact hu'.move (fun p b c e hp _ => hn3.keep p b hp), fun p k o l c e k' o' l' c' e' h1 h2 => by have := hu'.lt h1; have := hn3.fresh _ _ _ _ _ _ h2; omega⟩
    case' inr =>
      have hgt : decide ((picks.length : Int) > 0) = true := decide_eq_true (by omega)
      have hz : ∀ x : V, (if (picks.length : Int) = 0 then none else some x) = some x := fun x => if_neg (by omega)
      have ht : (j : Int).tmod (picks.length : Int) = ((j % picks.length : Nat) : Int) := by rw [Int.tmod_eq_emod_of_nonneg (by omega)]; simp
      obtain ⟨y, hy, _, _, _⟩ := next_of (Nat.mod_lt j hp0)
      have hkv' := hkv (by omega)
      rw [hy, Option.getD_some] at hkv'
      simp -dsimp -implicitDefEqProofs only [hc, hgt, hz, ht, hy, intC, qq, Nat.reduceBEq, reduceIte, Nat.reduceAdd, Nat.reduceSub, Nat.reduceLeDiff, Nat.reduceLT, Nat.reduceMul, Nat.reduceEqDiff, Int.reduceEq, Int.reduceBEq, Int.reduceBNe, Int.reduceLT, Int.reduceLE, Int.reduceGT, Int.reduceGE, Int.reduceNeg, Int.reduceAdd, Int.reduceSub, reduceCtorEq, List.reduceReplicate, ← List.map_take, ← List.map_drop]
      refine callI_pure (h0 y a.length (by omega) (by omega)) rfl rfl ?_
      rw [hkv']
      simp -dsimp -implicitDefEqProofs only [hp, hx, intC, qq, Nat.reduceBEq, reduceIte, Nat.reduceAdd, Nat.reduceSub, Nat.reduceLeDiff, Nat.reduceLT, Nat.reduceMul, Nat.reduceEqDiff, Int.reduceEq, Int.reduceBEq, Int.reduceBNe, Int.reduceLT, Int.reduceLE, Int.reduceGT, Int.reduceGE, Int.reduceNeg, Int.reduceAdd, Int.reduceSub, reduceCtorEq, List.reduceReplicate, ← List.map_take, ← List.map_drop]
      refine ⟨by omega, by omega, ?_⟩
      refine app_ownA (ys := [[.i .i64 x]]) hu (by decide) (by decide) (by simp [Sh.shown]) (by simp [V.one]) (by rw [List.length_map]; simp; omega) fun u' H1 hu' hA => ?_
      obtain ⟨hv1, hd1⟩ := hA _ _ _ (hn2 ▸ hos) (hn2 ▸ hd)
      have hp1 : H1[p]? = some (.row 1 (a.map intC)) := by
        obtain ⟨p', c', e', he, hp'⟩ := hv1.pos (by simp; intro e; rw [e] at hkl; simp at hkl)
        rw [List.length_map] at he
        cases he; exact hp'
      have hwk : IntKind.i64.wrap ((kk : Int) + 1) = ((kk + 1 : Nat) : Int) := wrap_succ (by omega)
      have irow : ∀ {r : List V}, r ∈ a.map intC → r.length = 1 ∧ r.all V.one = true := fun hr => by obtain ⟨x, _, rfl⟩ := List.mem_map.1 hr; exact ⟨rfl, rfl⟩
      simp -dsimp -implicitDefEqProofs only [hwk, hp1, qq, Nat.reduceBEq, reduceIte, Nat.reduceAdd, Nat.reduceSub, Nat.reduceLeDiff, Nat.reduceLT, Nat.reduceMul, Nat.reduceEqDiff, Int.reduceEq, Int.reduceBEq, Int.reduceBNe, Int.reduceLT, Int.reduceLE, Int.reduceGT, Int.reduceGE, Int.reduceNeg, Int.reduceAdd, Int.reduceSub, reduceCtorEq, List.reduceReplicate, ← List.map_take, ← List.map_drop]
      refine ⟨by simp, by omega, by omega, app_emp (ys := ((a.map intC).drop 0).take (kk - 0)) (by decide) (by decide) (shown_drop (get_app hp1 _) (by simp; omega)) (fun r hr => irow (List.mem_of_mem_take (by simpa using hr))) (by simp; omega) fun v1 H2 hn1 => ⟨hn1.z.take, ?_⟩⟩
      have hp2 := hn1.keep _ _ hp1
      simp -dsimp -implicitDefEqProofs only [hwk, hp2, qq, Nat.reduceBEq, reduceIte, Nat.reduceAdd, Nat.reduceSub, Nat.reduceLeDiff, Nat.reduceLT, Nat.reduceMul, Nat.reduceEqDiff, Int.reduceEq, Int.reduceBEq, Int.reduceBNe, Int.reduceLT, Int.reduceLE, Int.reduceGT, Int.reduceGE, Int.reduceNeg, Int.reduceAdd, Int.reduceSub, reduceCtorEq, List.reduceReplicate, ← List.map_take, ← List.map_drop]
      refine ⟨by omega, by omega, by omega, app_newZ (ys := ((a.map intC).drop (kk + 1)).take (a.length - (kk + 1))) hn1.z (by decide) (by decide) (shown_drop hp2 (by simp; omega)) (fun r hr => irow (List.mem_of_mem_drop (List.mem_of_mem_take hr))) (by simp; omega) fun v3 H4 hn3 => ?_⟩
      simp -dsimp -implicitDefEqProofs only [hwj, qq, Nat.reduceBEq, reduceIte, Nat.reduceAdd, Nat.reduceSub, Nat.reduceLeDiff, Nat.reduceLT, Nat.reduceMul, Nat.reduceEqDiff, Int.reduceEq, Int.reduceBEq, Int.reduceBNe, Int.reduceLT, Int.reduceLE, Int.reduceGT, Int.reduceGE, Int.reduceNeg, Int.reduceAdd, Int.reduceSub, reduceCtorEq, List.reduceReplicate, ← List.map_take, ← List.map_drop]
      have e0 : ((a.map intC).drop 0).take (kk - 0) = (a.map intC).take kk := by simp
      have e1 : ((a.map intC).drop (kk + 1)).take (a.length - (kk + 1)) = (a.map intC).drop (kk + 1) := by rw [List.take_of_length_le (by simp)]
      have hv3 := hn3.own
      rw [e0, e1] at hv3
      exact ⟨j + 1, by omega, by omega, v3, u', rfl, by rw [hnx1, List.map_append, List.map_take, List.map_drop]; exact hv3, by rw [hnx2, List.map_append]; exact hu'.move (fun p b c e hp _ => hn3.keep p b hp), fun p k o l c e k' o' l' c' e' h1 h2 => by have := hu'.lt h1; have := hn3.fresh _ _ _ _ _ _ h2; omega⟩
  · obtain rfl : j = i := by omega
    have hc : decide ((j : Int) < (j : Int)) = false := by simp
    simp -dsimp -implicitDefEqProofs only [hc, qq, Nat.reduceBEq, reduceIte, Nat.reduceAdd, Nat.reduceSub, Nat.reduceLeDiff, Nat.reduceLT, Nat.reduceMul, Nat.reduceEqDiff, Int.reduceEq, Int.reduceBEq, Int.reduceBNe, Int.reduceLT, Int.reduceLE, Int.reduceGT, Int.reduceGE, Int.reduceNeg, Int.reduceAdd, Int.reduceSub, reduceCtorEq, List.reduceReplicate, ← List.map_take, ← List.map_drop]
    exact Ends.ret rfl (hu.frz (bel_ints _))
end Go.Sh.C3
end
section
namespace Go.Sh.C3
open Go.Sh
set_option maxRecDepth 10000
set_option linter.unusedVariables false
set_option linter.unusedSimpArgs false
variable {P : Program}

theorem killB_2 (a b c : Blk) : killB (fun i => i == 2) [a, b, c] = [a, b, .dead] := rfl
def rawZ : Raw := ⟨0, 0, 0, 0, 0, 0, 0⟩
def sagsS (l : List Raw) : List Sag := if l.length = 0 then madeS 0 [rawZ] else madeS 0 (l.take 12)
theorem sagsS_ok (l : List Raw) : listB (sagsS l) = true := by
  unfold sagsS
  split
  · exact madeS_ok (by simp)
  · exact madeS_ok (by simp; omega)
theorem sagsS_len (l : List Raw) : 0 < (sagsS l).length ∧ (sagsS l).length ≤ 12 := by
  unfold sagsS
  split
  · simp [madeS_length]
  · rw [madeS_length, List.length_take]; omega
def stackS (l : List Raw) (order : List Int) : List Sag := pickS (sagsS l) (shuffled order (sagsS l).length)
theorem shuffled_ok (picks : List Int) (n : Nat) : okIx n (shuffled picks n) := fun i hi => ixS_ok n i ((shuffled_perm picks n).mem_iff.1 hi)
theorem shuffled_nodup (picks : List Int) (n : Nat) : (shuffled picks n).Nodup := (shuffled_perm picks n).nodup_iff.2 (ixS_nodup n)
theorem shuffled_len (picks : List Int) (n : Nat) : (shuffled picks n).length = n := by rw [(shuffled_perm picks n).length_eq, ixS_length]
theorem stackS_ok (l : List Raw) (order : List Int) : listB (stackS l order) = true := listB_pick (sagsS_ok l) (shuffled_ok _ _) (shuffled_nodup _ _)
theorem stackS_len (l : List Raw) (order : List Int) : (stackS l order).length = (sagsS l).length := by rw [stackS, pickS_len (shuffled_ok _ _), shuffled_len]
def C_stack (P : Program) (f : Nat) : Prop := ∀ (l : List Raw) (order : List Int) (a b : Int), order.length ≤ 1000000000000000 → Snd P f [.fsl (l.map Raw.C), .fsl (order.map intC), .agg [.i .i64 a, .i .i64 b]] [] (.agg (bungC (wadS a b) (stackS l order))) []
set_option maxHeartbeats 2000000 in
theorem ok_stack (hm : P.follows .mixedOrders = true) {f f0 f1 f2 : Nat} (low : Low_potbanklaw03_stack P f f0 f1 f2) (h0 : C_Made P f0) (h1 : C_Wad P f1) (h2 : C_Shuffled P f2) : C_stack P f := by
  intro l order a b hol
  have hsl := sagsS_len l
  have hsok := sagsS_ok l
  refine snd_ic hm low (by simp) ?_
  unfold ic_potbanklaw03_stack
  simp -dsimp -implicitDefEqProofs only [qq, Nat.reduceBEq, reduceIte, Nat.reduceAdd, Nat.reduceSub, Nat.reduceLeDiff, Nat.reduceLT, Nat.reduceMul, Nat.reduceEqDiff, Int.reduceEq, Int.reduceBEq, Int.reduceBNe, Int.reduceLT, Int.reduceLE, Int.reduceGT, Int.reduceGE, Int.reduceNeg, Int.reduceAdd, Int.reduceSub, reduceCtorEq, List.reduceReplicate, ← List.map_take, ← List.map_drop]
  refine callI_pure (h0 l 12 (by decide)) rfl rfl ?_
  have hml : (madeS 0 (l.take 12)).length = min 12 l.length := by rw [madeS_length, List.length_take]
  generalize hx : shuffled order (sagsS l).length = x at *
  have hxl : x.length = (sagsS l).length := by rw [← hx]; exact shuffled_len _ _
  have hxo : okIx (sagsS l).length x := by rw [← hx]; exact shuffled_ok _ _
  have hst : stackS l order = pickS (sagsS l) x := by rw [stackS, hx]
  have h2' := h2 (sagsS l).length order (by omega) hol
  rw [hx] at h2'
  rcases Nat.eq_zero_or_pos l.length with hl0 | hl0
  case' inl =>
    have q : (((madeS 0 (l.take 12)).length : Int) == 0) = true := by rw [hml, hl0]; rfl
    have hs : sagsS l = madeS 0 ([rawZ].take 1) := by rw [sagsS, if_pos hl0]; rfl
    simp -dsimp -implicitDefEqProofs only [q, qq, Nat.reduceBEq, reduceIte, Nat.reduceAdd, Nat.reduceSub, Nat.reduceLeDiff, Nat.reduceLT, Nat.reduceMul, Nat.reduceEqDiff, Int.reduceEq, Int.reduceBEq, Int.reduceBNe, Int.reduceLT, Int.reduceLE, Int.reduceGT, Int.reduceGE, Int.reduceNeg, Int.reduceAdd, Int.reduceSub, reduceCtorEq, List.reduceReplicate, ← List.map_take, ← List.map_drop]
    refine callI_give (fun i => i == 2) (.cons (give_lit (rows := [rawZ].map Raw.C) rfl rfl rfl (by intro r hr; simp at hr; subst hr; rfl)) (.cons (.keep _) .nil)) ?_
    rw [killB_2]
    refine callI_pure (h0 [rawZ] 1 (by decide)) rfl rfl ?_
    rw [← hs]
    simp -dsimp -implicitDefEqProofs only [qq, Nat.reduceBEq, reduceIte, Nat.reduceAdd, Nat.reduceSub, Nat.reduceLeDiff, Nat.reduceLT, Nat.reduceMul, Nat.reduceEqDiff, Int.reduceEq, Int.reduceBEq, Int.reduceBNe, Int.reduceLT, Int.reduceLE, Int.reduceGT, Int.reduceGE, Int.reduceNeg, Int.reduceAdd, Int.reduceSub, reduceCtorEq, List.reduceReplicate, ← List.map_take, ← List.map_drop]
  case' inr =>
    have q : (((madeS 0 (l.take 12)).length : Int) == 0) = false := by
      rw [hml]
      have hz : 0 < min 12 l.length := by omega
      generalize min 12 l.length = z at hz
      exact beq_eq_false_iff_ne.2 (by omega)
    have hs : sagsS l = madeS 0 (l.take 12) := by rw [sagsS, if_neg (by omega)]
    simp -dsimp -implicitDefEqProofs only [q, qq, Nat.reduceBEq, reduceIte, Nat.reduceAdd, Nat.reduceSub, Nat.reduceLeDiff, Nat.reduceLT, Nat.reduceMul, Nat.reduceEqDiff, Int.reduceEq, Int.reduceBEq, Int.reduceBNe, Int.reduceLT, Int.reduceLE, Int.reduceGT, Int.reduceGE, Int.reduceNeg, Int.reduceAdd, Int.reduceSub, reduceCtorEq, List.reduceReplicate, ← List.map_take, ← List.map_drop]
    rw [← hs]
  all_goals
    refine callI_pure (h1 a b) rfl rfl ?_
    simp -dsimp -implicitDefEqProofs only [qq, Nat.reduceBEq, reduceIte, Nat.reduceAdd, Nat.reduceSub, Nat.reduceLeDiff, Nat.reduceLT, Nat.reduceMul, Nat.reduceEqDiff, Int.reduceEq, Int.reduceBEq, Int.reduceBNe, Int.reduceLT, Int.reduceLE, Int.reduceGT, Int.reduceGE, Int.reduceNeg, Int.reduceAdd, Int.reduceSub, reduceCtorEq, List.reduceReplicate, ← List.map_take, ← List.map_drop]
    refine callI_pure h2' rfl rfl ?_
    simp -dsimp -implicitDefEqProofs only [qq, Nat.reduceBEq, reduceIte, Nat.reduceAdd, Nat.reduceSub, Nat.reduceLeDiff, Nat.reduceLT, Nat.reduceMul, Nat.reduceEqDiff, Int.reduceEq, Int.reduceBEq, Int.reduceBNe, Int.reduceLT, Int.reduceLE, Int.reduceGT, Int.reduceGE, Int.reduceNeg, Int.reduceAdd, Int.reduceSub, reduceCtorEq, List.reduceReplicate, ← List.map_take, ← List.map_drop]
  case' inl =>
    refine loopI_st (fun i : Nat => x.length - i) (fun i E H => i ≤ x.length ∧ ∃ v, E = [(6, .rpt 1 3 0 0), (7, .fsl ((sagsS l).map Sag.c)), (8, .rpt 3 3 0 0), (9, .fsl (x.map intC)), (10, .i .i64 i)] ∧ H[1]? = some (.row 3 [[.i .i64 0, .i .i64 0, .nsl]]) ∧ H[3]? = some (.row 3 [[.i .i64 (wadS a b).lo, .i .i64 (wadS a b).hi, v]]) ∧ OwnS H 8 ((pickS (sagsS l) (x.take i)).map Sag.c) v) 0 ⟨by omega, .nsl, rfl, rfl, rfl, .nil _ _⟩ ?_
  case' inr =>
    refine loopI_st (fun i : Nat => x.length - i) (fun i E H => i ≤ x.length ∧ ∃ v, E = [(6, .rpt 1 3 0 0), (7, .fsl ((sagsS l).map Sag.c)), (8, .rpt 2 3 0 0), (9, .fsl (x.map intC)), (10, .i .i64 i)] ∧ H[1]? = some (.row 3 [[.i .i64 0, .i .i64 0, .nsl]]) ∧ H[2]? = some (.row 3 [[.i .i64 (wadS a b).lo, .i .i64 (wadS a b).hi, v]]) ∧ OwnS H 8 ((pickS (sagsS l) (x.take i)).map Sag.c) v) 0 ⟨by omega, .nsl, rfl, rfl, rfl, .nil _ _⟩ ?_
  all_goals
    rintro i _ H ⟨hi, v, rfl, hb1, hbq, ho⟩
    rcases Nat.lt_or_ge i x.length with hix | hix
    · have hc : decide ((i : Int) < (x.length : Int)) = true := decide_eq_true (by omega)
      have hwi : IntKind.i64.wrap ((i : Int) + 1) = ((i + 1 : Nat) : Int) := wrap_succ (by omega)
      obtain ⟨y, hy, hym, htk, _⟩ := next_of hix
      have hyb := hxo y hym
      obtain ⟨z, hz, hzm, _, _⟩ := next_of (show y.toNat < (sagsS l).length by omega)
      have hrow : rowAt ((sagsS l).map Sag.c) y = some z.c := rowAt_int hyb.1 hz
      have hpl := pickS_length (sagsS l) (x.take i)
      rw [List.length_take] at hpl
      have hne : ∀ p b3, H[p]? = some (.row 3 b3) → ∀ k o l c e, v ≠ .rsl p k o l c e := fun p b3 hp k o l c e hve => by
        rcases ho with ⟨_, h⟩ | ⟨p', c', e', h, hp'⟩
        · rw [h] at hve; cases hve
        · rw [h] at hve; cases hve
          rw [hp] at hp'; cases hp'
      simp -dsimp -implicitDefEqProofs only [hc, hbq, hy, hrow, intC, Sag.c, qq, Nat.reduceBEq, reduceIte, Nat.reduceAdd, Nat.reduceSub, Nat.reduceLeDiff, Nat.reduceLT, Nat.reduceMul, Nat.reduceEqDiff, Int.reduceEq, Int.reduceBEq, Int.reduceBNe, Int.reduceLT, Int.reduceLE, Int.reduceGT, Int.reduceGE, Int.reduceNeg, Int.reduceAdd, Int.reduceSub, reduceCtorEq, List.reduceReplicate, ← List.map_take, ← List.map_drop]
      refine app_own (ys := [z.c]) (ho.app _) (by decide) (by decide) (by simp [Sh.shown]) (by simp [V.one]) (by rw [List.length_map]; simp; omega) fun v' H' hv' ha hf => ?_
      have hb1' := ha.keep _ _ (get_app hb1 _) (hne _ _ hb1)
      have hbq' := ha.keep _ _ (get_app hbq _) (hne _ _ hbq)
      obtain ⟨p', c', e', rfl, hp'⟩ := hv'.pos (by simp)
      have hqp : ∀ q b3, H'[q]? = some (.row 3 b3) → q ≠ p' := fun q b3 hq e => by rw [e, hp'] at hq; cases hq
      have hnx : (pickS (sagsS l) (x.take (i + 1))).map Sag.c = (pickS (sagsS l) (x.take i)).map Sag.c ++ [z.c] := by rw [htk, pickS_snoc hz, List.map_append]; rfl
      simp -dsimp -implicitDefEqProofs only [hbq', hwi, qq, Nat.reduceBEq, reduceIte, Nat.reduceAdd, Nat.reduceSub, Nat.reduceLeDiff, Nat.reduceLT, Nat.reduceMul, Nat.reduceEqDiff, Int.reduceEq, Int.reduceBEq, Int.reduceBNe, Int.reduceLT, Int.reduceLE, Int.reduceGT, Int.reduceGE, Int.reduceNeg, Int.reduceAdd, Int.reduceSub, reduceCtorEq, List.reduceReplicate, ← List.map_take, ← List.map_drop]
      exact ⟨i + 1, by omega, by omega, rfl, get_setne hb1' (by decide), _, get_setsame hbq', .inr ⟨p', c', e', by rw [hnx]; simp, by rw [hnx]; exact get_setne hp' (hqp _ _ hbq')⟩⟩
    · have hc : decide ((i : Int) < (x.length : Int)) = false := decide_eq_false (by omega)
      rw [List.take_of_length_le hix] at ho
      simp -dsimp -implicitDefEqProofs only [hc, hbq, hb1, qq, Nat.reduceBEq, reduceIte, Nat.reduceAdd, Nat.reduceSub, Nat.reduceLeDiff, Nat.reduceLT, Nat.reduceMul, Nat.reduceEqDiff, Int.reduceEq, Int.reduceBEq, Int.reduceBNe, Int.reduceLT, Int.reduceLE, Int.reduceGT, Int.reduceGE, Int.reduceNeg, Int.reduceAdd, Int.reduceSub, reduceCtorEq, List.reduceReplicate, ← List.map_take, ← List.map_drop]
      refine ⟨by rcases ho with ⟨_, rfl⟩ | ⟨p, c, e, rfl, _⟩ <;> rfl, ?_⟩
      have hg := get_setsame (b' := .row 3 [[.i .i64 (a % 15), .i .i64 (a % 15 + b % 10), v]]) hb1
      have ho2 : OwnS (H.set 1 (.row 3 [[.i .i64 (a % 15), .i .i64 (a % 15 + b % 10), v]])) 8 ((pickS (sagsS l) x).map Sag.c) v := by
        rcases ho with h | ⟨p', c', e', h, hp'⟩
        · exact .inl h
        · exact .inr ⟨p', c', e', h, get_setne hp' (fun e => by rw [← e, hb1] at hp'; cases hp')⟩
      generalize H.set 1 (.row 3 [[.i .i64 (a % 15), .i .i64 (a % 15 + b % 10), v]]) = H2 at *
      have hr : resIs [(6, .rpt 1 3 0 0)] H2 [.cell 6 (some 3)] = some [.agg [.i .i64 (a % 15), .i .i64 (a % 15 + b % 10), v]] := by
        simp only [resIs, resI1]
        rw [show get [(6, V.rpt 1 3 0 0)] 6 = some (.rpt 1 3 0 0) from rfl]
        simp only [hg]
        rfl
      refine Ends.ret hr ?_
      rw [hst]
      refine .agg _ _ rfl fun j w w' e1 e2 => ?_
      match j with
      | 0 => simp at e1 e2; subst e1 e2; exact .keep _ rfl
      | 1 => simp at e1 e2; subst e1 e2; exact .keep _ rfl
      | 2 => simp at e1 e2; subst e1 e2; exact ho2.frz (by intro r hr; obtain ⟨x, _, rfl⟩ := List.mem_map.1 hr; rfl)
      | j + 3 => simp at e1
end Go.Sh.C3
end
section
namespace Go.Sh.C3
open Go.Sh
variable {P : Program}

theorem answerS_zero {a b : Rg} (h : answerS a b = 0) : a.lo > b.hi := by
  unfold answerS at h
  split at h
  · simp at h
  · split at h
    · assumption
    · simp at h
end Go.Sh.C3
end
section
namespace Go.Sh.C3
open Go.Sh
set_option linter.unusedVariables false
set_option linter.unusedSimpArgs false

/-! ### narrower ranges -/
structure NarS (s t : Sag) : Prop where
  w1 : s.w.lo ≤ t.w.lo
  w2 : t.w.hi ≤ s.w.hi
  b1 : s.b.lo ≤ t.b.lo
  b2 : t.b.hi ≤ s.b.hi
  h1 : s.h.lo ≤ t.h.lo
  h2 : t.h.hi ≤ s.h.hi
  ti : t.tilt = s.tilt
inductive Nar : List Sag → List Sag → Prop
  | nil : Nar [] []
  | cons {s t : Sag} {l m : List Sag} : NarS s t → Nar l m → Nar (s :: l) (t :: m)
theorem NarS.refl (s : Sag) : NarS s s := ⟨Int.le_refl _, Int.le_refl _, Int.le_refl _, Int.le_refl _, Int.le_refl _, Int.le_refl _, rfl⟩
theorem Nar.refl : ∀ l, Nar l l
  | [] => .nil
  | s :: l => .cons (.refl s) (Nar.refl l)
theorem Nar.w {l m : List Sag} (h : Nar l m) : (wOf l).lo ≤ (wOf m).lo ∧ (wOf m).hi ≤ (wOf l).hi := by
  induction h with
  | nil => simp [wOf, sumR]
  | cons hs _ ih => rw [wOf_cons, wOf_cons]; have := hs.w1; have := hs.w2; simp only; omega
theorem Nar.h {l m : List Sag} (h : Nar l m) : (hOf l).lo ≤ (hOf m).lo ∧ (hOf m).hi ≤ (hOf l).hi := by
  induction h with
  | nil => simp [hOf, sumR]
  | @cons s t l m hs _ ih =>
    have e : ∀ (s : Sag) l, hOf (s :: l) = ⟨s.h.lo + (hOf l).lo, s.h.hi + (hOf l).hi⟩ := fun s l => by simp [hOf, sumR]
    rw [e, e]; have := hs.h1; have := hs.h2; simp only; omega
theorem Nar.len {l m : List Sag} (h : Nar l m) : m.length = l.length := by
  induction h with
  | nil => rfl
  | cons _ _ ih => simp [ih]
theorem answerS_zero_iff {a b : Rg} (ha : a.lo ≤ a.hi) (hb : b.lo ≤ b.hi) : answerS a b = 0 ↔ a.lo > b.hi := by
  refine ⟨answerS_zero, fun h => ?_⟩
  unfold answerS
  rw [if_neg (by omega), if_pos h]
theorem wOf_ok {l : List Sag} (hv : ∀ s ∈ l, sagB s = true) : (wOf l).lo ≤ (wOf l).hi := by
  induction l with
  | nil => simp [wOf, sumR]
  | cons s l ih =>
    have h1 := ih fun x hx => hv x (by simp [hx])
    have h2 := hv s (by simp)
    simp [sagB, rgB, inR] at h2
    rw [wOf_cons]; simp only; omega
theorem Nar.zero {l m : List Sag} (h : Nar l m) (hv : ∀ s ∈ m, sagB s = true) : 0 ∈ coursesS l → 0 ∈ coursesS m := by
  induction h with
  | nil => exact id
  | @cons s t l m hs h ih =>
    simp only [coursesS, List.mem_cons]
    rintro (g | g)
    · left
      have h1 := answerS_zero g.symm
      have h2 := h.w
      have h3 := hs.b2
      have h4 := hv t (by simp)
      simp [sagB, rgB, inR] at h4
      exact ((answerS_zero_iff (wOf_ok fun x hx => hv x (by simp [hx])) (by omega)).2 (by omega)).symm
    · exact .inr (ih (fun x hx => hv x (by simp [hx])) g)
theorem Nar.leanG {w : Int} (hw : 0 ≤ w) {l m : List Sag} (h : Nar l m) (hv : ∀ s ∈ m, sagB s = true) : (leanG w m).2 ≤ (leanG w l).2 ∧ (leanG w m).1 ≤ (leanG w l).1 ∧ 0 ≤ (leanG w m).2 := by
  induction h with
  | nil => simp [C3.leanG]
  | @cons s t l m hs h ih =>
    obtain ⟨a1, a2, a3⟩ := ih fun x hx => hv x (by simp [hx])
    have h4 := hv t (by simp)
    simp [sagB, rgB, inR] at h4
    have h2 := hs.h2
    have ht := hs.ti
    simp only [C3.leanG, ht]
    rw [ht] at h4
    refine ⟨by omega, ?_, by omega⟩
    have : s.tilt * ((C3.leanG w m).2 + t.h.hi) ≤ s.tilt * ((C3.leanG w l).2 + s.h.hi) := Int.mul_le_mul_of_nonneg_left (by omega) (by omega)
    omega
theorem tdiv_mono {a b : Int} (h0 : 0 ≤ a + 999) (h : a ≤ b) : (a + 999).tdiv 1000 ≤ (b + 999).tdiv 1000 := by
  rw [Int.tdiv_eq_ediv_of_nonneg h0, Int.tdiv_eq_ediv_of_nonneg (by omega)]
  omega
theorem Nar.lean {w : Rg} (hw : rgB w 0 200 = true) {l m : List Sag} (h : Nar l m) (hv : ∀ s ∈ m, sagB s = true) : leanS w m ≤ leanS w l := by
  simp [rgB] at hw
  have ht : Nar l.tail m.tail := by cases h; exact .nil; assumption
  have hv' : ∀ s ∈ m.tail, sagB s = true := fun s hs => hv s (List.mem_of_mem_tail hs)
  have h1 := ht.leanG (w := w.hi) (by omega) hv'
  have h2 := (leanG_sub (w := w.hi) (by omega) (List.Sublist.refl m.tail) hv').2.2.1
  exact tdiv_mono (by omega) h1.2.1
end Go.Sh.C3
end
section
namespace Go.Sh.C3
open Go.Sh
set_option maxRecDepth 10000
set_option linter.unusedVariables false
set_option linter.unusedSimpArgs false
variable {P : Program}
def ic_potbanklaw03_sane (f0 f1 f2 f3 f4 f5 f6 f7 f8 f9 : Nat) : IC := .seq (.reg [⟨some 0, none, .mov (.c (.b false))⟩] []) (.seq (.reg [⟨some 22, none, .bld [.i .i64 (0), .i .i64 (0)] [(0, 1, (.c (.i .i64 (5)))), (1, 1, (.c (.i .i64 (10))))]⟩, ⟨some 1, none, .alloc [.i .i64 (0), .i .i64 (0)]⟩, ⟨none, none, .st 2 (.t 1) (.t 22)⟩] [1]) (.seq (.drg [(0, ⟨some 24, none, .ld (some 2) (.t 1)⟩), (0, ⟨some 25, none, .calv (.c (.fn (.func f0) [] [])) []⟩), (0, ⟨some 26, none, .bsl true 1 3 [.i .i64 (0)] [(0, (.c (.i .i64 (0)))), (1, (.c (.i .i64 (1)))), (2, (.c (.i .i64 (2))))]⟩), (0, ⟨some 27, none, .calv (.c (.fn (.func f1) [] [])) [.t 24, .t 25, .t 26]⟩), (0, ⟨some 23, none, .mov (.t 27)⟩), (0, ⟨some 28, none, .ext (.t 23) 0⟩), (0, ⟨some 29, none, .ext (.t 23) 1⟩), (1, ⟨some 2, none, .alloc [.i .i64 (0), .i .i64 (0), .nsl]⟩), (1, ⟨none, none, .st 3 (.t 2) (.t 28)⟩), (0, ⟨some 3, none, .mov (.t 29)⟩)] 9 [1, 2, 3]) (.seq (.drg [(0, ⟨some 31, none, .ld (some 2) (.t 1)⟩), (0, ⟨some 32, none, .calv (.c (.fn (.func f0) [] [])) []⟩), (0, ⟨some 33, none, .bsl true 1 3 [.i .i64 (0)] [(0, (.c (.i .i64 (1)))), (1, (.c (.i .i64 (0)))), (2, (.c (.i .i64 (2))))]⟩), (0, ⟨some 34, none, .calv (.c (.fn (.func f1) [] [])) [.t 31, .t 32, .t 33]⟩), (0, ⟨some 30, none, .mov (.t 34)⟩), (0, ⟨some 35, none, .ext (.t 30) 0⟩), (0, ⟨some 36, none, .ext (.t 30) 1⟩), (1, ⟨some 4, none, .alloc [.i .i64 (0), .i .i64 (0), .nsl]⟩), (1, ⟨none, none, .st 3 (.t 4) (.t 35)⟩), (0, ⟨some 5, none, .mov (.t 36)⟩)] 9 [1, 2, 3, 4, 5]) (.seq (.reg [⟨some 38, none, .ld (some 3) (.t 2)⟩, ⟨some 39, none, .calv (.c (.fn (.func f2) [] [])) [.t 38]⟩, ⟨some 37, none, .mov (.t 39)⟩, ⟨some 40, none, .ext (.t 37) 0⟩, ⟨some 41, none, .ext (.t 37) 1⟩, ⟨some 6, none, .mov (.t 40)⟩, ⟨some 7, none, .mov (.t 41)⟩] [1, 2, 3, 4, 5, 6, 7]) (.seq (.reg [⟨some 43, none, .ld (some 3) (.t 2)⟩, ⟨some 44, none, .calv (.c (.fn (.func f3) [] [])) [.t 43]⟩, ⟨some 42, none, .mov (.t 44)⟩, ⟨some 45, none, .ext (.t 42) 0⟩, ⟨some 46, none, .ext (.t 42) 1⟩, ⟨some 8, none, .mov (.t 45)⟩, ⟨some 9, none, .mov (.t 46)⟩] [1, 2, 3, 4, 5, 6, 7, 8, 9]) (.seq (.reg [⟨some 48, none, .ld (some 3) (.t 4)⟩, ⟨some 49, none, .calv (.c (.fn (.func f3) [] [])) [.t 48]⟩, ⟨some 47, none, .mov (.t 49)⟩, ⟨some 50, none, .ext (.t 47) 0⟩, ⟨some 51, none, .ext (.t 47) 1⟩, ⟨some 10, none, .mov (.t 50)⟩, ⟨some 11, none, .mov (.t 51)⟩] [1, 2, 3, 4, 5, 6, 7, 8, 9, 10, 11]) (.seq (.reg [⟨some 53, none, .ld (some 3) (.t 2)⟩, ⟨some 54, none, .calv (.c (.fn (.func f4) [] [])) [.t 53]⟩, ⟨some 52, none, .mov (.t 54)⟩, ⟨some 55, none, .ext (.t 52) 0⟩, ⟨some 56, none, .ext (.t 52) 1⟩, ⟨some 12, none, .mov (.t 55)⟩, ⟨some 13, none, .mov (.t 56)⟩] [1, 3, 4, 5, 6, 7, 8, 9, 10, 11, 12, 13]) (.seq (.reg [⟨some 58, none, .ld (some 3) (.t 4)⟩, ⟨some 59, none, .calv (.c (.fn (.func f5) [] [])) [.t 58]⟩, ⟨some 57, none, .mov (.t 59)⟩, ⟨some 60, none, .ext (.t 57) 0⟩, ⟨some 61, none, .ext (.t 57) 1⟩, ⟨some 14, none, .alloc [.i .i64 (0), .i .i64 (0), .nsl]⟩, ⟨none, none, .st 3 (.t 14) (.t 60)⟩, ⟨some 15, none, .mov (.t 61)⟩] [1, 3, 5, 6, 7, 8, 9, 10, 11, 12, 13, 14, 15]) (.seq (.drg [(0, ⟨some 63, none, .ld (some 2) (.t 1)⟩), (0, ⟨some 64, none, .calv (.c (.fn (.func f0) [] [])) []⟩), (0, ⟨some 65, none, .bld [.i .i64 (0), .i .i64 (0)] [(0, 1, (.c (.i .i64 (400)))), (1, 1, (.c (.i .i64 (9))))]⟩), (0, ⟨some 66, none, .calv (.c (.fn (.func f6) [] [])) [.t 63, .t 64, .t 65]⟩), (0, ⟨some 62, none, .mov (.t 66)⟩), (0, ⟨some 67, none, .ext (.t 62) 0⟩), (0, ⟨some 68, none, .ext (.t 62) 1⟩), (0, ⟨some 16, none, .mov (.t 67)⟩), (0, ⟨some 17, none, .mov (.t 68)⟩)] 8 [3, 5, 6, 7, 8, 9, 10, 11, 12, 13, 14, 15, 16, 17]) (.seq (.reg [⟨some 69, none, .mov (.t 3)⟩, ⟨some 70, none, .bin .eql (.t 69) (.c (.i .i64 (0)))⟩, ⟨some 71, none, .mov (.t 70)⟩, ⟨some 72, some (71, true), .mov (.t 5)⟩, ⟨some 73, some (71, true), .bin .eql (.t 72) (.c (.i .i64 (0)))⟩, ⟨some 74, none, .pick (.t 71) (.t 73) (.c (.b false))⟩, ⟨some 75, none, .mov (.t 74)⟩, ⟨some 76, some (75, true), .mov (.t 7)⟩, ⟨some 77, some (75, true), .bin .eql (.t 76) (.c (.i .i64 (0)))⟩, ⟨some 78, none, .pick (.t 75) (.t 77) (.c (.b false))⟩, ⟨some 79, none, .mov (.t 78)⟩, ⟨some 80, some (79, true), .mov (.t 9)⟩, ⟨some 81, some (79, true), .bin .eql (.t 80) (.c (.i .i64 (0)))⟩, ⟨some 82, none, .pick (.t 79) (.t 81) (.c (.b false))⟩, ⟨some 83, none, .mov (.t 82)⟩, ⟨some 84, some (83, true), .mov (.t 11)⟩, ⟨some 85, some (83, true), .bin .eql (.t 84) (.c (.i .i64 (0)))⟩, ⟨some 86, none, .pick (.t 83) (.t 85) (.c (.b false))⟩, ⟨some 87, none, .mov (.t 86)⟩, ⟨some 88, some (87, true), .mov (.t 13)⟩, ⟨some 89, some (87, true), .bin .eql (.t 88) (.c (.i .i64 (0)))⟩, ⟨some 90, none, .pick (.t 87) (.t 89) (.c (.b false))⟩, ⟨some 91, none, .mov (.t 90)⟩, ⟨some 92, some (91, true), .mov (.t 15)⟩, ⟨some 93, some (91, true), .bin .eql (.t 92) (.c (.i .i64 (0)))⟩, ⟨some 94, none, .pick (.t 91) (.t 93) (.c (.b false))⟩, ⟨some 95, none, .mov (.t 94)⟩, ⟨some 96, some (95, true), .mov (.t 17)⟩, ⟨some 97, some (95, true), .bin .eql (.t 96) (.c (.i .i64 (0)))⟩, ⟨some 98, none, .pick (.t 95) (.t 97) (.c (.b false))⟩, ⟨some 18, none, .mov (.t 98)⟩] [6, 8, 10, 12, 14, 16, 18]) (.seq (.reg [⟨some 99, none, .mov (.t 6)⟩, ⟨some 100, none, .bld [.i .i64 (0), .i .i64 (0)] [(0, 1, (.c (.i .i64 (140)))), (1, 1, (.c (.i .i64 (150))))]⟩, ⟨some 101, none, .bld [.i .i64 (0), .i .i64 (0)] [(0, 1, (.c (.i .i64 (60)))), (1, 1, (.c (.i .i64 (60))))]⟩, ⟨some 102, none, .bld [.i .i64 (0), .i .i64 (0)] []⟩, ⟨some 103, none, .bsl false 2 3 [.i .i64 (0), .i .i64 (0)] [(0, (.t 100)), (1, (.t 101)), (2, (.t 102))]⟩, ⟨some 104, none, .calv (.c (.fn (.func f7) [] [])) [.t 99, .t 103]⟩, ⟨some 19, none, .mov (.t 104)⟩] [8, 10, 12, 14, 16, 18, 19]) (.seq (.reg [⟨some 105, none, .mov (.t 16)⟩, ⟨some 106, none, .bsl false 1 2 [.i .i64 (0)] [(0, (.c (.i .i64 (0)))), (1, (.c (.i .i64 (2))))]⟩, ⟨some 107, none, .bsl false 1 1 [.i .i64 (0)] [(0, (.c (.i .i64 (1))))]⟩, ⟨some 108, none, .bsl false 1 2 [.nsl] [(0, (.t 106)), (1, (.t 107))]⟩, ⟨some 109, none, .calv (.c (.fn (.func f8) [] [])) [.t 105, .t 108]⟩, ⟨some 20, none, .mov (.t 109)⟩] [8, 10, 12, 14, 18, 19, 20]) (.seq (.reg [⟨some 110, none, .fad 2 (.t 14)⟩, ⟨some 111, none, .ld none (.t 110)⟩, ⟨some 112, none, .bsl false 1 2 [.i .i64 (0)] [(0, (.c (.i .i64 (120)))), (1, (.c (.i .i64 (60))))]⟩, ⟨some 113, none, .calv (.c (.fn (.func f9) [] [])) [.t 111, .t 112]⟩, ⟨some 21, none, .mov (.t 113)⟩] [8, 10, 12, 14, 18, 19, 20, 21]) (.seq (.reg [⟨some 114, none, .mov (.t 18)⟩, ⟨some 115, none, .mov (.t 114)⟩, ⟨some 116, some (115, true), .mov (.t 19)⟩, ⟨some 117, none, .pick (.t 115) (.t 116) (.c (.b false))⟩, ⟨some 118, none, .mov (.t 117)⟩, ⟨some 119, some (118, true), .mov (.t 8)⟩, ⟨some 120, some (118, true), .bin .eql (.t 119) (.c (.i .i64 (1)))⟩, ⟨some 121, none, .pick (.t 118) (.t 120) (.c (.b false))⟩, ⟨some 122, none, .mov (.t 121)⟩, ⟨some 123, some (122, true), .mov (.t 10)⟩, ⟨some 124, some (122, true), .bin .eql (.t 123) (.c (.i .i64 (2)))⟩, ⟨some 125, none, .pick (.t 122) (.t 124) (.c (.b false))⟩, ⟨some 126, none, .mov (.t 125)⟩, ⟨some 127, some (126, true), .mov (.t 12)⟩, ⟨some 128, some (126, true), .bin .eql (.t 127) (.c (.i .i64 (4)))⟩, ⟨some 129, none, .pick (.t 126) (.t 128) (.c (.b false))⟩, ⟨some 130, none, .mov (.t 129)⟩, ⟨some 131, some (130, true), .mov (.t 21)⟩, ⟨some 132, none, .pick (.t 130) (.t 131) (.c (.b false))⟩, ⟨some 133, none, .mov (.t 132)⟩, ⟨some 134, some (133, true), .fad 0 (.t 14)⟩, ⟨some 135, some (133, true), .ld none (.t 134)⟩, ⟨some 136, some (133, true), .bin .eql (.t 135) (.c (.i .i64 (0)))⟩, ⟨some 137, none, .pick (.t 133) (.t 136) (.c (.b false))⟩, ⟨some 138, none, .mov (.t 137)⟩, ⟨some 139, some (138, true), .fad 1 (.t 14)⟩, ⟨some 140, some (138, true), .ld none (.t 139)⟩, ⟨some 141, some (138, true), .bin .eql (.t 140) (.c (.i .i64 (150)))⟩, ⟨some 142, none, .pick (.t 138) (.t 141) (.c (.b false))⟩, ⟨some 143, none, .mov (.t 142)⟩, ⟨some 144, some (143, true), .mov (.t 20)⟩, ⟨some 145, none, .pick (.t 143) (.t 144) (.c (.b false))⟩, ⟨some 0, none, .mov (.t 145)⟩] [0]) (.ret)))))))))))))))
abbrev Low_potbanklaw03_sane (P : Program) (f f0 f1 f2 f3 f4 f5 f6 f7 f8 f9 : Nat) : Prop := lowF P f = some (146, [.tmp 0], (ic_potbanklaw03_sane f0 f1 f2 f3 f4 f5 f6 f7 f8 f9).erase)

theorem frz_col {H : List Blk} {p n c : Nat} {e : Bool} {us us' : List V} (h : H[p]? = some (.row 1 (us.map fun u => [u]))) (hn : us.length = n) (hl : us.length = us'.length) (hb : ∀ u ∈ us', u.bel 0 = true) (hu : ∀ (i : Nat) u u', us[i]? = some u → us'[i]? = some u' → Frz 0 H u u') : Frz 0 H (.rsl p 1 0 n c e) (.fsl (us'.map fun u => [u])) := by
  subst hn
  have ht : ((us.map fun u => [u]).drop 0).take us.length = us.map fun u => [u] := by rw [List.drop_zero, List.take_of_length_le (by simp)]
  refine .sl p 1 0 us.length c e _ _ (Nat.zero_le _) h (by simp) (by simp [hl]) (fun row hr => ?_) ?_ ?_
  · obtain ⟨u, hu, rfl⟩ := List.mem_map.1 hr
    simp [belL, hb u hu]
  · intro i row row' h1 h3
    rw [ht, List.getElem?_map] at h1
    rw [List.getElem?_map] at h3
    obtain ⟨u, _, rfl⟩ := Option.map_eq_some_iff.1 h1
    obtain ⟨u', _, rfl⟩ := Option.map_eq_some_iff.1 h3
    rfl
  · intro i row row' j x x' h1 h3 e1 e2
    rw [ht, List.getElem?_map] at h1
    rw [List.getElem?_map] at h3
    obtain ⟨u, g1, rfl⟩ := Option.map_eq_some_iff.1 h1
    obtain ⟨u', g2, rfl⟩ := Option.map_eq_some_iff.1 h3
    cases j with
    | zero => simp at e1 e2; subst e1 e2; exact hu i u u' g1 g2
    | succ j => simp at e1
def C_sane (P : Program) (f : Nat) : Prop := Snd P f [] [] (.b true) []
def exB : List Sag := pickS exS [0, 1, 2]
def exC : List Sag := pickS exS [1, 0, 2]
theorem ok_sane (hm : P.follows .mixedOrders = true) {f f0 f1 f2 f3 f4 f5 f6 f7 f8 f9 : Nat} (low : Low_potbanklaw03_sane P f f0 f1 f2 f3 f4 f5 f6 f7 f8 f9) (h0 : C_example P f0) (h1 : C_Set P f1) (h2 : C_Loads P f2) (h3 : C_Stands P f3) (h4 : C_Lean P f4) (h5 : C_Breaks P f5) (h6 : C_Fewest P f6) (h7 : C_SameRanges P f7) (h8 : C_SameParts P f8) (h9 : C_Same P f9) : C_sane P f := by
  have s1 : setE ⟨5, 10⟩ exS [0, 1, 2] = 0 := by decide +kernel
  have s2 : setE ⟨5, 10⟩ exS [1, 0, 2] = 0 := by decide +kernel
  have b1 : bungB ⟨5, 10⟩ exB = true := by decide +kernel
  have b2 : bungB ⟨5, 10⟩ exC = true := by decide +kernel
  have c1 := h1 ⟨5, 10⟩ exS [0, 1, 2] (by decide)
  have c2 := h1 ⟨5, 10⟩ exS [1, 0, 2] (by decide)
  have c3 := h2 ⟨5, 10⟩ exB
  have c4 := h3 ⟨5, 10⟩ exB
  have c5 := h3 ⟨5, 10⟩ exC
  have c6 := h4 ⟨5, 10⟩ exB
  have c7 := h5 ⟨5, 10⟩ exC
  have c8 := h6 ⟨5, 10⟩ exS ⟨400, 9⟩
  rw [s1, if_pos rfl] at c1
  rw [s2, if_pos rfl] at c2
  rw [b1, if_pos rfl, if_pos rfl] at c3 c4 c6
  rw [b2, if_pos rfl, if_pos rfl] at c5
  rw [b2, if_pos rfl, if_pos rfl, show brkV exC = .agg [.i .i64 0, .i .i64 150, .fsl (([120, 60] : List Int).map intC)] by rfl, show (if (brkAt exC).isSome = true then (0 : Int) else 34) = 0 by decide +kernel] at c7
  rw [show standsS exB = 1 by decide +kernel] at c4
  rw [show standsS exC = 2 by decide +kernel] at c5
  rw [show leanS ⟨5, 10⟩ exB = 4 by decide +kernel] at c6
  rw [show loadsS exB = [⟨140, 150⟩, ⟨60, 60⟩, ⟨0, 0⟩] by decide +kernel] at c3
  rw [show fewR ⟨5, 10⟩ exS ⟨400, 9⟩ = [[0, 2], [1]] by decide +kernel, show fewE ⟨5, 10⟩ exS ⟨400, 9⟩ = 0 by decide +kernel] at c8
  have d1 := h7 [⟨140, 150⟩, ⟨60, 60⟩, ⟨0, 0⟩] [⟨140, 150⟩, ⟨60, 60⟩, ⟨0, 0⟩] (by decide)
  have d2 := h8 [[0, 2], [1]] [[0, 2], [1]] (by decide) (by decide)
  have d3 := h9 [120, 60] [120, 60] (by decide)
  rw [decide_eq_true rfl] at d1 d2 d3
  change Snd P f1 [.agg [.i .i64 5, .i .i64 10], .fsl (exS.map Sag.c), .fsl [[.i .i64 0], [.i .i64 1], [.i .i64 2]]] [] (.tup [.agg [.i .i64 5, .i .i64 10, .fsl (exB.map Sag.c)], .i .i64 0]) [] at c1
  change Snd P f1 [.agg [.i .i64 5, .i .i64 10], .fsl (exS.map Sag.c), .fsl [[.i .i64 1], [.i .i64 0], [.i .i64 2]]] [] (.tup [.agg [.i .i64 5, .i .i64 10, .fsl (exC.map Sag.c)], .i .i64 0]) [] at c2
  refine snd_ic hm low (by simp) ?_
  unfold ic_potbanklaw03_sane
  simp -dsimp -implicitDefEqProofs only [qq, Nat.reduceBEq, reduceIte, Nat.reduceAdd, Nat.reduceSub, Nat.reduceLeDiff, Nat.reduceLT, Nat.reduceMul, Nat.reduceEqDiff, Int.reduceEq, Int.reduceBEq, Int.reduceBNe, Int.reduceLT, Int.reduceLE, Int.reduceGT, Int.reduceGE, Int.reduceNeg, Int.reduceAdd, Int.reduceSub, reduceCtorEq, List.reduceReplicate, ← List.map_take, ← List.map_drop]
  refine callI_pure h0 rfl rfl ?_
  simp -dsimp -implicitDefEqProofs only [qq, Nat.reduceBEq, reduceIte, Nat.reduceAdd, Nat.reduceSub, Nat.reduceLeDiff, Nat.reduceLT, Nat.reduceMul, Nat.reduceEqDiff, Int.reduceEq, Int.reduceBEq, Int.reduceBNe, Int.reduceLT, Int.reduceLE, Int.reduceGT, Int.reduceGE, Int.reduceNeg, Int.reduceAdd, Int.reduceSub, reduceCtorEq, List.reduceReplicate, ← List.map_take, ← List.map_drop]
  refine ⟨by decide, callI_pure c1 rfl rfl ?_⟩
  simp -dsimp -implicitDefEqProofs only [qq, Nat.reduceBEq, reduceIte, Nat.reduceAdd, Nat.reduceSub, Nat.reduceLeDiff, Nat.reduceLT, Nat.reduceMul, Nat.reduceEqDiff, Int.reduceEq, Int.reduceBEq, Int.reduceBNe, Int.reduceLT, Int.reduceLE, Int.reduceGT, Int.reduceGE, Int.reduceNeg, Int.reduceAdd, Int.reduceSub, reduceCtorEq, List.reduceReplicate, ← List.map_take, ← List.map_drop]
  refine callI_pure h0 rfl rfl ?_
  simp -dsimp -implicitDefEqProofs only [qq, Nat.reduceBEq, reduceIte, Nat.reduceAdd, Nat.reduceSub, Nat.reduceLeDiff, Nat.reduceLT, Nat.reduceMul, Nat.reduceEqDiff, Int.reduceEq, Int.reduceBEq, Int.reduceBNe, Int.reduceLT, Int.reduceLE, Int.reduceGT, Int.reduceGE, Int.reduceNeg, Int.reduceAdd, Int.reduceSub, reduceCtorEq, List.reduceReplicate, ← List.map_take, ← List.map_drop]
  refine ⟨by decide, callI_pure c2 rfl rfl ?_⟩
  simp -dsimp -implicitDefEqProofs only [qq, Nat.reduceBEq, reduceIte, Nat.reduceAdd, Nat.reduceSub, Nat.reduceLeDiff, Nat.reduceLT, Nat.reduceMul, Nat.reduceEqDiff, Int.reduceEq, Int.reduceBEq, Int.reduceBNe, Int.reduceLT, Int.reduceLE, Int.reduceGT, Int.reduceGE, Int.reduceNeg, Int.reduceAdd, Int.reduceSub, reduceCtorEq, List.reduceReplicate, ← List.map_take, ← List.map_drop]
  refine callI_pure c3 rfl rfl ?_
  simp -dsimp -implicitDefEqProofs only [qq, Nat.reduceBEq, reduceIte, Nat.reduceAdd, Nat.reduceSub, Nat.reduceLeDiff, Nat.reduceLT, Nat.reduceMul, Nat.reduceEqDiff, Int.reduceEq, Int.reduceBEq, Int.reduceBNe, Int.reduceLT, Int.reduceLE, Int.reduceGT, Int.reduceGE, Int.reduceNeg, Int.reduceAdd, Int.reduceSub, reduceCtorEq, List.reduceReplicate, ← List.map_take, ← List.map_drop]
  refine callI_pure c4 rfl rfl ?_
  simp -dsimp -implicitDefEqProofs only [qq, Nat.reduceBEq, reduceIte, Nat.reduceAdd, Nat.reduceSub, Nat.reduceLeDiff, Nat.reduceLT, Nat.reduceMul, Nat.reduceEqDiff, Int.reduceEq, Int.reduceBEq, Int.reduceBNe, Int.reduceLT, Int.reduceLE, Int.reduceGT, Int.reduceGE, Int.reduceNeg, Int.reduceAdd, Int.reduceSub, reduceCtorEq, List.reduceReplicate, ← List.map_take, ← List.map_drop]
  refine callI_pure c5 rfl rfl ?_
  simp -dsimp -implicitDefEqProofs only [qq, Nat.reduceBEq, reduceIte, Nat.reduceAdd, Nat.reduceSub, Nat.reduceLeDiff, Nat.reduceLT, Nat.reduceMul, Nat.reduceEqDiff, Int.reduceEq, Int.reduceBEq, Int.reduceBNe, Int.reduceLT, Int.reduceLE, Int.reduceGT, Int.reduceGE, Int.reduceNeg, Int.reduceAdd, Int.reduceSub, reduceCtorEq, List.reduceReplicate, ← List.map_take, ← List.map_drop]
  refine callI_pure c6 rfl rfl ?_
  simp -dsimp -implicitDefEqProofs only [qq, Nat.reduceBEq, reduceIte, Nat.reduceAdd, Nat.reduceSub, Nat.reduceLeDiff, Nat.reduceLT, Nat.reduceMul, Nat.reduceEqDiff, Int.reduceEq, Int.reduceBEq, Int.reduceBNe, Int.reduceLT, Int.reduceLE, Int.reduceGT, Int.reduceGE, Int.reduceNeg, Int.reduceAdd, Int.reduceSub, reduceCtorEq, List.reduceReplicate, ← List.map_take, ← List.map_drop]
  refine callI_pure c7 rfl rfl ?_
  simp -dsimp -implicitDefEqProofs only [qq, Nat.reduceBEq, reduceIte, Nat.reduceAdd, Nat.reduceSub, Nat.reduceLeDiff, Nat.reduceLT, Nat.reduceMul, Nat.reduceEqDiff, Int.reduceEq, Int.reduceBEq, Int.reduceBNe, Int.reduceLT, Int.reduceLE, Int.reduceGT, Int.reduceGE, Int.reduceNeg, Int.reduceAdd, Int.reduceSub, reduceCtorEq, List.reduceReplicate, ← List.map_take, ← List.map_drop]
  refine callI_pure h0 rfl rfl ?_
  simp -dsimp -implicitDefEqProofs only [qq, Nat.reduceBEq, reduceIte, Nat.reduceAdd, Nat.reduceSub, Nat.reduceLeDiff, Nat.reduceLT, Nat.reduceMul, Nat.reduceEqDiff, Int.reduceEq, Int.reduceBEq, Int.reduceBNe, Int.reduceLT, Int.reduceLE, Int.reduceGT, Int.reduceGE, Int.reduceNeg, Int.reduceAdd, Int.reduceSub, reduceCtorEq, List.reduceReplicate, ← List.map_take, ← List.map_drop]
  refine callI_pure c8 rfl rfl ?_
  simp -dsimp -implicitDefEqProofs only [qq, Nat.reduceBEq, reduceIte, Nat.reduceAdd, Nat.reduceSub, Nat.reduceLeDiff, Nat.reduceLT, Nat.reduceMul, Nat.reduceEqDiff, Int.reduceEq, Int.reduceBEq, Int.reduceBNe, Int.reduceLT, Int.reduceLE, Int.reduceGT, Int.reduceGE, Int.reduceNeg, Int.reduceAdd, Int.reduceSub, reduceCtorEq, List.reduceReplicate, ← List.map_take, ← List.map_drop]
  refine callI_lend2 d1 (.keep _ rfl) (frz_lit rfl rfl (by decide)) rfl ?_
  simp -dsimp -implicitDefEqProofs only [qq, Nat.reduceBEq, reduceIte, Nat.reduceAdd, Nat.reduceSub, Nat.reduceLeDiff, Nat.reduceLT, Nat.reduceMul, Nat.reduceEqDiff, Int.reduceEq, Int.reduceBEq, Int.reduceBNe, Int.reduceLT, Int.reduceLE, Int.reduceGT, Int.reduceGE, Int.reduceNeg, Int.reduceAdd, Int.reduceSub, reduceCtorEq, List.reduceReplicate, ← List.map_take, ← List.map_drop]
  refine callI_lend2 d2 (.keep _ rfl) (frz_col (us := [.rsl 5 1 0 2 2 true, .rsl 6 1 0 1 1 true]) (us' := [.fsl ([0, 2].map intC), .fsl ([1].map intC)]) rfl rfl rfl (by simp [V.bel]) fun i u u' e1 e2 => ?_) rfl ?_
  · match i with
    | 0 => simp at e1 e2; subst e1 e2; exact frz_lit rfl rfl (by decide)
    | 1 => simp at e1 e2; subst e1 e2; exact frz_lit rfl rfl (by decide)
    | i + 2 => simp at e1
  simp -dsimp -implicitDefEqProofs only [qq, Nat.reduceBEq, reduceIte, Nat.reduceAdd, Nat.reduceSub, Nat.reduceLeDiff, Nat.reduceLT, Nat.reduceMul, Nat.reduceEqDiff, Int.reduceEq, Int.reduceBEq, Int.reduceBNe, Int.reduceLT, Int.reduceLE, Int.reduceGT, Int.reduceGE, Int.reduceNeg, Int.reduceAdd, Int.reduceSub, reduceCtorEq, List.reduceReplicate, ← List.map_take, ← List.map_drop]
  refine callI_lend2 d3 (.keep _ rfl) (frz_lit rfl rfl (by decide)) rfl ?_
  simp -dsimp -implicitDefEqProofs only [qq, Nat.reduceBEq, reduceIte, Nat.reduceAdd, Nat.reduceSub, Nat.reduceLeDiff, Nat.reduceLT, Nat.reduceMul, Nat.reduceEqDiff, Int.reduceEq, Int.reduceBEq, Int.reduceBNe, Int.reduceLT, Int.reduceLE, Int.reduceGT, Int.reduceGE, Int.reduceNeg, Int.reduceAdd, Int.reduceSub, reduceCtorEq, List.reduceReplicate, ← List.map_take, ← List.map_drop]
  exact Ends.plain rfl rfl rfl
end Go.Sh.C3
end
section
namespace Go.Sh.C3
open Go.Sh
set_option maxRecDepth 10000
set_option linter.unusedVariables false
set_option linter.unusedSimpArgs false
variable {P : Program}
abbrev kilnC (l : List Raw) (order : List Int) (a b : Int) : List V := [.fsl (l.map Raw.C), .fsl (order.map intC), .i .i64 a, .i .i64 b]
theorem wadS_ok (a b : Int) : rgB (wadS a b) 0 200 = true := by
  have h1 := mod_pos (n := a) (m := 15) (by decide)
  have h2 := mod_pos (n := b) (m := 10) (by decide)
  simp only [rgB, wadS]
  rw [decide_eq_true (by omega), decide_eq_true (by omega), decide_eq_true (by omega)]; rfl
theorem stack_bung (l : List Raw) (order : List Int) (a b : Int) : bungB (wadS a b) (stackS l order) = true := by
  have h1 := stackS_len l order
  have h2 := sagsS_len l
  rw [bungB, wadS_ok, stackS_ok, decide_eq_true (by omega)]; rfl
end Go.Sh.C3
end
section
namespace Go.Sh.C3
open Go.Sh
set_option maxRecDepth 10000
set_option linter.unusedVariables false
set_option linter.unusedSimpArgs false
variable {P : Program}
end Go.Sh.C3
end
section
namespace Go.Sh.C3
open Go.Sh
set_option maxRecDepth 10000
set_option linter.unusedVariables false
set_option linter.unusedSimpArgs false
variable {P : Program}
end Go.Sh.C3
end
section
namespace Go.Sh.C3
open Go.Sh
set_option maxRecDepth 10000
set_option linter.unusedVariables false
set_option linter.unusedSimpArgs false
variable {P : Program}
theorem newZ_lit {H0 H : List Blk} {k p : Nat} (hH : H = H0 ++ [.row k []]) (hp : p = H0.length) : NewZ H0 H k [] (.rsl p k 0 0 0 true) := by
  subst hH; subst hp
  exact ⟨.inr ⟨_, 0, true, rfl, get_new _ _⟩, by simp, fun p b hb => get_app hb _, fun p k' o l c e he => by simp at he; omega⟩
end Go.Sh.C3
end
section
namespace Go.Sh.C3
open Go.Sh
set_option maxRecDepth 10000
set_option linter.unusedVariables false
set_option linter.unusedSimpArgs false
variable {P : Program}
def ic_bung_seats (f0 f1 f2 f3 : Nat) : IC := .seq (.reg [⟨some 6, none, .mov (.c (.nsl))⟩, ⟨some 7, none, .mov (.c (.b false))⟩] [0, 1, 2]) (.seq (.reg [⟨some 13, none, .mov (.t 2)⟩, ⟨some 14, none, .len false (.t 13)⟩, ⟨some 8, none, .mov (.t 14)⟩] [0, 1, 2, 8]) (.seq (.seq (.reg [⟨some 15, none, .mov (.t 8)⟩, ⟨some 16, none, .mov (.t 0)⟩, ⟨some 17, none, .len false (.t 16)⟩, ⟨some 18, none, .bin .eql (.t 15) (.t 17)⟩] [0, 1, 2, 8, 18]) (.cond (.t 18) (.seq (.reg [⟨some 19, none, .mov (.t 2)⟩, ⟨some 6, none, .mov (.t 19)⟩, ⟨some 7, none, .mov (.c (.b true))⟩] [6, 7]) (.ret)) (.skip))) (.seq (.seq (.reg [⟨some 20, none, .mov (.t 1)⟩, ⟨some 21, none, .len false (.t 20)⟩, ⟨some 22, none, .mov (.c (.i .i64 (0)))⟩] [0, 1, 2, 8, 20, 21, 22]) (.block 0 (.loop (.seq (.reg [⟨some 23, none, .bin .lss (.t 22) (.t 21)⟩] [0, 1, 2, 8, 20, 21, 22, 23]) (.seq (.cond (.t 23) (.skip) (.exit 0)) (.seq (.block 1 (.seq (.reg [⟨some 24, none, .mov (.t 22)⟩, ⟨some 25, none, .ixs 2 (.t 20) (.t 22)⟩, ⟨some 26, none, .ld (some 2) (.t 25)⟩, ⟨some 10, none, .alloc [.i .i64 (0), .i .i64 (0)]⟩, ⟨some 9, none, .mov (.t 24)⟩, ⟨none, none, .st 2 (.t 10) (.t 26)⟩] [0, 1, 2, 8, 9, 10, 20, 21, 22]) (.seq (.seq (.drg [(0, ⟨some 27, none, .mov (.t 2)⟩), (0, ⟨some 28, none, .mov (.t 9)⟩), (0, ⟨some 29, none, .calv (.c (.fn (.func f0) [] [])) [.t 27, .t 28]⟩), (0, ⟨some 30, none, .mov (.t 29)⟩), (0, ⟨some 31, some (30, false), .mov (.t 0)⟩), (0, ⟨some 32, some (30, false), .mov (.t 8)⟩), (0, ⟨some 33, some (30, false), .ixs 3 (.t 31) (.t 32)⟩), (0, ⟨some 34, some (30, false), .ld (some 3) (.t 33)⟩), (0, ⟨some 35, some (30, false), .ld (some 2) (.t 10)⟩), (0, ⟨some 36, some (30, false), .calv (.c (.fn (.func f1) [] [])) [.t 34, .t 35]⟩), (0, ⟨some 37, some (30, false), .bin .neq (.t 36) (.c (.i .i64 (1)))⟩), (0, ⟨some 38, none, .pick (.t 30) (.c (.b true)) (.t 37)⟩)] 9 [0, 1, 2, 8, 9, 20, 21, 22, 38]) (.cond (.t 38) (.exit 1) (.skip))) (.seq (.reg [⟨some 40, none, .mov (.t 0)⟩, ⟨some 41, none, .mov (.t 1)⟩, ⟨some 42, none, .mov (.t 2)⟩, ⟨some 43, none, .calv (.c (.fn (.func f2) [] [])) [.t 42]⟩, ⟨some 44, none, .mov (.t 9)⟩, ⟨some 45, none, .bsl false 1 1 [.i .i64 (0)] [(0, (.t 44))]⟩, ⟨some 46, none, .app 1 8 (.t 43) (.t 45)⟩, ⟨some 47, none, .calv (.c (.fn (.func f3) [] [])) [.t 40, .t 41, .t 46]⟩, ⟨some 39, none, .mov (.t 47)⟩, ⟨some 48, none, .ext (.t 39) 0⟩, ⟨some 49, none, .ext (.t 39) 1⟩, ⟨some 11, none, .mov (.t 48)⟩, ⟨some 12, none, .mov (.t 49)⟩] [0, 1, 2, 8, 11, 12, 20, 21, 22]) (.seq (.reg [⟨some 50, none, .mov (.t 12)⟩] [0, 1, 2, 8, 11, 20, 21, 22, 50]) (.cond (.t 50) (.seq (.reg [⟨some 51, none, .mov (.t 11)⟩, ⟨some 6, none, .mov (.t 51)⟩, ⟨some 7, none, .mov (.c (.b true))⟩] [6, 7]) (.ret)) (.skip))))))) (.reg [⟨some 52, none, .bin .add (.t 22) (.c (.i .i64 (1)))⟩, ⟨some 22, none, .mov (.t 52)⟩] [0, 1, 2, 8, 20, 21, 22]))))))) (.seq (.reg [⟨some 6, none, .mov (.c (.nsl))⟩, ⟨some 7, none, .mov (.c (.b false))⟩] [6, 7]) (.ret)))))
abbrev Low_bung_seats (P : Program) (f f0 f1 f2 f3 : Nat) : Prop := lowF P f = some (53, [.tmp 6, .tmp 7], (ic_bung_seats f0 f1 f2 f3).erase)
def ic_bung_Seat (f0 f1 f2 : Nat) : IC := .seq (.reg [⟨some 4, none, .mov (.c (.nsl))⟩, ⟨some 5, none, .mov (.c (.i .i64 (0)))⟩] [0, 1]) (.seq (.seq (.reg [⟨some 12, none, .mov (.t 0)⟩, ⟨some 13, none, .len false (.t 12)⟩, ⟨some 14, none, .mov (.c (.i .i64 (0)))⟩] [0, 1, 12, 13, 14]) (.block 0 (.loop (.seq (.reg [⟨some 15, none, .bin .lss (.t 14) (.t 13)⟩] [0, 1, 12, 13, 14, 15]) (.seq (.cond (.t 15) (.skip) (.exit 0)) (.seq (.block 1 (.seq (.reg [⟨some 16, none, .ixs 3 (.t 12) (.t 14)⟩, ⟨some 17, none, .ld (some 3) (.t 16)⟩, ⟨some 7, none, .alloc [.i .i64 (0), .i .i64 (0), .nsl]⟩, ⟨none, none, .st 3 (.t 7) (.t 17)⟩] [0, 1, 7, 12, 13, 14]) (.seq (.reg [⟨some 18, none, .ld (some 3) (.t 7)⟩, ⟨some 19, none, .calv (.c (.fn (.func f0) [] [])) [.t 18]⟩, ⟨some 20, none, .un .not (.t 19)⟩] [0, 1, 12, 13, 14, 20]) (.cond (.t 20) (.seq (.reg [⟨some 4, none, .mov (.c (.nsl))⟩, ⟨some 5, none, .mov (.c (.i .i64 (31)))⟩] [4, 5]) (.ret)) (.skip))))) (.reg [⟨some 21, none, .bin .add (.t 14) (.c (.i .i64 (1)))⟩, ⟨some 14, none, .mov (.t 21)⟩] [0, 1, 12, 13, 14]))))))) (.seq (.seq (.reg [⟨some 22, none, .mov (.t 1)⟩, ⟨some 23, none, .len false (.t 22)⟩, ⟨some 24, none, .mov (.c (.i .i64 (0)))⟩] [0, 1, 22, 23, 24]) (.block 2 (.loop (.seq (.reg [⟨some 25, none, .bin .lss (.t 24) (.t 23)⟩] [0, 1, 22, 23, 24, 25]) (.seq (.cond (.t 25) (.skip) (.exit 2)) (.seq (.block 3 (.seq (.reg [⟨some 26, none, .ixs 2 (.t 22) (.t 24)⟩, ⟨some 27, none, .ld (some 2) (.t 26)⟩, ⟨some 9, none, .alloc [.i .i64 (0), .i .i64 (0)]⟩, ⟨none, none, .st 2 (.t 9) (.t 27)⟩] [0, 1, 9, 22, 23, 24]) (.seq (.reg [⟨some 28, none, .ld (some 2) (.t 9)⟩, ⟨some 29, none, .calv (.c (.fn (.func f1) [] [])) [.t 28]⟩, ⟨some 30, none, .un .not (.t 29)⟩] [0, 1, 22, 23, 24, 30]) (.cond (.t 30) (.seq (.reg [⟨some 4, none, .mov (.c (.nsl))⟩, ⟨some 5, none, .mov (.c (.i .i64 (33)))⟩] [4, 5]) (.ret)) (.skip))))) (.reg [⟨some 31, none, .bin .add (.t 24) (.c (.i .i64 (1)))⟩, ⟨some 24, none, .mov (.t 31)⟩] [0, 1, 22, 23, 24]))))))) (.seq (.seq (.reg [⟨some 32, none, .mov (.t 0)⟩, ⟨some 33, none, .len false (.t 32)⟩, ⟨some 34, none, .mov (.t 1)⟩, ⟨some 35, none, .len false (.t 34)⟩, ⟨some 36, none, .mm true (.t 33) (.t 35)⟩, ⟨some 37, none, .bin .gtr (.t 36) (.c (.i .i64 (9)))⟩] [0, 1, 37]) (.cond (.t 37) (.seq (.reg [⟨some 4, none, .mov (.c (.nsl))⟩, ⟨some 5, none, .mov (.c (.i .i64 (36)))⟩] [4, 5]) (.ret)) (.skip))) (.seq (.reg [⟨some 39, none, .mov (.t 0)⟩, ⟨some 40, none, .mov (.t 1)⟩, ⟨some 41, none, .calv (.c (.fn (.func f2) [] [])) [.t 39, .t 40, .c (.nsl)]⟩, ⟨some 38, none, .mov (.t 41)⟩, ⟨some 42, none, .ext (.t 38) 0⟩, ⟨some 43, none, .ext (.t 38) 1⟩, ⟨some 10, none, .mov (.t 42)⟩, ⟨some 11, none, .mov (.t 43)⟩] [10, 11]) (.seq (.seq (.reg [⟨some 44, none, .mov (.t 11)⟩, ⟨some 45, none, .un .not (.t 44)⟩] [10, 45]) (.cond (.t 45) (.seq (.reg [⟨some 4, none, .mov (.c (.nsl))⟩, ⟨some 5, none, .mov (.c (.i .i64 (3)))⟩] [4, 5]) (.ret)) (.skip))) (.seq (.reg [⟨some 46, none, .mov (.t 10)⟩, ⟨some 4, none, .mov (.t 46)⟩, ⟨some 5, none, .mov (.c (.i .i64 (0)))⟩] [4, 5]) (.ret)))))))
abbrev Low_bung_Seat (P : Program) (f f0 f1 f2 : Nat) : Prop := lowF P f = some (47, [.tmp 4, .tmp 5], (ic_bung_Seat f0 f1 f2).erase)
def ic_potbankref01_Has : IC := .seq (.reg [⟨some 4, none, .mov (.c (.b false))⟩] [0, 1]) (.seq (.seq (.reg [⟨some 5, none, .mov (.c (.i .i64 (0)))⟩] [0, 1, 5]) (.block 0 (.loop (.seq (.seq (.reg [⟨some 6, none, .mov (.t 5)⟩, ⟨some 7, none, .mov (.t 0)⟩, ⟨some 8, none, .len false (.t 7)⟩, ⟨some 9, none, .bin .lss (.t 6) (.t 8)⟩] [0, 1, 5, 9]) (.cond (.t 9) (.skip) (.exit 0))) (.seq (.block 1 (.seq (.reg [⟨some 12, none, .mov (.t 0)⟩, ⟨some 13, none, .mov (.t 5)⟩, ⟨some 14, none, .ixs 1 (.t 12) (.t 13)⟩, ⟨some 15, none, .ld none (.t 14)⟩, ⟨some 16, none, .mov (.t 1)⟩, ⟨some 17, none, .bin .eql (.t 15) (.t 16)⟩] [0, 1, 5, 17]) (.cond (.t 17) (.seq (.reg [⟨some 4, none, .mov (.c (.b true))⟩] [4]) (.ret)) (.skip)))) (.reg [⟨some 10, none, .mov (.t 5)⟩, ⟨some 11, none, .bin .add (.t 10) (.c (.i .i64 (1)))⟩, ⟨some 5, none, .mov (.t 11)⟩] [0, 1, 5])))))) (.seq (.reg [⟨some 4, none, .mov (.c (.b false))⟩] [4]) (.ret)))
abbrev Low_potbankref01_Has (P : Program) (f : Nat) : Prop := lowF P f = some (18, [.tmp 4], (ic_potbankref01_Has).erase)

abbrev Bg := Rg × List Sag
abbrev bgC (b : Bg) : List V := bungC b.1 b.2
/-- The first spots for those from the (n - r)-th on, none of them taken. -/
def seatS (fit : Nat → Nat → Bool) (n ns : Nat) : Nat → List Int → Option (List Int)
  | 0, out => some out
  | r + 1, out => (List.range ns).findSome? fun (k : Nat) => if (decide ((k : Int) ∈ out) || !fit (n - (r + 1)) k) = true then none else seatS fit n ns r (out ++ [(k : Int)])
def fitB (l : List Bg) (s : List Spt) (i k : Nat) : Bool := match l[i]?, s[k]? with | some b, some x => fitsS b.1 b.2 x == 1 | _, _ => false
theorem seatS_none {fit : Nat → Nat → Bool} {n ns r : Nat} {out : List Int} (h : ∀ j, j < ns → (if (decide ((j : Int) ∈ out) || !fit (n - (r + 1)) j) = true then none else seatS fit n ns r (out ++ [(j : Int)])) = none) : seatS fit n ns (r + 1) out = none := by
  rw [seatS, List.findSome?_eq_none_iff]
  exact fun j hj => h j (by simpa using hj)
theorem seatS_some {fit : Nat → Nat → Bool} {n ns r k : Nat} {out b : List Int} (hk : k < ns) (h : ∀ j, j < k → (if (decide ((j : Int) ∈ out) || !fit (n - (r + 1)) j) = true then none else seatS fit n ns r (out ++ [(j : Int)])) = none)
    (hf : (if (decide ((k : Int) ∈ out) || !fit (n - (r + 1)) k) = true then none else seatS fit n ns r (out ++ [(k : Int)])) = some b) : seatS fit n ns (r + 1) out = some b := by
  rw [seatS]
  exact findSome_range hk h hf
theorem seatS_len {fit : Nat → Nat → Bool} {n ns : Nat} : ∀ {r : Nat} {out b : List Int}, seatS fit n ns r out = some b → b.length = out.length + r
  | 0, out, b, h => by cases h; rfl
  | r + 1, out, b, h => by
    rw [seatS] at h
    obtain ⟨k, _, hk⟩ := List.exists_of_findSome?_eq_some h
    split at hk
    · cases hk
    · have := seatS_len hk; simp at this; omega
def seatV (o : Option (List Int)) : V := .tup [.fsl ((o.getD []).map intC), .b o.isSome]

def C_seats (P : Program) (f : Nat) : Prop := ∀ (r : Nat) (l : List Bg) (s : List Spt) (out : List Int), (∀ b ∈ l, bungB b.1 b.2 = true) → l.length ≤ 9 → s.length ≤ 9 → out.length + r = l.length → Snd P f [.fsl (l.map bgC), .fsl (s.map Spt.c), .fsl (out.map intC)] [] (seatV (seatS (fitB l s) l.length s.length r out)) []
theorem ok_seats (hm : P.follows .mixedOrders = true) {f f0 f1 f2 : Nat} (low : Low_bung_seats P f f0 f1 f2 f) (h0 : C_Contains P f0) (h1 : C_fits P f1) (h2 : C_CloneI P f2) : C_seats P f := by
  intro r
  induction r with
  | zero =>
    intro l s out hv hl hs ho
    have hc : ((out.length : Int) == (l.length : Int)) = true := by simp; omega
    refine snd_ic hm low (by simp) ?_
    unfold ic_bung_seats
    simp -dsimp -implicitDefEqProofs only [qq, Nat.reduceBEq, reduceIte, Nat.reduceAdd, Nat.reduceSub, Nat.reduceLeDiff, Nat.reduceLT, Nat.reduceMul, Nat.reduceEqDiff, Int.reduceEq, Int.reduceBEq, Int.reduceBNe, Int.reduceLT, Int.reduceLE, Int.reduceGT, Int.reduceGE, Int.reduceNeg, Int.reduceAdd, Int.reduceSub, reduceCtorEq, List.reduceReplicate, ← List.map_take, ← List.map_drop]
    simp -dsimp -implicitDefEqProofs only [hc, qq, Nat.reduceBEq, reduceIte, Nat.reduceAdd, Nat.reduceSub, Nat.reduceLeDiff, Nat.reduceLT, Nat.reduceMul, Nat.reduceEqDiff, Int.reduceEq, Int.reduceBEq, Int.reduceBNe, Int.reduceLT, Int.reduceLE, Int.reduceGT, Int.reduceGE, Int.reduceNeg, Int.reduceAdd, Int.reduceSub, reduceCtorEq, List.reduceReplicate, ← List.map_take, ← List.map_drop]
    exact Ends.ret rfl (frz_keep2 rfl rfl)
  | succ r ih =>
    intro l s out hv hl hs ho
    have hc : ((out.length : Int) == (l.length : Int)) = false := by simp; omega
    obtain ⟨b, hb, hbm, _, _⟩ := next_of (show out.length < l.length by omega)
    have hat : l.length - (r + 1) = out.length := by omega
    refine snd_ic hm low (by simp) ?_
    unfold ic_bung_seats
    simp -dsimp -implicitDefEqProofs only [qq, Nat.reduceBEq, reduceIte, Nat.reduceAdd, Nat.reduceSub, Nat.reduceLeDiff, Nat.reduceLT, Nat.reduceMul, Nat.reduceEqDiff, Int.reduceEq, Int.reduceBEq, Int.reduceBNe, Int.reduceLT, Int.reduceLE, Int.reduceGT, Int.reduceGE, Int.reduceNeg, Int.reduceAdd, Int.reduceSub, reduceCtorEq, List.reduceReplicate, ← List.map_take, ← List.map_drop]
    simp -dsimp -implicitDefEqProofs only [hc, qq, Nat.reduceBEq, reduceIte, Nat.reduceAdd, Nat.reduceSub, Nat.reduceLeDiff, Nat.reduceLT, Nat.reduceMul, Nat.reduceEqDiff, Int.reduceEq, Int.reduceBEq, Int.reduceBNe, Int.reduceLT, Int.reduceLE, Int.reduceGT, Int.reduceGE, Int.reduceNeg, Int.reduceAdd, Int.reduceSub, reduceCtorEq, List.reduceReplicate, ← List.map_take, ← List.map_drop]
    refine loopI_st (fun k : Nat => s.length - k) (fun k E H => k ≤ s.length ∧ E = [(0, .fsl (l.map bgC)), (1, .fsl (s.map Spt.c)), (2, .fsl (out.map intC)), (8, .i .i64 out.length), (20, .fsl (s.map Spt.c)), (21, .i .i64 s.length), (22, .i .i64 k)] ∧
      ∀ j, j < k → (if (decide ((j : Int) ∈ out) || !fitB l s (l.length - (r + 1)) j) = true then none else seatS (fitB l s) l.length s.length r (out ++ [(j : Int)])) = none) 0 ⟨by omega, rfl, fun j hj => by omega⟩ ?_
    rintro k _ H ⟨hk, rfl, hno⟩
    rcases Nat.lt_or_ge k s.length with hkl | hkl
    · have hc : decide ((k : Int) < (s.length : Int)) = true := by simpa using hkl
      obtain ⟨x, hx, hxm, _, _⟩ := next_of hkl
      have hwk : IntKind.i64.wrap ((k : Int) + 1) = ((k + 1 : Nat) : Int) := wrap_succ (by omega)
      have hfb : fitB l s (l.length - (r + 1)) k = (fitsS b.1 b.2 x == 1) := by rw [hat]; simp only [fitB, hb, hx]
      have next : (if (decide ((k : Int) ∈ out) || !fitB l s (l.length - (r + 1)) k) = true then none else seatS (fitB l s) l.length s.length r (out ++ [(k : Int)])) = none → ∀ j, j < k + 1 → (if (decide ((j : Int) ∈ out) || !fitB l s (l.length - (r + 1)) j) = true then none else seatS (fitB l s) l.length s.length r (out ++ [(j : Int)])) = none := fun h j hj => by
        rcases Nat.lt_succ_iff_lt_or_eq.1 hj with g | rfl
        · exact hno j g
        · exact h
      simp -dsimp -implicitDefEqProofs only [hc, hx, Spt.c, qq, Nat.reduceBEq, reduceIte, Nat.reduceAdd, Nat.reduceSub, Nat.reduceLeDiff, Nat.reduceLT, Nat.reduceMul, Nat.reduceEqDiff, Int.reduceEq, Int.reduceBEq, Int.reduceBNe, Int.reduceLT, Int.reduceLE, Int.reduceGT, Int.reduceGE, Int.reduceNeg, Int.reduceAdd, Int.reduceSub, reduceCtorEq, List.reduceReplicate, ← List.map_take, ← List.map_drop]
      refine callI_pure (h0 out k (by omega)) rfl rfl ?_
      cases hin : decide ((k : Int) ∈ out)
      case true =>
        simp -dsimp -implicitDefEqProofs only [hwk, qq, Nat.reduceBEq, reduceIte, Nat.reduceAdd, Nat.reduceSub, Nat.reduceLeDiff, Nat.reduceLT, Nat.reduceMul, Nat.reduceEqDiff, Int.reduceEq, Int.reduceBEq, Int.reduceBNe, Int.reduceLT, Int.reduceLE, Int.reduceGT, Int.reduceGE, Int.reduceNeg, Int.reduceAdd, Int.reduceSub, reduceCtorEq, List.reduceReplicate, ← List.map_take, ← List.map_drop]
        exact ⟨k + 1, by omega, by omega, rfl, next (by rw [hin]; rfl)⟩
      simp -dsimp -implicitDefEqProofs only [hb, bgC, bungC, Rg.c, qq, Nat.reduceBEq, reduceIte, Nat.reduceAdd, Nat.reduceSub, Nat.reduceLeDiff, Nat.reduceLT, Nat.reduceMul, Nat.reduceEqDiff, Int.reduceEq, Int.reduceBEq, Int.reduceBNe, Int.reduceLT, Int.reduceLE, Int.reduceGT, Int.reduceGE, Int.reduceNeg, Int.reduceAdd, Int.reduceSub, reduceCtorEq, List.reduceReplicate, ← List.map_take, ← List.map_drop]
      refine callI_pure (h1 b.1 b.2 x (hv b hbm)) rfl rfl ?_
      cases hf : (fitsS b.1 b.2 x == 1)
      case false =>
        have hf2 : (fitsS b.1 b.2 x != 1) = true := by rw [bne, hf]; rfl
        simp -dsimp -implicitDefEqProofs only [hf2, hwk, qq, Nat.reduceBEq, reduceIte, Nat.reduceAdd, Nat.reduceSub, Nat.reduceLeDiff, Nat.reduceLT, Nat.reduceMul, Nat.reduceEqDiff, Int.reduceEq, Int.reduceBEq, Int.reduceBNe, Int.reduceLT, Int.reduceLE, Int.reduceGT, Int.reduceGE, Int.reduceNeg, Int.reduceAdd, Int.reduceSub, reduceCtorEq, List.reduceReplicate, ← List.map_take, ← List.map_drop]
        exact ⟨k + 1, by omega, by omega, rfl, next (by rw [hfb, hf]; simp)⟩
      have hf2 : (fitsS b.1 b.2 x != 1) = false := by rw [bne, hf]; rfl
      simp -dsimp -implicitDefEqProofs only [hf2, qq, Nat.reduceBEq, reduceIte, Nat.reduceAdd, Nat.reduceSub, Nat.reduceLeDiff, Nat.reduceLT, Nat.reduceMul, Nat.reduceEqDiff, Int.reduceEq, Int.reduceBEq, Int.reduceBNe, Int.reduceLT, Int.reduceLE, Int.reduceGT, Int.reduceGE, Int.reduceNeg, Int.reduceAdd, Int.reduceSub, reduceCtorEq, List.reduceReplicate, ← List.map_take, ← List.map_drop]
      refine callI_x (h2 _ out (by omega)) fun v Hn hn => ?_
      simp -dsimp -implicitDefEqProofs only [qq, Nat.reduceBEq, reduceIte, Nat.reduceAdd, Nat.reduceSub, Nat.reduceLeDiff, Nat.reduceLT, Nat.reduceMul, Nat.reduceEqDiff, Int.reduceEq, Int.reduceBEq, Int.reduceBNe, Int.reduceLT, Int.reduceLE, Int.reduceGT, Int.reduceGE, Int.reduceNeg, Int.reduceAdd, Int.reduceSub, reduceCtorEq, List.reduceReplicate, ← List.map_take, ← List.map_drop]
      refine app_own (ys := [[.i .i64 k]]) (hn.own.app _) (by decide) (by decide) (by simp [Sh.shown, gapp]) (by simp [V.one]) (by simp; omega) fun v2 H2 ho2 ha2 hf2 => ?_
      obtain ⟨p2, c2, e2, rfl, hp2⟩ := ho2.pos (by simp)
      simp -dsimp -implicitDefEqProofs only [qq, Nat.reduceBEq, reduceIte, Nat.reduceAdd, Nat.reduceSub, Nat.reduceLeDiff, Nat.reduceLT, Nat.reduceMul, Nat.reduceEqDiff, Int.reduceEq, Int.reduceBEq, Int.reduceBNe, Int.reduceLT, Int.reduceLE, Int.reduceGT, Int.reduceGE, Int.reduceNeg, Int.reduceAdd, Int.reduceSub, reduceCtorEq, List.reduceReplicate, ← List.map_take, ← List.map_drop]
      refine callI_give (fun i => i == p2) (.cons (.keep _) (.cons (.keep _) (.cons (give_lit (rows := (out ++ [(k : Int)]).map intC) (by simp) (by rw [hp2]; simp) (by simp) (bel_ints _)) .nil))) ?_
      refine callI_pure (ih l s (out ++ [(k : Int)]) hv hl hs (by simp; omega)) rfl rfl ?_
      have hstep : (if (decide ((k : Int) ∈ out) || !fitB l s (l.length - (r + 1)) k) = true then none else seatS (fitB l s) l.length s.length r (out ++ [(k : Int)])) = seatS (fitB l s) l.length s.length r (out ++ [(k : Int)]) := by rw [hin, hfb, hf]; rfl
      cases hr : seatS (fitB l s) l.length s.length r (out ++ [(k : Int)]) with
      | none =>
        simp -dsimp -implicitDefEqProofs only [seatV, Option.isSome, hwk, qq, Nat.reduceBEq, reduceIte, Nat.reduceAdd, Nat.reduceSub, Nat.reduceLeDiff, Nat.reduceLT, Nat.reduceMul, Nat.reduceEqDiff, Int.reduceEq, Int.reduceBEq, Int.reduceBNe, Int.reduceLT, Int.reduceLE, Int.reduceGT, Int.reduceGE, Int.reduceNeg, Int.reduceAdd, Int.reduceSub, reduceCtorEq, List.reduceReplicate, ← List.map_take, ← List.map_drop]
        exact ⟨k + 1, by omega, by omega, rfl, next (by rw [hstep, hr])⟩
      | some res =>
        simp -dsimp -implicitDefEqProofs only [seatV, Option.isSome, qq, Nat.reduceBEq, reduceIte, Nat.reduceAdd, Nat.reduceSub, Nat.reduceLeDiff, Nat.reduceLT, Nat.reduceMul, Nat.reduceEqDiff, Int.reduceEq, Int.reduceBEq, Int.reduceBNe, Int.reduceLT, Int.reduceLE, Int.reduceGT, Int.reduceGE, Int.reduceNeg, Int.reduceAdd, Int.reduceSub, reduceCtorEq, List.reduceReplicate, ← List.map_take, ← List.map_drop]
        rw [seatS_some hkl hno (by rw [hstep, hr])]
        exact Ends.ret rfl (frz_keep2 rfl rfl)
    · have hc : decide ((k : Int) < (s.length : Int)) = false := by simp; omega
      simp -dsimp -implicitDefEqProofs only [hc, qq, Nat.reduceBEq, reduceIte, Nat.reduceAdd, Nat.reduceSub, Nat.reduceLeDiff, Nat.reduceLT, Nat.reduceMul, Nat.reduceEqDiff, Int.reduceEq, Int.reduceBEq, Int.reduceBNe, Int.reduceLT, Int.reduceLE, Int.reduceGT, Int.reduceGE, Int.reduceNeg, Int.reduceAdd, Int.reduceSub, reduceCtorEq, List.reduceReplicate, ← List.map_take, ← List.map_drop]
      rw [seatS_none fun j hj => hno j (by omega)]
      exact Ends.ret rfl (frz2 .nil (.keep _ rfl))

def seatE (l : List Bg) (s : List Spt) : Int := if l.all (fun b => bungB b.1 b.2) then (if s.all spotB then (if 9 < l.length ∨ 9 < s.length then 36 else if (seatS (fitB l s) l.length s.length l.length []).isSome then 0 else 3) else 33) else 31
def seatR (l : List Bg) (s : List Spt) : List Int := if seatE l s = 0 then (seatS (fitB l s) l.length s.length l.length []).getD [] else []
def C_Seat (P : Program) (f : Nat) : Prop := ∀ (l : List Bg) (s : List Spt), l.length ≤ 1000000000000000 → s.length ≤ 1000000000000000 → Snd P f [.fsl (l.map bgC), .fsl (s.map Spt.c)] [] (.tup [.fsl ((seatR l s).map intC), .i .i64 (seatE l s)]) []
theorem ok_Seat (hm : P.follows .mixedOrders = true) {f f0 f1 f2 : Nat} (low : Low_bung_Seat P f f0 f1 f2) (h0 : C_isBung P f0) (h1 : C_isSpot P f1) (h2 : C_seats P f2) : C_Seat P f := by
  intro l s hl hs
  have none_ : ∀ (H : List Blk) (e : Int), e ≠ 0 → seatE l s = e → Frz 0 H (resV [.nsl, .i .i64 e]) (.tup [.fsl ((seatR l s).map intC), .i .i64 (seatE l s)]) := fun H e h0 h1 => by
    have : seatR l s = [] := by rw [seatR, if_neg (by rw [h1]; exact h0)]
    rw [h1, this]; exact frz2 .nil (.keep _ rfl)
  refine snd_ic hm low (by simp) ?_
  unfold ic_bung_Seat
  simp -dsimp -implicitDefEqProofs only [qq, Nat.reduceBEq, reduceIte, Nat.reduceAdd, Nat.reduceSub, Nat.reduceLeDiff, Nat.reduceLT, Nat.reduceMul, Nat.reduceEqDiff, Int.reduceEq, Int.reduceBEq, Int.reduceBNe, Int.reduceLT, Int.reduceLE, Int.reduceGT, Int.reduceGE, Int.reduceNeg, Int.reduceAdd, Int.reduceSub, reduceCtorEq, List.reduceReplicate, ← List.map_take, ← List.map_drop]
  refine loopI_st (fun k : Nat => l.length - k) (fun k E H => k ≤ l.length ∧ E = [(0, .fsl (l.map bgC)), (1, .fsl (s.map Spt.c)), (12, .fsl (l.map bgC)), (13, .i .i64 l.length), (14, .i .i64 k)] ∧ ∀ b ∈ l.take k, bungB b.1 b.2 = true) 0 ⟨by omega, rfl, by simp⟩ ?_
  rintro k _ H ⟨hk, rfl, hb⟩
  rcases Nat.lt_or_ge k l.length with hkl | hkl
  · have hc : decide ((k : Int) < (l.length : Int)) = true := by simpa using hkl
    obtain ⟨x, hx, hxm, htk, _⟩ := next_of hkl
    have hwk : IntKind.i64.wrap ((k : Int) + 1) = ((k + 1 : Nat) : Int) := wrap_succ (by omega)
    simp -dsimp -implicitDefEqProofs only [hc, hx, bgC, bungC, Rg.c, qq, Nat.reduceBEq, reduceIte, Nat.reduceAdd, Nat.reduceSub, Nat.reduceLeDiff, Nat.reduceLT, Nat.reduceMul, Nat.reduceEqDiff, Int.reduceEq, Int.reduceBEq, Int.reduceBNe, Int.reduceLT, Int.reduceLE, Int.reduceGT, Int.reduceGE, Int.reduceNeg, Int.reduceAdd, Int.reduceSub, reduceCtorEq, List.reduceReplicate, ← List.map_take, ← List.map_drop]
    refine callI_pure (h0 x.1 x.2) rfl rfl ?_
    cases hbx : bungB x.1 x.2
    · simp -dsimp -implicitDefEqProofs only [qq, Nat.reduceBEq, reduceIte, Nat.reduceAdd, Nat.reduceSub, Nat.reduceLeDiff, Nat.reduceLT, Nat.reduceMul, Nat.reduceEqDiff, Int.reduceEq, Int.reduceBEq, Int.reduceBNe, Int.reduceLT, Int.reduceLE, Int.reduceGT, Int.reduceGE, Int.reduceNeg, Int.reduceAdd, Int.reduceSub, reduceCtorEq, List.reduceReplicate, ← List.map_take, ← List.map_drop]
      have : l.all (fun b => bungB b.1 b.2) = false := by simp only [List.all_eq_false]; exact ⟨x, hxm, by rw [hbx]; simp⟩
      exact Ends.ret rfl (none_ _ 31 (by decide) (by rw [seatE, this]; rfl))
    · simp -dsimp -implicitDefEqProofs only [hwk, qq, Nat.reduceBEq, reduceIte, Nat.reduceAdd, Nat.reduceSub, Nat.reduceLeDiff, Nat.reduceLT, Nat.reduceMul, Nat.reduceEqDiff, Int.reduceEq, Int.reduceBEq, Int.reduceBNe, Int.reduceLT, Int.reduceLE, Int.reduceGT, Int.reduceGE, Int.reduceNeg, Int.reduceAdd, Int.reduceSub, reduceCtorEq, List.reduceReplicate, ← List.map_take, ← List.map_drop]
      refine ⟨k + 1, by omega, by omega, rfl, fun b hb' => ?_⟩
      rw [htk] at hb'
      rcases List.mem_append.1 hb' with g | g
      · exact hb b g
      · simp at g; rw [g]; exact hbx
  have hc : decide ((k : Int) < (l.length : Int)) = false := by simp; omega
  rw [List.take_of_length_le hkl] at hb
  have hall : l.all (fun b => bungB b.1 b.2) = true := by simpa using hb
  simp -dsimp -implicitDefEqProofs only [hc, qq, Nat.reduceBEq, reduceIte, Nat.reduceAdd, Nat.reduceSub, Nat.reduceLeDiff, Nat.reduceLT, Nat.reduceMul, Nat.reduceEqDiff, Int.reduceEq, Int.reduceBEq, Int.reduceBNe, Int.reduceLT, Int.reduceLE, Int.reduceGT, Int.reduceGE, Int.reduceNeg, Int.reduceAdd, Int.reduceSub, reduceCtorEq, List.reduceReplicate, ← List.map_take, ← List.map_drop]
  clear hc hkl hk
  refine loopI_st (fun k : Nat => s.length - k) (fun k E H => k ≤ s.length ∧ E = [(0, .fsl (l.map bgC)), (1, .fsl (s.map Spt.c)), (22, .fsl (s.map Spt.c)), (23, .i .i64 s.length), (24, .i .i64 k)] ∧ ∀ b ∈ s.take k, spotB b = true) 0 ⟨by omega, rfl, by simp⟩ ?_
  rintro k _ H ⟨hk, rfl, hsb⟩
  rcases Nat.lt_or_ge k s.length with hkl | hkl
  · have hc : decide ((k : Int) < (s.length : Int)) = true := by simpa using hkl
    obtain ⟨x, hx, hxm, htk, _⟩ := next_of hkl
    have hwk : IntKind.i64.wrap ((k : Int) + 1) = ((k + 1 : Nat) : Int) := wrap_succ (by omega)
    simp -dsimp -implicitDefEqProofs only [hc, hx, Spt.c, qq, Nat.reduceBEq, reduceIte, Nat.reduceAdd, Nat.reduceSub, Nat.reduceLeDiff, Nat.reduceLT, Nat.reduceMul, Nat.reduceEqDiff, Int.reduceEq, Int.reduceBEq, Int.reduceBNe, Int.reduceLT, Int.reduceLE, Int.reduceGT, Int.reduceGE, Int.reduceNeg, Int.reduceAdd, Int.reduceSub, reduceCtorEq, List.reduceReplicate, ← List.map_take, ← List.map_drop]
    refine callI_pure (h1 x) rfl rfl ?_
    cases hbx : spotB x
    · simp -dsimp -implicitDefEqProofs only [qq, Nat.reduceBEq, reduceIte, Nat.reduceAdd, Nat.reduceSub, Nat.reduceLeDiff, Nat.reduceLT, Nat.reduceMul, Nat.reduceEqDiff, Int.reduceEq, Int.reduceBEq, Int.reduceBNe, Int.reduceLT, Int.reduceLE, Int.reduceGT, Int.reduceGE, Int.reduceNeg, Int.reduceAdd, Int.reduceSub, reduceCtorEq, List.reduceReplicate, ← List.map_take, ← List.map_drop]
      have : s.all spotB = false := by simp only [List.all_eq_false]; exact ⟨x, hxm, by rw [hbx]; simp⟩
      exact Ends.ret rfl (none_ _ 33 (by decide) (by rw [seatE, hall, this]; rfl))
    · simp -dsimp -implicitDefEqProofs only [hwk, qq, Nat.reduceBEq, reduceIte, Nat.reduceAdd, Nat.reduceSub, Nat.reduceLeDiff, Nat.reduceLT, Nat.reduceMul, Nat.reduceEqDiff, Int.reduceEq, Int.reduceBEq, Int.reduceBNe, Int.reduceLT, Int.reduceLE, Int.reduceGT, Int.reduceGE, Int.reduceNeg, Int.reduceAdd, Int.reduceSub, reduceCtorEq, List.reduceReplicate, ← List.map_take, ← List.map_drop]
      refine ⟨k + 1, by omega, by omega, rfl, fun b hb' => ?_⟩
      rw [htk] at hb'
      rcases List.mem_append.1 hb' with g | g
      · exact hsb b g
      · simp at g; rw [g]; exact hbx
  have hc : decide ((k : Int) < (s.length : Int)) = false := by simp; omega
  rw [List.take_of_length_le hkl] at hsb
  have hsall : s.all spotB = true := by simpa using hsb
  simp -dsimp -implicitDefEqProofs only [hc, qq, Nat.reduceBEq, reduceIte, Nat.reduceAdd, Nat.reduceSub, Nat.reduceLeDiff, Nat.reduceLT, Nat.reduceMul, Nat.reduceEqDiff, Int.reduceEq, Int.reduceBEq, Int.reduceBNe, Int.reduceLT, Int.reduceLE, Int.reduceGT, Int.reduceGE, Int.reduceNeg, Int.reduceAdd, Int.reduceSub, reduceCtorEq, List.reduceReplicate, ← List.map_take, ← List.map_drop]
  refine brG_of (fun h9 => ?_) (fun h9 => ?_) <;> simp -dsimp -implicitDefEqProofs only [qq, Nat.reduceBEq, reduceIte, Nat.reduceAdd, Nat.reduceSub, Nat.reduceLeDiff, Nat.reduceLT, Nat.reduceMul, Nat.reduceEqDiff, Int.reduceEq, Int.reduceBEq, Int.reduceBNe, Int.reduceLT, Int.reduceLE, Int.reduceGT, Int.reduceGE, Int.reduceNeg, Int.reduceAdd, Int.reduceSub, reduceCtorEq, List.reduceReplicate, ← List.map_take, ← List.map_drop]
  · have h9' : 9 < l.length ∨ 9 < s.length := by have := of_decide_eq_true h9; omega
    exact Ends.ret rfl (none_ _ 36 (by decide) (by rw [seatE, hall, hsall, if_pos rfl, if_pos rfl, if_pos h9']))
  have h9' : ¬ (9 < l.length ∨ 9 < s.length) := by have := of_decide_eq_false h9; omega
  refine callI_give (fun _ => false) (.cons (.keep _) (.cons (.keep _) (.cons .nil .nil))) ?_
  rw [killB_no]
  refine callI_pure (h2 l.length l s [] (fun b hb' => hb b hb') (by omega) (by omega) (by simp)) rfl rfl ?_
  cases hr : seatS (fitB l s) l.length s.length l.length [] with
  | none =>
    simp -dsimp -implicitDefEqProofs only [seatV, Option.isSome, qq, Nat.reduceBEq, reduceIte, Nat.reduceAdd, Nat.reduceSub, Nat.reduceLeDiff, Nat.reduceLT, Nat.reduceMul, Nat.reduceEqDiff, Int.reduceEq, Int.reduceBEq, Int.reduceBNe, Int.reduceLT, Int.reduceLE, Int.reduceGT, Int.reduceGE, Int.reduceNeg, Int.reduceAdd, Int.reduceSub, reduceCtorEq, List.reduceReplicate, ← List.map_take, ← List.map_drop]
    exact Ends.ret rfl (none_ _ 3 (by decide) (by rw [seatE, hall, hsall, if_pos rfl, if_pos rfl, if_neg h9', hr]; rfl))
  | some res =>
    simp -dsimp -implicitDefEqProofs only [seatV, Option.isSome, qq, Nat.reduceBEq, reduceIte, Nat.reduceAdd, Nat.reduceSub, Nat.reduceLeDiff, Nat.reduceLT, Nat.reduceMul, Nat.reduceEqDiff, Int.reduceEq, Int.reduceBEq, Int.reduceBNe, Int.reduceLT, Int.reduceLE, Int.reduceGT, Int.reduceGE, Int.reduceNeg, Int.reduceAdd, Int.reduceSub, reduceCtorEq, List.reduceReplicate, ← List.map_take, ← List.map_drop]
    have hE : seatE l s = 0 := by rw [seatE, hall, hsall, if_pos rfl, if_pos rfl, if_neg h9', hr]; rfl
    have hR : seatR l s = res := by rw [seatR, if_pos hE, hr]; rfl
    rw [hE, hR]
    exact Ends.ret rfl (frz_keep2 rfl rfl)

def C_Has (P : Program) (f : Nat) : Prop := ∀ (l : List Int) (n : Int), l.length ≤ 1000000000000000 → Snd P f [.fsl (l.map intC), .i .i64 n] [] (.b (decide (n ∈ l))) []
theorem ok_Has (hm : P.follows .mixedOrders = true) {f : Nat} (low : Low_potbankref01_Has P f) : C_Has P f := by
  intro l n hl
  refine snd_ic hm low (by simp) ?_
  unfold ic_potbankref01_Has
  simp -dsimp -implicitDefEqProofs only [qq, Nat.reduceBEq, reduceIte, Nat.reduceAdd, Nat.reduceSub, Nat.reduceLeDiff, Nat.reduceLT, Nat.reduceMul, Nat.reduceEqDiff, Int.reduceEq, Int.reduceBEq, Int.reduceBNe, Int.reduceLT, Int.reduceLE, Int.reduceGT, Int.reduceGE, Int.reduceNeg, Int.reduceAdd, Int.reduceSub, reduceCtorEq, List.reduceReplicate, ← List.map_take, ← List.map_drop]
  refine loopI_st (fun k : Nat => l.length - k) (fun k E H => k ≤ l.length ∧ E = [(0, .fsl (l.map intC)), (1, .i .i64 n), (5, .i .i64 k)] ∧ (∀ x ∈ l.take k, x ≠ n)) 0 ⟨by omega, rfl, by simp⟩ ?_
  rintro k _ H ⟨hk, rfl, hn⟩
  rcases Nat.lt_or_ge k l.length with hkl | hkl
  · have hc : decide ((k : Int) < (l.length : Int)) = true := by simpa using hkl
    obtain ⟨x, hx, hxm, htk, _⟩ := next_of hkl
    have hwk : IntKind.i64.wrap ((k : Int) + 1) = ((k + 1 : Nat) : Int) := wrap_succ (by omega)
    simp -dsimp -implicitDefEqProofs only [hc, hx, intC, qq, Nat.reduceBEq, reduceIte, Nat.reduceAdd, Nat.reduceSub, Nat.reduceLeDiff, Nat.reduceLT, Nat.reduceMul, Nat.reduceEqDiff, Int.reduceEq, Int.reduceBEq, Int.reduceBNe, Int.reduceLT, Int.reduceLE, Int.reduceGT, Int.reduceGE, Int.reduceNeg, Int.reduceAdd, Int.reduceSub, reduceCtorEq, List.reduceReplicate, ← List.map_take, ← List.map_drop]
    refine brG_of (fun he => ?_) (fun he => ?_)
    · simp -dsimp -implicitDefEqProofs only [qq, Nat.reduceBEq, reduceIte, Nat.reduceAdd, Nat.reduceSub, Nat.reduceLeDiff, Nat.reduceLT, Nat.reduceMul, Nat.reduceEqDiff, Int.reduceEq, Int.reduceBEq, Int.reduceBNe, Int.reduceLT, Int.reduceLE, Int.reduceGT, Int.reduceGE, Int.reduceNeg, Int.reduceAdd, Int.reduceSub, reduceCtorEq, List.reduceReplicate, ← List.map_take, ← List.map_drop]
      refine Ends.plain rfl rfl ?_
      have : n ∈ l := by simp at he; rw [← he]; exact hxm
      simp [resV, this]
    · simp -dsimp -implicitDefEqProofs only [hwk, qq, Nat.reduceBEq, reduceIte, Nat.reduceAdd, Nat.reduceSub, Nat.reduceLeDiff, Nat.reduceLT, Nat.reduceMul, Nat.reduceEqDiff, Int.reduceEq, Int.reduceBEq, Int.reduceBNe, Int.reduceLT, Int.reduceLE, Int.reduceGT, Int.reduceGE, Int.reduceNeg, Int.reduceAdd, Int.reduceSub, reduceCtorEq, List.reduceReplicate, ← List.map_take, ← List.map_drop]
      refine ⟨k + 1, by omega, by omega, rfl, fun y hy => ?_⟩
      rw [htk] at hy
      rcases List.mem_append.1 hy with h | h
      · exact hn y h
      · simp at h; subst h; simpa using he
  · have hc : decide ((k : Int) < (l.length : Int)) = false := by simp; omega
    rw [List.take_of_length_le hkl] at hn
    simp -dsimp -implicitDefEqProofs only [hc, qq, Nat.reduceBEq, reduceIte, Nat.reduceAdd, Nat.reduceSub, Nat.reduceLeDiff, Nat.reduceLT, Nat.reduceMul, Nat.reduceEqDiff, Int.reduceEq, Int.reduceBEq, Int.reduceBNe, Int.reduceLT, Int.reduceLE, Int.reduceGT, Int.reduceGE, Int.reduceNeg, Int.reduceAdd, Int.reduceSub, reduceCtorEq, List.reduceReplicate, ← List.map_take, ← List.map_drop]
    exact Ends.plain rfl rfl (by have : n ∉ l := fun h => hn n h rfl; simp [resV, this])

end Go.Sh.C3
end
section
namespace Go.Sh.C3
open Go.Sh
set_option maxRecDepth 10000
set_option linter.unusedVariables false
set_option linter.unusedSimpArgs false
variable {P : Program}
end Go.Sh.C3
end
section
namespace Go.Sh.C3
open Go.Sh
set_option maxRecDepth 10000
set_option linter.unusedVariables false
set_option linter.unusedSimpArgs false
variable {P : Program}
def ic_potbanklaw03_BungSeated (f0 f1 f2 f3 f4 f5 : Nat) : IC := .seq (.reg [⟨some 6, none, .mov (.c (.b false))⟩] [0, 1, 2]) (.seq (.reg [⟨some 21, none, .calv (.c (.fn (.func f0) [] [])) []⟩, ⟨some 7, none, .mov (.t 21)⟩] [0, 1, 2, 7]) (.seq (.reg [⟨some 8, none, .mov (.c (.nsl))⟩] [0, 1, 2, 7, 8]) (.seq (.seq (.reg [⟨some 9, none, .mov (.c (.i .i64 (0)))⟩] [0, 1, 2, 7, 8, 9]) (.block 0 (.loop (.seq (.seq (.reg [⟨some 22, none, .mov (.t 9)⟩, ⟨some 23, none, .mov (.t 0)⟩, ⟨some 24, none, .len false (.t 23)⟩, ⟨some 25, none, .bin .lss (.t 22) (.t 24)⟩, ⟨some 26, none, .mov (.t 25)⟩, ⟨some 27, some (26, true), .mov (.t 9)⟩, ⟨some 28, some (26, true), .bin .lss (.t 27) (.c (.i .i64 (5)))⟩, ⟨some 29, none, .pick (.t 26) (.t 28) (.c (.b false))⟩] [0, 1, 2, 7, 8, 9, 29]) (.cond (.t 29) (.skip) (.exit 0))) (.seq (.block 1 (.drg [(0, ⟨some 32, none, .mov (.t 8)⟩), (0, ⟨some 33, none, .mov (.t 0)⟩), (0, ⟨some 34, none, .mov (.t 9)⟩), (0, ⟨some 35, none, .ixs 4 (.t 33) (.t 34)⟩), (0, ⟨some 36, none, .fad 0 (.t 35)⟩), (0, ⟨some 37, none, .ld none (.t 36)⟩), (0, ⟨some 38, none, .mov (.t 0)⟩), (0, ⟨some 39, none, .mov (.t 9)⟩), (0, ⟨some 40, none, .ixs 4 (.t 38) (.t 39)⟩), (0, ⟨some 41, none, .fad 1 (.t 40)⟩), (0, ⟨some 42, none, .ld none (.t 41)⟩), (0, ⟨some 43, none, .mov (.t 0)⟩), (0, ⟨some 44, none, .mov (.t 9)⟩), (0, ⟨some 45, none, .ixs 4 (.t 43) (.t 44)⟩), (0, ⟨some 46, none, .fad 2 (.t 45)⟩), (0, ⟨some 47, none, .ld (some 2) (.t 46)⟩), (0, ⟨some 48, none, .calv (.c (.fn (.func f1) [] [])) [.t 37, .t 42, .t 47]⟩), (1, ⟨some 49, none, .bsl false 3 1 [.i .i64 (0), .i .i64 (0), .nsl] [(0, (.t 48))]⟩), (1, ⟨some 50, none, .app 3 40 (.t 32) (.t 49)⟩), (0, ⟨some 8, none, .mov (.t 50)⟩)] 18 [0, 1, 2, 7, 8, 9])) (.reg [⟨some 30, none, .mov (.t 9)⟩, ⟨some 31, none, .bin .add (.t 30) (.c (.i .i64 (1)))⟩, ⟨some 9, none, .mov (.t 31)⟩] [0, 1, 2, 7, 8, 9])))))) (.seq (.reg [⟨some 10, none, .mov (.c (.nsl))⟩] [1, 2, 7, 8, 10]) (.seq (.seq (.reg [⟨some 11, none, .mov (.c (.i .i64 (0)))⟩] [1, 2, 7, 8, 10, 11]) (.block 2 (.loop (.seq (.seq (.reg [⟨some 51, none, .mov (.t 11)⟩, ⟨some 52, none, .mov (.t 1)⟩, ⟨some 53, none, .len false (.t 52)⟩, ⟨some 54, none, .bin .lss (.t 51) (.t 53)⟩, ⟨some 55, none, .mov (.t 54)⟩, ⟨some 56, some (55, true), .mov (.t 11)⟩, ⟨some 57, some (55, true), .bin .lss (.t 56) (.c (.i .i64 (6)))⟩, ⟨some 58, none, .pick (.t 55) (.t 57) (.c (.b false))⟩] [1, 2, 7, 8, 10, 11, 58]) (.cond (.t 58) (.skip) (.exit 2))) (.seq (.block 3 (.drg [(0, ⟨some 61, none, .mov (.t 10)⟩), (0, ⟨some 62, none, .mov (.t 1)⟩), (0, ⟨some 63, none, .mov (.t 11)⟩), (0, ⟨some 64, none, .ixs 2 (.t 62) (.t 63)⟩), (0, ⟨some 65, none, .ixa 2 1 (.t 64) (.c (.i .i64 (0)))⟩), (0, ⟨some 66, none, .ld none (.t 65)⟩), (0, ⟨some 67, none, .calv (.c (.fn (.func f2) [] [])) [.t 66, .c (.i .i64 (2000))]⟩), (0, ⟨some 68, none, .mov (.t 1)⟩), (0, ⟨some 69, none, .mov (.t 11)⟩), (0, ⟨some 70, none, .ixs 2 (.t 68) (.t 69)⟩), (0, ⟨some 71, none, .ixa 2 1 (.t 70) (.c (.i .i64 (1)))⟩), (0, ⟨some 72, none, .ld none (.t 71)⟩), (0, ⟨some 73, none, .calv (.c (.fn (.func f2) [] [])) [.t 72, .c (.i .i64 (100))]⟩), (0, ⟨some 74, none, .bld [.i .i64 (0), .i .i64 (0)] [(0, 1, (.t 67)), (1, 1, (.t 73))]⟩), (1, ⟨some 75, none, .bsl false 2 1 [.i .i64 (0), .i .i64 (0)] [(0, (.t 74))]⟩), (1, ⟨some 76, none, .app 2 16 (.t 61) (.t 75)⟩), (0, ⟨some 10, none, .mov (.t 76)⟩)] 15 [1, 2, 7, 8, 10, 11])) (.reg [⟨some 59, none, .mov (.t 11)⟩, ⟨some 60, none, .bin .add (.t 59) (.c (.i .i64 (1)))⟩, ⟨some 11, none, .mov (.t 60)⟩] [1, 2, 7, 8, 10, 11])))))) (.seq (.reg [⟨some 78, none, .mov (.t 8)⟩, ⟨some 79, none, .mov (.t 10)⟩, ⟨some 80, none, .calv (.c (.fn (.func f3) [] [])) [.t 78, .t 79]⟩, ⟨some 77, none, .mov (.t 80)⟩, ⟨some 81, none, .ext (.t 77) 0⟩, ⟨some 82, none, .ext (.t 77) 1⟩, ⟨some 12, none, .mov (.t 81)⟩, ⟨some 13, none, .mov (.t 82)⟩] [2, 7, 8, 10, 12, 13]) (.seq (.seq (.reg [⟨some 83, none, .mov (.t 13)⟩, ⟨some 84, none, .bin .eql (.t 83) (.c (.i .i64 (3)))⟩] [2, 7, 8, 10, 12, 13, 84]) (.cond (.t 84) (.seq (.reg [⟨some 85, none, .mov (.t 7)⟩, ⟨some 6, none, .mov (.t 85)⟩] [6]) (.ret)) (.skip))) (.seq (.seq (.reg [⟨some 86, none, .mov (.t 7)⟩, ⟨some 87, none, .un .not (.t 86)⟩, ⟨some 88, none, .mov (.t 87)⟩, ⟨some 89, some (88, false), .mov (.t 13)⟩, ⟨some 90, some (88, false), .bin .neq (.t 89) (.c (.i .i64 (0)))⟩, ⟨some 91, none, .pick (.t 88) (.c (.b true)) (.t 90)⟩, ⟨some 92, none, .mov (.t 91)⟩, ⟨some 93, some (92, false), .mov (.t 12)⟩, ⟨some 94, some (92, false), .len false (.t 93)⟩, ⟨some 95, some (92, false), .mov (.t 8)⟩, ⟨some 96, some (92, false), .len false (.t 95)⟩, ⟨some 97, some (92, false), .bin .neq (.t 94) (.t 96)⟩, ⟨some 98, none, .pick (.t 92) (.c (.b true)) (.t 97)⟩] [2, 8, 10, 12, 98]) (.cond (.t 98) (.seq (.reg [⟨some 6, none, .mov (.c (.b false))⟩] [6]) (.ret)) (.skip))) (.seq (.seq (.reg [⟨some 14, none, .mov (.c (.i .i64 (0)))⟩] [2, 8, 10, 12, 14]) (.block 4 (.loop (.seq (.seq (.reg [⟨some 99, none, .mov (.t 14)⟩, ⟨some 100, none, .mov (.t 12)⟩, ⟨some 101, none, .len false (.t 100)⟩, ⟨some 102, none, .bin .lss (.t 99) (.t 101)⟩] [2, 8, 10, 12, 14, 102]) (.cond (.t 102) (.skip) (.exit 4))) (.seq (.block 5 (.seq (.seq (.drg [(0, ⟨some 105, none, .mov (.t 12)⟩), (0, ⟨some 106, none, .mov (.t 14)⟩), (0, ⟨some 107, none, .ixs 1 (.t 105) (.t 106)⟩), (0, ⟨some 108, none, .ld none (.t 107)⟩), (0, ⟨some 109, none, .bin .lss (.t 108) (.c (.i .i64 (0)))⟩), (0, ⟨some 110, none, .mov (.t 109)⟩), (0, ⟨some 111, some (110, false), .mov (.t 12)⟩), (0, ⟨some 112, some (110, false), .mov (.t 14)⟩), (0, ⟨some 113, some (110, false), .ixs 1 (.t 111) (.t 112)⟩), (0, ⟨some 114, some (110, false), .ld none (.t 113)⟩), (0, ⟨some 115, some (110, false), .mov (.t 10)⟩), (0, ⟨some 116, some (110, false), .len false (.t 115)⟩), (0, ⟨some 117, some (110, false), .bin .geq (.t 114) (.t 116)⟩), (0, ⟨some 118, none, .pick (.t 110) (.c (.b true)) (.t 117)⟩), (0, ⟨some 119, none, .mov (.t 118)⟩), (1, ⟨some 120, some (119, false), .bsl false 1 0 [.i .i64 (0)] []⟩), (0, ⟨some 121, some (119, false), .mov (.t 12)⟩), (0, ⟨some 122, some (119, false), .mov (.t 14)⟩), (0, ⟨some 123, some (119, false), .slc 1 (.t 121) none (some (.t 122)) none⟩), (1, ⟨some 124, some (119, false), .app 1 8 (.t 120) (.t 123)⟩), (0, ⟨some 125, some (119, false), .mov (.t 12)⟩), (0, ⟨some 126, some (119, false), .mov (.t 14)⟩), (0, ⟨some 127, some (119, false), .ixs 1 (.t 125) (.t 126)⟩), (0, ⟨some 128, some (119, false), .ld none (.t 127)⟩), (1, ⟨some 129, some (119, false), .calv (.c (.fn (.func f4) [] [])) [.t 124, .t 128]⟩), (0, ⟨some 130, none, .pick (.t 119) (.c (.b true)) (.t 129)⟩)] 24 [2, 8, 10, 12, 14, 130]) (.cond (.t 130) (.seq (.reg [⟨some 6, none, .mov (.c (.b false))⟩] [6]) (.ret)) (.skip))) (.seq (.drg [(0, ⟨some 132, none, .mov (.t 8)⟩), (0, ⟨some 133, none, .mov (.t 14)⟩), (0, ⟨some 134, none, .ixs 3 (.t 132) (.t 133)⟩), (0, ⟨some 135, none, .ld (some 3) (.t 134)⟩), (0, ⟨some 136, none, .mov (.t 10)⟩), (0, ⟨some 137, none, .mov (.t 12)⟩), (0, ⟨some 138, none, .mov (.t 14)⟩), (0, ⟨some 139, none, .ixs 1 (.t 137) (.t 138)⟩), (0, ⟨some 140, none, .ld none (.t 139)⟩), (0, ⟨some 141, none, .ixs 2 (.t 136) (.t 140)⟩), (0, ⟨some 142, none, .ld (some 2) (.t 141)⟩), (0, ⟨some 143, none, .calv (.c (.fn (.func f5) [] [])) [.t 135, .t 142]⟩), (0, ⟨some 131, none, .mov (.t 143)⟩), (0, ⟨some 144, none, .ext (.t 131) 0⟩), (0, ⟨some 145, none, .ext (.t 131) 1⟩), (0, ⟨some 15, none, .mov (.t 144)⟩), (0, ⟨some 16, none, .mov (.t 145)⟩)] 16 [2, 8, 10, 12, 14, 15, 16]) (.seq (.reg [⟨some 146, none, .mov (.t 16)⟩, ⟨some 147, none, .bin .neq (.t 146) (.c (.i .i64 (0)))⟩, ⟨some 148, none, .mov (.t 147)⟩, ⟨some 149, some (148, false), .mov (.t 15)⟩, ⟨some 150, some (148, false), .bin .neq (.t 149) (.c (.i .i64 (1)))⟩, ⟨some 151, none, .pick (.t 148) (.c (.b true)) (.t 150)⟩] [2, 8, 10, 12, 14, 151]) (.cond (.t 151) (.seq (.reg [⟨some 6, none, .mov (.c (.b false))⟩] [6]) (.ret)) (.skip)))))) (.reg [⟨some 103, none, .mov (.t 14)⟩, ⟨some 104, none, .bin .add (.t 103) (.c (.i .i64 (1)))⟩, ⟨some 14, none, .mov (.t 104)⟩] [2, 8, 10, 12, 14])))))) (.seq (.seq (.reg [⟨some 152, none, .mov (.t 10)⟩, ⟨some 153, none, .len false (.t 152)⟩, ⟨some 154, none, .bin .eql (.t 153) (.c (.i .i64 (0)))⟩] [2, 8, 10, 154]) (.cond (.t 154) (.seq (.reg [⟨some 6, none, .mov (.c (.b true))⟩] [6]) (.ret)) (.skip))) (.seq (.reg [⟨some 155, none, .bsl false 2 0 [.i .i64 (0), .i .i64 (0)] []⟩, ⟨some 156, none, .mov (.t 10)⟩, ⟨some 157, none, .app 2 16 (.t 155) (.t 156)⟩, ⟨some 17, none, .mov (.t 157)⟩] [2, 8, 10, 17]) (.seq (.reg [⟨some 158, none, .mov (.t 2)⟩, ⟨some 159, none, .mov (.t 10)⟩, ⟨some 160, none, .len false (.t 159)⟩, ⟨some 161, none, .calv (.c (.fn (.func f2) [] [])) [.t 158, .t 160]⟩, ⟨some 18, none, .mov (.t 161)⟩] [8, 17, 18]) (.seq (.reg [⟨some 162, none, .mov (.t 17)⟩, ⟨some 163, none, .mov (.t 18)⟩, ⟨some 164, none, .mov (.t 17)⟩, ⟨some 165, none, .mov (.t 18)⟩, ⟨some 166, none, .ixs 2 (.t 164) (.t 165)⟩, ⟨some 167, none, .fad 0 (.t 166)⟩, ⟨some 168, none, .ld none (.t 167)⟩, ⟨some 169, none, .bin .add (.t 168) (.c (.i .i64 (100)))⟩, ⟨some 170, none, .ixs 2 (.t 162) (.t 163)⟩, ⟨some 171, none, .fad 0 (.t 170)⟩, ⟨none, none, .st 1 (.t 171) (.t 169)⟩] [8, 17, 18]) (.seq (.reg [⟨some 172, none, .mov (.t 17)⟩, ⟨some 173, none, .mov (.t 18)⟩, ⟨some 174, none, .mov (.t 17)⟩, ⟨some 175, none, .mov (.t 18)⟩, ⟨some 176, none, .ixs 2 (.t 174) (.t 175)⟩, ⟨some 177, none, .fad 1 (.t 176)⟩, ⟨some 178, none, .ld none (.t 177)⟩, ⟨some 179, none, .bin .add (.t 178) (.c (.i .i64 (5)))⟩, ⟨some 180, none, .ixs 2 (.t 172) (.t 173)⟩, ⟨some 181, none, .fad 1 (.t 180)⟩, ⟨none, none, .st 1 (.t 181) (.t 179)⟩] [8, 17]) (.seq (.reg [⟨some 183, none, .mov (.t 8)⟩, ⟨some 184, none, .mov (.t 17)⟩, ⟨some 185, none, .calv (.c (.fn (.func f3) [] [])) [.t 183, .t 184]⟩, ⟨some 182, none, .mov (.t 185)⟩, ⟨some 186, none, .ext (.t 182) 0⟩, ⟨some 187, none, .ext (.t 182) 1⟩, ⟨some 19, none, .mov (.t 186)⟩, ⟨some 20, none, .mov (.t 187)⟩] [20]) (.seq (.reg [⟨some 188, none, .mov (.t 20)⟩, ⟨some 189, none, .bin .eql (.t 188) (.c (.i .i64 (0)))⟩, ⟨some 6, none, .mov (.t 189)⟩] [6]) (.ret)))))))))))))))))
abbrev Low_potbanklaw03_BungSeated (P : Program) (f f0 f1 f2 f3 f4 f5 : Nat) : Prop := lowF P f = some (190, [.tmp 6], (ic_potbanklaw03_BungSeated f0 f1 f2 f3 f4 f5).erase)

theorem get_mid {s : Nat} {v v' : V} {B : Env} : ∀ (A : Env) (t : Nat) (w : V), get (A ++ (s, v') :: B) t = some w → get (A ++ (s, v) :: B) t = some w ∨ (get (A ++ (s, v) :: B) t = some v ∧ w = v')
  | [], t, w, h => by
    simp only [List.nil_append, get] at h ⊢
    split
    · rename_i e; rw [if_pos e] at h; cases h; exact .inr ⟨rfl, rfl⟩
    · rename_i e; rw [if_neg e] at h; exact .inl h
  | (k, u) :: A, t, w, h => by
    simp only [List.cons_append, get] at h ⊢
    split
    · rename_i e; rw [if_pos e] at h; exact .inl h
    · rename_i e; rw [if_neg e] at h; exact get_mid A t w h
/-- At a loop's head one's own slice becomes a list that nobody writes. -/
theorem shift_own {H : List Blk} {k s : Nat} {v : V} {rows : List (List V)} (h : OwnS H k rows v) (hb : ∀ r ∈ rows, belL 0 r = true) (A B : Env) :
    ∃ H2, Shift (A ++ (s, v) :: B) H (A ++ (s, .fsl rows) :: B) H2 ∧ H2.length = H.length ∧ ∀ p b, H[p]? = some b → (∀ k o l c e, v ≠ .rsl p k o l c e) → H2[p]? = some b := by
  obtain ⟨kk, hg, hk⟩ := h.give hb
  refine ⟨killB kk H, ⟨kk, ⟨killB_length _ _, fun id hid hki => by rw [killB_get, hki, List.getElem?_eq_getElem hid]; simp, fun id b' hki hb' => ⟨b', by rwa [killB_keep hki] at hb', .inl rfl⟩⟩, fun t w ht => ?_⟩, killB_length _ _, fun p b hp hn => ?_⟩
  · rcases get_mid (v := v) A t w ht with g | ⟨g, rfl⟩
    · exact ⟨w, g, .keep _⟩
    · exact ⟨v, g, hg⟩
  · have : kk p = false := by
      cases h : kk p with
      | false => rfl
      | true => obtain ⟨k, o, l, c, e, hv⟩ := hk p h; exact absurd hv (hn k o l c e)
    rw [killB_keep this]; exact hp

/-- Spots that are right so far. -/
def GoodS (fit : Nat → Nat → Bool) (ns : Nat) (b : List Int) : Prop := ∀ (i : Nat) (x : Int), b[i]? = some x → 0 ≤ x ∧ x < ns ∧ fit i x.toNat = true ∧ x ∉ b.take i
set_option maxHeartbeats 400000 in
theorem seatS_good {fit : Nat → Nat → Bool} {n ns : Nat} : ∀ {r : Nat} {out b : List Int}, out.length + r = n → GoodS fit ns out → seatS fit n ns r out = some b → GoodS fit ns b
  | 0, out, b, _, hg, h => by rw [seatS] at h; cases h; exact hg
  | r + 1, out, b, hl, hg, h => by
    rw [seatS] at h
    obtain ⟨k, hk, hf⟩ := List.exists_of_findSome?_eq_some h
    simp only [List.mem_range] at hk
    split at hf
    · cases hf
    · rename_i hc
      simp only [Bool.or_eq_true, decide_eq_true_eq, Bool.not_eq_true', not_or, Bool.not_eq_false] at hc
      refine seatS_good (by simp; omega) ?_ hf
      intro i x hx
      rcases Nat.lt_or_ge i out.length with hi | hi
      · rw [List.getElem?_append_left hi] at hx
        rw [List.take_append_of_le_length (by omega)]
        exact hg i x hx
      · have hi2 : i = out.length := by have := (List.getElem?_eq_some_iff.1 hx).1; simp at this; omega
        subst hi2
        simp at hx
        subst hx
        rw [List.take_left' rfl]
        refine ⟨by omega, by omega, ?_, hc.1⟩
        have := hc.2
        rw [show n - (r + 1) = out.length by omega] at this
        simpa using this
theorem seatS_full {fit : Nat → Nat → Bool} {n ns : Nat} {b : List Int} (hb : GoodS fit ns b) (hl : b.length = n) : ∀ r, r ≤ n → seatS fit n ns r (b.take (n - r)) ≠ none
  | 0, _ => by simp [seatS]
  | r + 1, hr => fun hno => by
    rw [seatS, List.findSome?_eq_none_iff] at hno
    obtain ⟨x, hx, _, ht, _⟩ := next_of (show n - (r + 1) < b.length by omega)
    obtain ⟨h1, h2, h3, h4⟩ := hb _ x hx
    have := hno x.toNat (List.mem_range.2 (by omega))
    have hxx : ((x.toNat : Nat) : Int) = x := by omega
    rw [hxx, if_neg (by simp [h4, h3])] at this
    rw [← ht, show n - (r + 1) + 1 = n - r by omega] at this
    exact seatS_full hb hl r (by omega) this
theorem fitsS_better {w : Rg} {l : List Sag} {s t : Spt} (hb : bungB w l = true) (h1 : s.crown ≤ t.crown) (h2 : s.lean ≤ t.lean) (h : fitsS w l s = 1) : fitsS w l t = 1 := by
  have hp := bung_pos hb
  rw [fitsS_one (bung_wad hb) (bung_list hb) hp] at h ⊢
  exact ⟨by omega, by omega, h.2.2⟩

abbrev Kln := List Raw × List Int × Int × Int
abbrev klnC (k : Kln) : List V := kilnC k.1 k.2.1 k.2.2.1 k.2.2.2
abbrev kBg (k : Kln) : Bg := (wadS k.2.2.1 k.2.2.2, stackS k.1 k.2.1)
abbrev twoC (k : Int × Int) : List V := [.i .i64 k.1, .i .i64 k.2]
abbrev mkSpt (k : Int × Int) : Spt := ⟨k.1 % 2000, k.2 % 100⟩
theorem bel_bgs (l : List Bg) : ∀ row ∈ l.map bgC, belL 0 row = true := by intro row hr; obtain ⟨n, _, rfl⟩ := List.mem_map.1 hr; rfl
theorem bel_spts (l : List Spt) : ∀ row ∈ l.map Spt.c, belL 0 row = true := by intro row hr; obtain ⟨n, _, rfl⟩ := List.mem_map.1 hr; rfl
theorem mkSpt_ok (k : Int × Int) : spotB (mkSpt k) = true := by
  have m1 := mod_pos (n := k.1) (m := 2000) (by decide)
  have m2 := mod_pos (n := k.2) (m := 100) (by decide)
  simp [spotB, inR]; omega
theorem seated_plain {bs : List Bg} {ss : List Spt} (hb : ∀ b ∈ bs, bungB b.1 b.2 = true) (hs : ∀ s ∈ ss, spotB s = true) (h5 : bs.length ≤ 5) (h6 : ss.length ≤ 6) :
    (seatE bs ss = 3) ∨ (seatE bs ss = 0 ∧ (seatR bs ss).length = bs.length ∧ GoodS (fitB bs ss) ss.length (seatR bs ss)) := by
  have hall : bs.all (fun b => bungB b.1 b.2) = true := List.all_eq_true.2 hb
  have hall2 : ss.all spotB = true := List.all_eq_true.2 hs
  have he : seatE bs ss = if (seatS (fitB bs ss) bs.length ss.length bs.length []).isSome then 0 else 3 := by rw [seatE, if_pos hall, if_pos hall2, if_neg (by omega)]
  cases hf : seatS (fitB bs ss) bs.length ss.length bs.length [] with
  | none => left; rw [he, hf]; rfl
  | some b =>
    right
    have h0 : seatE bs ss = 0 := by rw [he, hf]; rfl
    have hr : seatR bs ss = b := by rw [seatR, if_pos h0, hf]; rfl
    rw [hr]
    exact ⟨h0, by have := seatS_len hf; simpa using this, seatS_good (by simp) (fun i x hx => by simp at hx) hf⟩
theorem seated_better {bs : List Bg} {ss tt : List Spt} (hb : ∀ b ∈ bs, bungB b.1 b.2 = true) (hs : ∀ s ∈ tt, spotB s = true) (h5 : bs.length ≤ 5) (h6 : tt.length ≤ 6) (hl : tt.length = ss.length) (hle : ∀ (k : Nat) (s t : Spt), ss[k]? = some s → tt[k]? = some t → s.crown ≤ t.crown ∧ s.lean ≤ t.lean)
    {out : List Int} (ho : out.length = bs.length) (hg : GoodS (fitB bs ss) ss.length out) : seatE bs tt = 0 := by
  have hall : bs.all (fun b => bungB b.1 b.2) = true := List.all_eq_true.2 hb
  have hall2 : tt.all spotB = true := List.all_eq_true.2 hs
  rw [seatE, if_pos hall, if_pos hall2, if_neg (by omega)]
  have hg2 : GoodS (fitB bs tt) tt.length out := fun i x hx => by
    obtain ⟨h1, h2, h3, h4⟩ := hg i x hx
    refine ⟨h1, by omega, ?_, h4⟩
    obtain ⟨b, hbb, hbm, _, _⟩ := next_of (show i < bs.length by have := (List.getElem?_eq_some_iff.1 hx).1; omega)
    obtain ⟨s, hs1, _, _, _⟩ := next_of (show x.toNat < ss.length by omega)
    obtain ⟨t, ht1, _, _, _⟩ := next_of (show x.toNat < tt.length by omega)
    have hlt := hle _ s t hs1 ht1
    simp only [fitB, hbb, hs1, beq_iff_eq] at h3
    simp only [fitB, hbb, ht1, beq_iff_eq]
    exact fitsS_better (hb b hbm) hlt.1 hlt.2 h3
  have := seatS_full hg2 ho bs.length (Nat.le_refl _)
  rw [Nat.sub_self, List.take_zero] at this
  rw [if_pos (by cases h : seatS (fitB bs tt) bs.length tt.length bs.length [] with | none => exact absurd h this | some b => rfl)]

def L_BungSeated (P : Program) (f : Nat) : Prop := ∀ (l : List Kln) (sp : List (Int × Int)) (n : Int), l.length ≤ 1000000000000000 → sp.length ≤ 1000000000000000 → (∀ k ∈ l, k.2.1.length ≤ 1000000000000000) → Snd P f [.fsl (l.map klnC), .fsl (sp.map twoC), .i .i64 n] [] (.b true) []
set_option maxHeartbeats 8000000 in
theorem ok_BungSeated (hm : P.follows .mixedOrders = true) {f f0 f1 f2 f3 f4 f5 : Nat} (low : Low_potbanklaw03_BungSeated P f f0 f1 f2 f3 f4 f5) (h0 : C_sane P f0) (h1 : C_stack P f1) (h2 : C_Mod P f2) (h3 : C_Seat P f3) (h4 : C_Has P f4) (h5 : C_Fits P f5) : L_BungSeated P f := by
  intro l sp n hll hsl hol
  obtain ⟨N, hN⟩ : ∃ N, N = min l.length 5 := ⟨_, rfl⟩
  obtain ⟨M, hM⟩ : ∃ M, M = min sp.length 6 := ⟨_, rfl⟩
  obtain ⟨bs, hbs⟩ : ∃ bs, bs = (l.take N).map kBg := ⟨_, rfl⟩
  obtain ⟨ss, hss⟩ : ∃ ss, ss = (sp.take M).map mkSpt := ⟨_, rfl⟩
  have hbl : bs.length = N := by rw [hbs, List.length_map, List.length_take]; omega
  have hsl2 : ss.length = M := by rw [hss, List.length_map, List.length_take]; omega
  have hbb : ∀ b ∈ bs, bungB b.1 b.2 = true := fun b hb => by
    rw [hbs] at hb
    obtain ⟨k, _, rfl⟩ := List.mem_map.1 hb
    exact stack_bung _ _ _ _
  have hsb : ∀ s ∈ ss, spotB s = true := fun s hs => by
    rw [hss] at hs
    obtain ⟨k, _, rfl⟩ := List.mem_map.1 hs
    exact mkSpt_ok _
  have hpl := seated_plain hbb hsb (by omega) (by omega)
  have h3' := h3 bs ss (by omega) (by omega)
  refine snd_ic hm low (by simp) ?_
  unfold ic_potbanklaw03_BungSeated
  simp -dsimp -implicitDefEqProofs only [qq, Nat.reduceBEq, reduceIte, Nat.reduceAdd, Nat.reduceSub, Nat.reduceLeDiff, Nat.reduceLT, Nat.reduceMul, Nat.reduceEqDiff, Int.reduceEq, Int.reduceBEq, Int.reduceBNe, Int.reduceLT, Int.reduceLE, Int.reduceGT, Int.reduceGE, Int.reduceNeg, Int.reduceAdd, Int.reduceSub, reduceCtorEq, List.reduceReplicate, ← List.map_take, ← List.map_drop]
  refine callI_pure h0 rfl rfl ?_
  simp -dsimp -implicitDefEqProofs only [qq, Nat.reduceBEq, reduceIte, Nat.reduceAdd, Nat.reduceSub, Nat.reduceLeDiff, Nat.reduceLT, Nat.reduceMul, Nat.reduceEqDiff, Int.reduceEq, Int.reduceBEq, Int.reduceBNe, Int.reduceLT, Int.reduceLE, Int.reduceGT, Int.reduceGE, Int.reduceNeg, Int.reduceAdd, Int.reduceSub, reduceCtorEq, List.reduceReplicate, ← List.map_take, ← List.map_drop]
  have start : ∃ (v : V) (H2 : List Blk), Shift [(0, .fsl (l.map klnC)), (1, .fsl (sp.map twoC)), (2, .i .i64 n), (7, .b true), (8, .nsl), (9, .i .i64 0)] [] [(0, .fsl (l.map klnC)), (1, .fsl (sp.map twoC)), (2, .i .i64 n), (7, .b true), (8, v), (9, .i .i64 0)] H2 ∧ ((0 < N ∧ OwnS H2 3 ((bs.take 0).map bgC) v) ∨ (0 = N ∧ v = .fsl (bs.map bgC))) := by
    rcases Nat.eq_zero_or_pos N with h | h
    · obtain ⟨H2, hs, _⟩ := shift_own (s := 8) (OwnS.nil [] 3) (by simp) [(0, .fsl (l.map klnC)), (1, .fsl (sp.map twoC)), (2, .i .i64 n), (7, .b true)] [(9, .i .i64 0)]
      exact ⟨_, H2, hs, .inr ⟨h.symm, by rw [List.length_eq_zero_iff.1 (hbl.trans h)]; rfl⟩⟩
    · exact ⟨.nsl, [], .refl _ _, .inl ⟨h, .nil _ _⟩⟩
  obtain ⟨v0, H0, hsh0, hst0⟩ := start
  refine loopI_sh (fun i : Nat => N - i) (fun i E H => i ≤ N ∧ ∃ v, E = [(0, .fsl (l.map klnC)), (1, .fsl (sp.map twoC)), (2, .i .i64 n), (7, .b true), (8, v), (9, .i .i64 i)] ∧ ((i < N ∧ OwnS H 3 ((bs.take i).map bgC) v) ∨ (i = N ∧ v = .fsl (bs.map bgC)))) 0 hsh0 ⟨by omega, v0, rfl, hst0⟩ ?_
  rintro i _ H ⟨hi, v, rfl, hst⟩
  rcases hst with ⟨hiN, ho⟩ | ⟨rfl, rfl⟩
  · have hc : decide ((i : Int) < (l.length : Int)) = true := decide_eq_true (by omega)
    have hc5 : decide ((i : Int) < 5) = true := decide_eq_true (by omega)
    have hwi : IntKind.i64.wrap ((i : Int) + 1) = ((i + 1 : Nat) : Int) := wrap_succ (by omega)
    obtain ⟨x, hx, hxm, _, _⟩ := next_of (show i < l.length by omega)
    have hbx : bs[i]? = some (kBg x) := by rw [hbs, List.getElem?_map, List.getElem?_take, if_pos hiN, hx]; rfl
    have htk : bs.take (i + 1) = bs.take i ++ [kBg x] := by rw [List.take_add_one, hbx]; rfl
    have h1' := h1 x.1 x.2.1 x.2.2.1 x.2.2.2 (hol x hxm)
    simp -dsimp -implicitDefEqProofs only [hc, hc5, hx, klnC, kilnC, qq, Nat.reduceBEq, reduceIte, Nat.reduceAdd, Nat.reduceSub, Nat.reduceLeDiff, Nat.reduceLT, Nat.reduceMul, Nat.reduceEqDiff, Int.reduceEq, Int.reduceBEq, Int.reduceBNe, Int.reduceLT, Int.reduceLE, Int.reduceGT, Int.reduceGE, Int.reduceNeg, Int.reduceAdd, Int.reduceSub, reduceCtorEq, List.reduceReplicate, ← List.map_take, ← List.map_drop]
    refine callI_pure h1' rfl rfl ?_
    simp -dsimp -implicitDefEqProofs only [qq, Nat.reduceBEq, reduceIte, Nat.reduceAdd, Nat.reduceSub, Nat.reduceLeDiff, Nat.reduceLT, Nat.reduceMul, Nat.reduceEqDiff, Int.reduceEq, Int.reduceBEq, Int.reduceBNe, Int.reduceLT, Int.reduceLE, Int.reduceGT, Int.reduceGE, Int.reduceNeg, Int.reduceAdd, Int.reduceSub, reduceCtorEq, List.reduceReplicate, ← List.map_take, ← List.map_drop]
    refine app_own (ys := [bgC (kBg x)]) (ho.app _) (by decide) (by decide) (by simp [Sh.shown]) (by simp [V.one]) (by rw [List.length_map, List.length_take]; simp; omega) fun v' H' hv' ha hf => ?_
    simp -dsimp -implicitDefEqProofs only [hwi, qq, Nat.reduceBEq, reduceIte, Nat.reduceAdd, Nat.reduceSub, Nat.reduceLeDiff, Nat.reduceLT, Nat.reduceMul, Nat.reduceEqDiff, Int.reduceEq, Int.reduceBEq, Int.reduceBNe, Int.reduceLT, Int.reduceLE, Int.reduceGT, Int.reduceGE, Int.reduceNeg, Int.reduceAdd, Int.reduceSub, reduceCtorEq, List.reduceReplicate, ← List.map_take, ← List.map_drop]
    have hnx : (bs.take i).map bgC ++ [bgC (kBg x)] = (bs.take (i + 1)).map bgC := by rw [htk, List.map_append]; rfl
    rw [hnx] at hv'
    refine ⟨i + 1, by omega, ?_⟩
    rcases Nat.lt_or_ge (i + 1) N with h | h
    · exact ⟨_, _, .refl _ _, by omega, v', rfl, .inl ⟨h, hv'⟩⟩
    · rw [List.take_of_length_le (by omega)] at hv'
      obtain ⟨H3, hs3, _⟩ := shift_own (s := 8) hv' (bel_bgs _) [(0, .fsl (l.map klnC)), (1, .fsl (sp.map twoC)), (2, .i .i64 n), (7, .b true)] [(9, .i .i64 (i + 1 : Nat))]
      exact ⟨_, _, hs3, by omega, _, rfl, .inr ⟨by omega, rfl⟩⟩
  · have hexit : ∀ K : Prop, K → K := fun _ h => h
    have hcc : (decide ((i : Int) < (l.length : Int)) = false) ∨ (decide ((i : Int) < (l.length : Int)) = true ∧ decide ((i : Int) < 5) = false) := by
      rcases Nat.lt_or_ge i l.length with h | h
      · exact .inr ⟨decide_eq_true (by omega), decide_eq_false (by omega)⟩
      · exact .inl (decide_eq_false (by omega))
    rcases hcc with hc | ⟨hc, hc5⟩
    case' inl => simp -dsimp -implicitDefEqProofs only [hc, qq, Nat.reduceBEq, reduceIte, Nat.reduceAdd, Nat.reduceSub, Nat.reduceLeDiff, Nat.reduceLT, Nat.reduceMul, Nat.reduceEqDiff, Int.reduceEq, Int.reduceBEq, Int.reduceBNe, Int.reduceLT, Int.reduceLE, Int.reduceGT, Int.reduceGE, Int.reduceNeg, Int.reduceAdd, Int.reduceSub, reduceCtorEq, List.reduceReplicate, ← List.map_take, ← List.map_drop]
    case' inr => simp -dsimp -implicitDefEqProofs only [hc, hc5, qq, Nat.reduceBEq, reduceIte, Nat.reduceAdd, Nat.reduceSub, Nat.reduceLeDiff, Nat.reduceLT, Nat.reduceMul, Nat.reduceEqDiff, Int.reduceEq, Int.reduceBEq, Int.reduceBNe, Int.reduceLT, Int.reduceLE, Int.reduceGT, Int.reduceGE, Int.reduceNeg, Int.reduceAdd, Int.reduceSub, reduceCtorEq, List.reduceReplicate, ← List.map_take, ← List.map_drop]
    all_goals
      have start2 : ∃ (u : V) (H2 : List Blk), Shift [(1, .fsl (sp.map twoC)), (2, .i .i64 n), (7, .b true), (8, .fsl (bs.map bgC)), (10, .nsl), (11, .i .i64 0)] H [(1, .fsl (sp.map twoC)), (2, .i .i64 n), (7, .b true), (8, .fsl (bs.map bgC)), (10, u), (11, .i .i64 0)] H2 ∧ ((0 < M ∧ OwnS H2 2 ((ss.take 0).map Spt.c) u) ∨ (0 = M ∧ u = .fsl (ss.map Spt.c))) := by
        rcases Nat.eq_zero_or_pos M with h | h
        · obtain ⟨H2, hs, _⟩ := shift_own (s := 10) (OwnS.nil H 2) (by simp) [(1, .fsl (sp.map twoC)), (2, .i .i64 n), (7, .b true), (8, .fsl (bs.map bgC))] [(11, .i .i64 0)]
          exact ⟨_, H2, hs, .inr ⟨h.symm, by rw [List.length_eq_zero_iff.1 (hsl2.trans h)]; rfl⟩⟩
        · exact ⟨.nsl, H, .refl _ _, .inl ⟨h, .nil _ _⟩⟩
      obtain ⟨u0, H1, hsh1, hst1⟩ := start2
      refine loopI_sh (fun i : Nat => M - i) (fun i E H => i ≤ M ∧ ∃ u, E = [(1, .fsl (sp.map twoC)), (2, .i .i64 n), (7, .b true), (8, .fsl (bs.map bgC)), (10, u), (11, .i .i64 i)] ∧ ((i < M ∧ OwnS H 2 ((ss.take i).map Spt.c) u) ∨ (i = M ∧ u = .fsl (ss.map Spt.c)))) 0 hsh1 ⟨by omega, u0, rfl, hst1⟩ ?_
      rintro j _ H4 ⟨hj, u, rfl, hst⟩
      rcases hst with ⟨hjM, hu⟩ | ⟨rfl, rfl⟩
      case' inl =>
        have hd : decide ((j : Int) < (sp.length : Int)) = true := decide_eq_true (by omega)
        have hd6 : decide ((j : Int) < 6) = true := decide_eq_true (by omega)
        have hwj : IntKind.i64.wrap ((j : Int) + 1) = ((j + 1 : Nat) : Int) := wrap_succ (by omega)
        obtain ⟨y, hy, hym, _, _⟩ := next_of (show j < sp.length by omega)
        have hsy : ss[j]? = some (mkSpt y) := by rw [hss, List.getElem?_map, List.getElem?_take, if_pos hjM, hy]; rfl
        have htk : ss.take (j + 1) = ss.take j ++ [mkSpt y] := by rw [List.take_add_one, hsy]; rfl
        have h21 := h2 y.1 2000 (by decide) (by decide)
        have h22 := h2 y.2 100 (by decide) (by decide)
        simp -dsimp -implicitDefEqProofs only [hd, hd6, hy, twoC, tn0, tn1, tw0, tw1, qq, Nat.reduceBEq, reduceIte, Nat.reduceAdd, Nat.reduceSub, Nat.reduceLeDiff, Nat.reduceLT, Nat.reduceMul, Nat.reduceEqDiff, Int.reduceEq, Int.reduceBEq, Int.reduceBNe, Int.reduceLT, Int.reduceLE, Int.reduceGT, Int.reduceGE, Int.reduceNeg, Int.reduceAdd, Int.reduceSub, reduceCtorEq, List.reduceReplicate, ← List.map_take, ← List.map_drop]
        refine callI_pure h21 rfl rfl ?_
        simp -dsimp -implicitDefEqProofs only [hy, twoC, tn0, tn1, tw0, tw1, qq, Nat.reduceBEq, reduceIte, Nat.reduceAdd, Nat.reduceSub, Nat.reduceLeDiff, Nat.reduceLT, Nat.reduceMul, Nat.reduceEqDiff, Int.reduceEq, Int.reduceBEq, Int.reduceBNe, Int.reduceLT, Int.reduceLE, Int.reduceGT, Int.reduceGE, Int.reduceNeg, Int.reduceAdd, Int.reduceSub, reduceCtorEq, List.reduceReplicate, ← List.map_take, ← List.map_drop]
        refine callI_pure h22 rfl rfl ?_
        simp -dsimp -implicitDefEqProofs only [qq, Nat.reduceBEq, reduceIte, Nat.reduceAdd, Nat.reduceSub, Nat.reduceLeDiff, Nat.reduceLT, Nat.reduceMul, Nat.reduceEqDiff, Int.reduceEq, Int.reduceBEq, Int.reduceBNe, Int.reduceLT, Int.reduceLE, Int.reduceGT, Int.reduceGE, Int.reduceNeg, Int.reduceAdd, Int.reduceSub, reduceCtorEq, List.reduceReplicate, ← List.map_take, ← List.map_drop]
        refine app_own (ys := [(mkSpt y).c]) (hu.app _) (by decide) (by decide) (by simp [Sh.shown]) (by simp [V.one]) (by rw [List.length_map, List.length_take]; simp; omega) fun u' H' hu' ha hf => ?_
        simp -dsimp -implicitDefEqProofs only [hwj, qq, Nat.reduceBEq, reduceIte, Nat.reduceAdd, Nat.reduceSub, Nat.reduceLeDiff, Nat.reduceLT, Nat.reduceMul, Nat.reduceEqDiff, Int.reduceEq, Int.reduceBEq, Int.reduceBNe, Int.reduceLT, Int.reduceLE, Int.reduceGT, Int.reduceGE, Int.reduceNeg, Int.reduceAdd, Int.reduceSub, reduceCtorEq, List.reduceReplicate, ← List.map_take, ← List.map_drop]
        have hnx : (ss.take j).map Spt.c ++ [(mkSpt y).c] = (ss.take (j + 1)).map Spt.c := by rw [htk, List.map_append]; rfl
        rw [hnx] at hu'
        refine ⟨j + 1, by omega, ?_⟩
        rcases Nat.lt_or_ge (j + 1) M with h | h
        · exact ⟨_, _, .refl _ _, by omega, u', rfl, .inl ⟨h, hu'⟩⟩
        · rw [List.take_of_length_le (by omega)] at hu'
          obtain ⟨H3, hs3, _⟩ := shift_own (s := 10) hu' (bel_spts _) [(1, .fsl (sp.map twoC)), (2, .i .i64 n), (7, .b true), (8, .fsl (bs.map bgC))] [(11, .i .i64 (j + 1 : Nat))]
          exact ⟨_, _, hs3, by omega, _, rfl, .inr ⟨by omega, rfl⟩⟩
      have hcc : (decide ((j : Int) < (sp.length : Int)) = false) ∨ (decide ((j : Int) < (sp.length : Int)) = true ∧ decide ((j : Int) < 6) = false) := by
        rcases Nat.lt_or_ge j sp.length with h | h
        · exact .inr ⟨decide_eq_true (by omega), decide_eq_false (by omega)⟩
        · exact .inl (decide_eq_false (by omega))
      rcases hcc with hd | ⟨hd, hd6⟩
      case' inl => simp -dsimp -implicitDefEqProofs only [hd, qq, Nat.reduceBEq, reduceIte, Nat.reduceAdd, Nat.reduceSub, Nat.reduceLeDiff, Nat.reduceLT, Nat.reduceMul, Nat.reduceEqDiff, Int.reduceEq, Int.reduceBEq, Int.reduceBNe, Int.reduceLT, Int.reduceLE, Int.reduceGT, Int.reduceGE, Int.reduceNeg, Int.reduceAdd, Int.reduceSub, reduceCtorEq, List.reduceReplicate, ← List.map_take, ← List.map_drop]
      case' inr => simp -dsimp -implicitDefEqProofs only [hd, hd6, qq, Nat.reduceBEq, reduceIte, Nat.reduceAdd, Nat.reduceSub, Nat.reduceLeDiff, Nat.reduceLT, Nat.reduceMul, Nat.reduceEqDiff, Int.reduceEq, Int.reduceBEq, Int.reduceBNe, Int.reduceLT, Int.reduceLE, Int.reduceGT, Int.reduceGE, Int.reduceNeg, Int.reduceAdd, Int.reduceSub, reduceCtorEq, List.reduceReplicate, ← List.map_take, ← List.map_drop]
    all_goals
      refine callI_pure h3' rfl rfl ?_
      rcases hpl with he | ⟨he, hol, hgood⟩
      · rw [he]
        simp -dsimp -implicitDefEqProofs only [qq, Nat.reduceBEq, reduceIte, Nat.reduceAdd, Nat.reduceSub, Nat.reduceLeDiff, Nat.reduceLT, Nat.reduceMul, Nat.reduceEqDiff, Int.reduceEq, Int.reduceBEq, Int.reduceBNe, Int.reduceLT, Int.reduceLE, Int.reduceGT, Int.reduceGE, Int.reduceNeg, Int.reduceAdd, Int.reduceSub, reduceCtorEq, List.reduceReplicate, ← List.map_take, ← List.map_drop]
        exact Ends.plain rfl rfl rfl
      rw [he]
      generalize seatR bs ss = out at *
      have hne : ((out.length : Int) != (bs.length : Int)) = false := by rw [hol]; simp
      simp -dsimp -implicitDefEqProofs only [hne, qq, Nat.reduceBEq, reduceIte, Nat.reduceAdd, Nat.reduceSub, Nat.reduceLeDiff, Nat.reduceLT, Nat.reduceMul, Nat.reduceEqDiff, Int.reduceEq, Int.reduceBEq, Int.reduceBNe, Int.reduceLT, Int.reduceLE, Int.reduceGT, Int.reduceGE, Int.reduceNeg, Int.reduceAdd, Int.reduceSub, reduceCtorEq, List.reduceReplicate, ← List.map_take, ← List.map_drop]
      refine loopI_st (fun i : Nat => out.length - i) (fun i E H => i ≤ out.length ∧ E = [(2, .i .i64 n), (8, .fsl (bs.map bgC)), (10, .fsl (ss.map Spt.c)), (12, .fsl (out.map intC)), (14, .i .i64 i)]) 0 ⟨by omega, rfl⟩ ?_
      rintro a _ H5 ⟨ha, rfl⟩
      rcases Nat.lt_or_ge a out.length with hal | hal
      · have hc1 : decide ((a : Int) < (out.length : Int)) = true := decide_eq_true (by omega)
        have hwa : IntKind.i64.wrap ((a : Int) + 1) = ((a + 1 : Nat) : Int) := wrap_succ (by omega)
        obtain ⟨x, hx, hxm, _, _⟩ := next_of hal
        obtain ⟨g1, g2, g3, g4⟩ := hgood a x hx
        have q1 : decide (x < 0) = false := decide_eq_false (by omega)
        have q2 : decide (x ≥ (ss.length : Int)) = false := decide_eq_false (by omega)
        obtain ⟨b, hb, hbm, _, _⟩ := next_of (show a < bs.length by omega)
        obtain ⟨s, hs, hsm, _, _⟩ := next_of (show x.toNat < ss.length by omega)
        have hrow : rowAt (ss.map Spt.c) x = some s.c := rowAt_int g1 hs
        have hfit : fitsS b.1 b.2 s = 1 := by simpa [fitB, hb, hs] using g3
        have h5' := h5 b.1 b.2 s
        rw [hbb b hbm, hsb s hsm, hfit] at h5'
        simp only [Bool.and_self, if_true] at h5'
        have h4' := h4 (out.take a) x (by rw [List.length_take]; omega)
        rw [decide_eq_false g4] at h4'
        simp -dsimp -implicitDefEqProofs only [hc1, hx, q1, q2, intC, qq, Nat.reduceBEq, reduceIte, Nat.reduceAdd, Nat.reduceSub, Nat.reduceLeDiff, Nat.reduceLT, Nat.reduceMul, Nat.reduceEqDiff, Int.reduceEq, Int.reduceBEq, Int.reduceBNe, Int.reduceLT, Int.reduceLE, Int.reduceGT, Int.reduceGE, Int.reduceNeg, Int.reduceAdd, Int.reduceSub, reduceCtorEq, List.reduceReplicate, ← List.map_take, ← List.map_drop]
        refine ⟨fun r hr => by obtain ⟨x, _, rfl⟩ := List.mem_map.1 hr; rfl, by omega, by omega, by omega, app_newZ (ys := (out.take a).map intC) (newZ_lit rfl rfl) (by decide) (by decide) rfl (fun r hr => by obtain ⟨x, _, rfl⟩ := List.mem_map.1 hr; exact ⟨rfl, rfl⟩) (by simp; omega) fun v1 H1 hn1 => ⟨hn1.take, ?_⟩⟩
        rw [List.nil_append] at hn1
        simp -dsimp -implicitDefEqProofs only [hx, intC, qq, Nat.reduceBEq, reduceIte, Nat.reduceAdd, Nat.reduceSub, Nat.reduceLeDiff, Nat.reduceLT, Nat.reduceMul, Nat.reduceEqDiff, Int.reduceEq, Int.reduceBEq, Int.reduceBNe, Int.reduceLT, Int.reduceLE, Int.reduceGT, Int.reduceGE, Int.reduceNeg, Int.reduceAdd, Int.reduceSub, reduceCtorEq, List.reduceReplicate, ← List.map_take, ← List.map_drop]
        refine callI_lend2 h4' (hn1.own.frz (bel_ints _)) (.keep _ rfl) rfl ?_
        simp -dsimp -implicitDefEqProofs only [hb, hx, hrow, bgC, intC, Spt.c, qq, Nat.reduceBEq, reduceIte, Nat.reduceAdd, Nat.reduceSub, Nat.reduceLeDiff, Nat.reduceLT, Nat.reduceMul, Nat.reduceEqDiff, Int.reduceEq, Int.reduceBEq, Int.reduceBNe, Int.reduceLT, Int.reduceLE, Int.reduceGT, Int.reduceGE, Int.reduceNeg, Int.reduceAdd, Int.reduceSub, reduceCtorEq, List.reduceReplicate, ← List.map_take, ← List.map_drop]
        refine callI_pure h5' rfl rfl ?_
        simp -dsimp -implicitDefEqProofs only [hwa, qq, Nat.reduceBEq, reduceIte, Nat.reduceAdd, Nat.reduceSub, Nat.reduceLeDiff, Nat.reduceLT, Nat.reduceMul, Nat.reduceEqDiff, Int.reduceEq, Int.reduceBEq, Int.reduceBNe, Int.reduceLT, Int.reduceLE, Int.reduceGT, Int.reduceGE, Int.reduceNeg, Int.reduceAdd, Int.reduceSub, reduceCtorEq, List.reduceReplicate, ← List.map_take, ← List.map_drop]
        exact ⟨a + 1, by omega, by omega, rfl⟩
      · obtain rfl : a = out.length := by omega
        have hc1 : decide ((out.length : Int) < (out.length : Int)) = false := by simp
        rcases Nat.eq_zero_or_pos ss.length with h00 | h00
        · have q0 : ((ss.length : Int) == 0) = true := by rw [h00]; rfl
          simp -dsimp -implicitDefEqProofs only [hc1, q0, qq, Nat.reduceBEq, reduceIte, Nat.reduceAdd, Nat.reduceSub, Nat.reduceLeDiff, Nat.reduceLT, Nat.reduceMul, Nat.reduceEqDiff, Int.reduceEq, Int.reduceBEq, Int.reduceBNe, Int.reduceLT, Int.reduceLE, Int.reduceGT, Int.reduceGE, Int.reduceNeg, Int.reduceAdd, Int.reduceSub, reduceCtorEq, List.reduceReplicate, ← List.map_take, ← List.map_drop]
          exact Ends.plain rfl rfl rfl
        · have q0 : ((ss.length : Int) == 0) = false := beq_eq_false_iff_ne.2 (by omega)
          have hmod := mod_pos (n := n) (m := (ss.length : Int)) (by omega)
          have h2' := h2 n ss.length (by omega) (by omega)
          obtain ⟨k, hk⟩ : ∃ k : Nat, n % (ss.length : Int) = k := ⟨(n % (ss.length : Int)).toNat, by omega⟩
          rw [hk] at h2' hmod
          have hkl : k < ss.length := by omega
          obtain ⟨s, hs, hsm, _, _⟩ := next_of hkl
          have hss2 := hsb s hsm
          obtain ⟨s0, hs0, hs0e⟩ : ∃ y : Int × Int, y ∈ sp ∧ mkSpt y = s := by
            rw [hss] at hsm
            obtain ⟨y, hy, e⟩ := List.mem_map.1 hsm
            exact ⟨y, List.mem_of_mem_take hy, e⟩
          have m1 := mod_pos (n := s0.1) (m := 2000) (by decide)
          have m2 := mod_pos (n := s0.2) (m := 100) (by decide)
          have hcr : 0 ≤ s.crown ∧ s.crown < 2000 ∧ 0 ≤ s.lean ∧ s.lean < 100 := by rw [← hs0e]; exact ⟨m1.1, m1.2, m2.1, m2.2⟩
          obtain ⟨t, ht⟩ : ∃ t : Spt, t = ⟨s.crown + 100, s.lean + 5⟩ := ⟨_, rfl⟩
          have hw1 : IntKind.i64.wrap (s.crown + 100) = s.crown + 100 := wrap_id (by omega) (by omega)
          have hw2 : IntKind.i64.wrap (s.lean + 5) = s.lean + 5 := wrap_id (by omega) (by omega)
          have hbet : seatE bs (ss.set k t) = 0 := by
            refine seated_better hbb (fun x hx => ?_) (by omega) (by rw [List.length_set]; omega) (by rw [List.length_set]) (fun j x y h1 h2 => ?_) hol hgood
            · rcases List.mem_or_eq_of_mem_set hx with g | rfl
              · exact hsb x g
              · rw [ht]; simp [spotB, inR]; omega
            · rw [List.getElem?_set] at h2
              split at h2
              · rename_i e; subst e
                cases h2
                rw [hs] at h1; cases h1
                rw [ht]; simp only; omega
              · rw [h1] at h2; cases h2; omega
          have h3b := h3 bs (ss.set k t) (by omega) (by rw [List.length_set]; omega)
          rw [hbet] at h3b
          simp -dsimp -implicitDefEqProofs only [hc1, q0, qq, Nat.reduceBEq, reduceIte, Nat.reduceAdd, Nat.reduceSub, Nat.reduceLeDiff, Nat.reduceLT, Nat.reduceMul, Nat.reduceEqDiff, Int.reduceEq, Int.reduceBEq, Int.reduceBNe, Int.reduceLT, Int.reduceLE, Int.reduceGT, Int.reduceGE, Int.reduceNeg, Int.reduceAdd, Int.reduceSub, reduceCtorEq, List.reduceReplicate, ← List.map_take, ← List.map_drop]
          refine app_newZ (ys := ss.map Spt.c) (newZ_lit rfl rfl) (by decide) (by decide) rfl (fun r hr => by obtain ⟨x, _, rfl⟩ := List.mem_map.1 hr; exact ⟨rfl, rfl⟩) (by simp; omega) fun v1 H1 hn1 => ?_
          rw [List.nil_append] at hn1
          obtain ⟨p, c, e, hv1, hp⟩ := hn1.own.pos (by intro h; have h2 := congrArg List.length h; rw [List.length_map, List.length_nil] at h2; omega)
          subst hv1
          rw [List.length_map]
          simp -dsimp -implicitDefEqProofs only [qq, Nat.reduceBEq, reduceIte, Nat.reduceAdd, Nat.reduceSub, Nat.reduceLeDiff, Nat.reduceLT, Nat.reduceMul, Nat.reduceEqDiff, Int.reduceEq, Int.reduceBEq, Int.reduceBNe, Int.reduceLT, Int.reduceLE, Int.reduceGT, Int.reduceGE, Int.reduceNeg, Int.reduceAdd, Int.reduceSub, reduceCtorEq, List.reduceReplicate, ← List.map_take, ← List.map_drop]
          refine callI_pure h2' rfl rfl ?_
          have u1 : ∀ b, (H1.set p b)[p]? = some b := fun b => get_setsame hp
          have u3 : ∀ r, ((ss.map Spt.c).set k r)[k]? = some r := fun r => List.getElem?_set_self (by rw [List.length_map]; omega)
          have z0 : ((0 : Int) ≤ (k : Int)) = True := eq_true (by omega)
          have z1 : ((k : Int) < (ss.length : Int)) = True := eq_true (by omega)
          have hfin : (ss.map Spt.c).set k (Spt.c ⟨s.crown + 100, s.lean + 5⟩) = (ss.set k t).map Spt.c := by rw [← ht, List.map_set]
          simp only [Spt.c] at hfin
          simp -dsimp -implicitDefEqProofs only [z0, z1, hp, hs, Spt.c, u1, u3, List.set_set, hw1, hw2, qq, Nat.reduceBEq, reduceIte, Nat.reduceAdd, Nat.reduceSub, Nat.reduceLeDiff, Nat.reduceLT, Nat.reduceMul, Nat.reduceEqDiff, Int.reduceEq, Int.reduceBEq, Int.reduceBNe, Int.reduceLT, Int.reduceLE, Int.reduceGT, Int.reduceGE, Int.reduceNeg, Int.reduceAdd, Int.reduceSub, reduceCtorEq, List.reduceReplicate, ← List.map_take, ← List.map_drop]
          rw [hfin]
          refine callI_give (fun i => i == p) (.cons (.keep _) (.cons (give_lit (by simp) (u1 _) (by simp) (bel_spts _)) .nil)) ?_
          refine callI_pure h3b rfl rfl ?_
          simp -dsimp -implicitDefEqProofs only [qq, Nat.reduceBEq, reduceIte, Nat.reduceAdd, Nat.reduceSub, Nat.reduceLeDiff, Nat.reduceLT, Nat.reduceMul, Nat.reduceEqDiff, Int.reduceEq, Int.reduceBEq, Int.reduceBNe, Int.reduceLT, Int.reduceLE, Int.reduceGT, Int.reduceGE, Int.reduceNeg, Int.reduceAdd, Int.reduceSub, reduceCtorEq, List.reduceReplicate, ← List.map_take, ← List.map_drop]
          exact Ends.plain rfl rfl rfl
end Go.Sh.C3
end
section
namespace Go.Sh
open Go.Proofs Go.Sort Go.Shelf Go.RowKit Go.Lib
variable {P : Program} {ρ : Ren}
theorem sortsI_of (L : SlLaysF.n6 P ρ) (hf : isFn P (ρ.f 6)) : SortsI P (ρ.f 6) :=
  ⟨hf, fun p cap fv w => AnyF.slices_SortFunc_none { L with } p cap fv w, fun enc h1 cf hO g cb blk off cap d w eg hcmp hH hblk hsz hT => Any.slices_SortFunc_total L enc h1 cf hO g cb blk off cap d w eg hcmp hH hblk hsz hT⟩
end Go.Sh
end
section
namespace Go.Proofs
open Go.Shelf
def Try.sortInt_ren : Go.Shelf.Ren := ⟨fun | 6 => 133 | 15 => 148 | 14 => 147 | 28 => 158 | 29 => 159 | 20 => 150 | 21 => 151 | 22 => 152 | 23 => 153 | 24 => 154 | 25 => 155 | 26 => 156 | 27 => 157 | 46 => 160 | 47 => 161 | 48 => 162 | 49 => 163 | 50 => 164 | 57 => 165 | n => n, fun | 22 => 38 | 24 => 3 | 25 => 49 | 3 => 3 | 39 => 172 | 0 => 0 | 53 => 183 | 55 => 185 | 4 => 4 | 46 => 176 | 45 => 175 | 50 => 180 | 5 => 5 | 9 => 9 | 66 => 186 | 70 => 190 | 76 => 192 | 77 => 193 | n => n, fun | n => n⟩
theorem Try.sortInt : Go.Proofs.SlLaysF.n6 Try.prog Try.sortInt_ren := {
  mixed := by kernel_rfl
  f6 := ⟨Try.f133.name, by decide, Try.func133.trans (congrArg some (by kernel_rfl))⟩
  f14 := ⟨Try.f147.name, by decide, Try.func147.trans (congrArg some (by kernel_rfl))⟩
  f15 := Try.func148.trans (congrArg some (by kernel_rfl))
  f20 := ⟨Try.f150.name, by decide, Try.func150.trans (congrArg some (by kernel_rfl))⟩
  f21 := ⟨Try.f151.name, by decide, Try.func151.trans (congrArg some (by kernel_rfl))⟩
  f22 := ⟨Try.f152.name, by decide, Try.func152.trans (congrArg some (by kernel_rfl))⟩
  f23 := ⟨Try.f153.name, by decide, Try.func153.trans (congrArg some (by kernel_rfl))⟩
  f24 := ⟨Try.f154.name, by decide, Try.func154.trans (congrArg some (by kernel_rfl))⟩
  f25 := ⟨Try.f155.name, by decide, Try.func155.trans (congrArg some (by kernel_rfl))⟩
  f26 := ⟨Try.f156.name, by decide, Try.func156.trans (congrArg some (by kernel_rfl))⟩
  f27 := ⟨Try.f157.name, by decide, Try.func157.trans (congrArg some (by kernel_rfl))⟩
  f28 := Try.func158.trans (congrArg some (by kernel_rfl))
  f29 := Try.func159.trans (congrArg some (by kernel_rfl))
  f46 := ⟨Try.f160.name, by decide, Try.func160.trans (congrArg some (by kernel_rfl))⟩
  f47 := Try.func161.trans (congrArg some (by kernel_rfl))
  f48 := Try.func162.trans (congrArg some (by kernel_rfl))
  f49 := ⟨Try.f163.name, by decide, Try.func163.trans (congrArg some (by kernel_rfl))⟩
  f50 := ⟨Try.f164.name, by decide, Try.func164.trans (congrArg some (by kernel_rfl))⟩
  f57 := ⟨Try.f165.name, by decide, Try.func165.trans (congrArg some (by kernel_rfl))⟩
  t0 := Try.underlying0
  a0 := Try.isAgg0
  z0 := Try.sizeOf0
  v0 := Try.zeroValue0
  t3 := Try.underlying3
  a3 := Try.isAgg3
  z3 := Try.sizeOf3
  v3 := Try.zeroValue3
  t4 := Try.underlying4
  a4 := Try.isAgg4
  z4 := Try.sizeOf4
  v4 := Try.zeroValue4
  t5 := Try.underlying5
  a5 := Try.isAgg5
  z5 := Try.sizeOf5
  v5 := Try.zeroValue5
  t9 := Try.underlying9
  a9 := Try.isAgg9
  z9 := Try.sizeOf9
  v9 := Try.zeroValue9
  t22 := Try.underlying38
  a22 := Try.isAgg38
  z22 := Try.sizeOf38
  v22 := Try.zeroValue38
  a24 := Try.isAgg3
  z24 := Try.sizeOf3
  t25 := Try.underlying49
  a25 := Try.isAgg49
  z25 := Try.sizeOf49
  v25 := Try.zeroValue49
  t39 := Try.underlying172
  a39 := Try.isAgg172
  z39 := Try.sizeOf172
  v39 := Try.zeroValue172
  t45 := Try.underlying175
  a45 := Try.isAgg175
  z45 := Try.sizeOf175
  v45 := Try.zeroValue175
  t46 := Try.underlying176
  a46 := Try.isAgg176
  z46 := Try.sizeOf176
  v46 := Try.zeroValue176
  t50 := Try.underlying180
  a50 := Try.isAgg180
  z50 := Try.sizeOf180
  v50 := Try.zeroValue180
  t53 := Try.underlying183
  a53 := Try.isAgg183
  z53 := Try.sizeOf183
  v53 := Try.zeroValue183
  t55 := Try.underlying185
  a55 := Try.isAgg185
  z55 := Try.sizeOf185
  v55 := Try.zeroValue185
  t66 := Try.underlying186
  a66 := Try.isAgg186
  z66 := Try.sizeOf186
  v66 := Try.zeroValue186
  t70 := Try.underlying190
  a70 := Try.isAgg190
  z70 := Try.sizeOf190
  v70 := Try.zeroValue190
  t76 := Try.underlying192
  a76 := Try.isAgg192
  z76 := Try.sizeOf192
  v76 := Try.zeroValue192
  t77 := Try.underlying193
  a77 := Try.isAgg193
  z77 := Try.sizeOf193
  v77 := Try.zeroValue193 }
end Go.Proofs
end
section
namespace Go.Sh.C3
open Go.Sh Go.Proofs
set_option maxRecDepth 100000
set_option linter.unusedVariables false
theorem mixed : Try.prog.follows .mixedOrders = true := by kernel_rfl
theorem low_17 : lowF Try.prog 17 = some (190, [.tmp 6], (ic_potbanklaw03_BungSeated 19 23 27 69 73 30).erase) := by kernel_rfl
theorem low_19 : lowF Try.prog 19 = some (146, [.tmp 0], (ic_potbanklaw03_sane 75 59 32 24 26 53 20 39 22 40).erase) := by kernel_rfl
theorem low_75 : lowF Try.prog 75 = some (14, [.tmp 0], (ic_potbanklaw03_example).erase) := by kernel_rfl
theorem c_C_example_75 : C_example Try.prog 75 := ok_example mixed low_75
theorem low_59 : lowF Try.prog 59 = some (53, [.cell 6 (some 3), .tmp 7], (ic_bung_Set 110 94 111 112).erase) := by kernel_rfl
theorem low_110 : lowF Try.prog 110 = some (5, [.tmp 2], (ic_bung_isWad 139).erase) := by kernel_rfl
theorem low_139 : lowF Try.prog 139 = some (24, [.tmp 6], (ic_bung_isRange).erase) := by kernel_rfl
theorem c_C_isRange_139 : C_isRange Try.prog 139 := ok_isRange mixed low_139
theorem c_C_isWad_110 : C_isWad Try.prog 110 := ok_isWad mixed low_110 c_C_isRange_139
theorem low_94 : lowF Try.prog 94 = some (29, [.tmp 2], (ic_bung_isList 100).erase) := by kernel_rfl
theorem low_100 : lowF Try.prog 100 = some (26, [.tmp 2], (ic_bung_isSaggar 111 139).erase) := by kernel_rfl
theorem low_111 : lowF Try.prog 111 = some (15, [.tmp 6], (ic_bung_within).erase) := by kernel_rfl
theorem c_C_within_111 : C_within Try.prog 111 := ok_within mixed low_111
theorem c_C_isSaggar_100 : C_isSaggar Try.prog 100 := ok_isSaggar mixed low_100 c_C_within_111 c_C_isRange_139
theorem c_C_isList_94 : C_isList Try.prog 94 := ok_isList mixed low_94 c_C_isSaggar_100
theorem low_112 : lowF Try.prog 112 = some (23, [.tmp 4], (ic_bung_stacked).erase) := by kernel_rfl
theorem c_C_stacked_112 : C_stacked Try.prog 112 := ok_stacked mixed low_112
theorem c_C_Set_59 : C_Set Try.prog 59 := ok_Set mixed low_59 c_C_isWad_110 c_C_isList_94 c_C_within_111 c_C_stacked_112
theorem low_32 : lowF Try.prog 32 = some (10, [.tmp 2, .tmp 3], (ic_bung_Loads 80 88).erase) := by kernel_rfl
theorem low_80 : lowF Try.prog 80 = some (17, [.tmp 2], (ic_bung_isBung 110 94).erase) := by kernel_rfl
theorem c_C_isBung_80 : C_isBung Try.prog 80 := ok_isBung mixed low_80 c_C_isWad_110 c_C_isList_94
theorem low_88 : lowF Try.prog 88 = some (18, [.tmp 2], (ic_bung_loads 130).erase) := by kernel_rfl
theorem low_130 : lowF Try.prog 130 = some (4, [.tmp 2], (ic_bung_down 145).erase) := by kernel_rfl
theorem low_145 : lowF Try.prog 145 = some (25, [], (ic_bung_down_1 129).erase) := by kernel_rfl
theorem low_129 : lowF Try.prog 129 = some (26, [.cell 2 (some 2)], (ic_bung_sum).erase) := by kernel_rfl
theorem c_C_sum_129 : C_sum Try.prog 129 := ok_sum mixed low_129
theorem c_C_down_130 : C_down Try.prog 130 := ok_down mixed low_130 low_145 c_C_sum_129
theorem c_C_loads_88 : C_loads Try.prog 88 := ok_loads mixed low_88 c_C_down_130
theorem c_C_Loads_32 : C_Loads Try.prog 32 := ok_Loads mixed low_32 c_C_isBung_80 c_C_loads_88
theorem low_24 : lowF Try.prog 24 = some (11, [.tmp 2, .tmp 3], (ic_bung_Stands 80 82 81).erase) := by kernel_rfl
theorem low_82 : lowF Try.prog 82 = some (26, [.tmp 2], (ic_bung_courses 88 128).erase) := by kernel_rfl
theorem low_128 : lowF Try.prog 128 = some (17, [.tmp 4], (ic_bung_answer).erase) := by kernel_rfl
theorem c_C_answer_128 : C_answer Try.prog 128 := ok_answer mixed low_128
theorem c_C_courses_82 : C_courses Try.prog 82 := ok_courses mixed low_82 c_C_loads_88 c_C_answer_128
theorem low_81 : lowF Try.prog 81 = some (9, [.tmp 2], (ic_bung_all 127).erase) := by kernel_rfl
theorem low_127 : lowF Try.prog 127 = some (9, [.tmp 4], (ic_slices_Contains_Sint_int 144).erase) := by kernel_rfl
theorem low_144 : lowF Try.prog 144 = some (19, [.tmp 4], (ic_slices_Index_Sint_int).erase) := by kernel_rfl
theorem c_C_Index_144 : C_Index Try.prog 144 := ok_Index mixed low_144
theorem c_C_Contains_127 : C_Contains Try.prog 127 := ok_Contains mixed low_127 c_C_Index_144
theorem c_C_all_81 : C_all Try.prog 81 := ok_all mixed low_81 c_C_Contains_127
theorem c_C_Stands_24 : C_Stands Try.prog 24 := ok_Stands mixed low_24 c_C_isBung_80 c_C_courses_82 c_C_all_81
theorem low_26 : lowF Try.prog 26 = some (9, [.tmp 2, .tmp 3], (ic_bung_Lean 80 84).erase) := by kernel_rfl
theorem low_84 : lowF Try.prog 84 = some (41, [.tmp 2], (ic_bung_lean).erase) := by kernel_rfl
theorem c_C_lean_84 : C_lean Try.prog 84 := ok_lean mixed low_84
theorem c_C_Lean_26 : C_Lean Try.prog 26 := ok_Lean mixed low_26 c_C_isBung_80 c_C_lean_84
theorem low_53 : lowF Try.prog 53 = some (55, [.cell 2 (some 3), .tmp 3], (ic_bung_Breaks 80 82).erase) := by kernel_rfl
theorem c_C_Breaks_53 : C_Breaks Try.prog 53 := ok_Breaks mixed low_53 c_C_isBung_80 c_C_courses_82
theorem low_20 : lowF Try.prog 20 = some (45, [.tmp 6, .tmp 7], (ic_bung_Fewest 76 77).erase) := by kernel_rfl
theorem low_76 : lowF Try.prog 76 = some (19, [.tmp 6], (ic_bung_asked 110 94 85).erase) := by kernel_rfl
theorem low_85 : lowF Try.prog 85 = some (11, [.tmp 2], (ic_bung_isSpot 111).erase) := by kernel_rfl
theorem c_C_isSpot_85 : C_isSpot Try.prog 85 := ok_isSpot mixed low_85 c_C_within_111
theorem c_C_asked_76 : C_asked Try.prog 76 := ok_asked mixed low_76 c_C_isWad_110 c_C_isList_94 c_C_isSpot_85
theorem low_77 : lowF Try.prog 77 = some (69, [.tmp 8], (ic_bung_packer_pack 124 125 126 77).erase) := by kernel_rfl
theorem low_124 : lowF Try.prog 124 = some (8, [.tmp 2], (ic_slices_Clone_SSint_Sint).erase) := by kernel_rfl
theorem c_C_CloneR_124 : C_CloneR Try.prog 124 := ok_CloneR mixed low_124
theorem low_125 : lowF Try.prog 125 = some (8, [.tmp 2], (ic_slices_Clone_Sint_int).erase) := by kernel_rfl
theorem c_C_CloneI_125 : C_CloneI Try.prog 125 := ok_CloneI mixed low_125
theorem low_126 : lowF Try.prog 126 = some (36, [.tmp 4], (ic_bung_packer_known 107).erase) := by kernel_rfl
theorem low_107 : lowF Try.prog 107 = some (19, [.tmp 4], (ic_bung_packer_do 95 112 86).erase) := by kernel_rfl
theorem low_95 : lowF Try.prog 95 = some (14, [.tmp 4], (ic_bung_rule 132 125 134 133).erase) := by kernel_rfl
theorem isFn_134 : isFn Try.prog 134 := ⟨_, Try.func134, by kernel_rfl, by kernel_rfl⟩
theorem low_132 : lowF Try.prog 132 = some (17, [.tmp 3], (ic_bung_rule_1).erase) := by kernel_rfl
theorem c_C_strong_132 : C_strong Try.prog 132 := ok_strong mixed low_132
theorem low_134 : lowF Try.prog 134 = some (27, [.tmp 6], (ic_bung_rule_2 136 135).erase) := by kernel_rfl
theorem low_136 : lowF Try.prog 136 = some (20, [.tmp 4], (ic_cmp_Compare_int 149).erase) := by kernel_rfl
theorem low_149 : lowF Try.prog 149 = some (6, [.tmp 2], (ic_cmp_isNaN_int).erase) := by kernel_rfl
theorem c_C_isNaN_149 : C_isNaN Try.prog 149 := ok_isNaN mixed low_149
theorem c_C_Compare_136 : C_Compare Try.prog 136 := ok_Compare mixed low_136 c_C_isNaN_149
theorem low_135 : lowF Try.prog 135 = some (18, [.tmp 2], (ic_cmp_Or_int).erase) := by kernel_rfl
theorem c_C_Or_135 : C_Or Try.prog 135 := ok_Or mixed low_135
theorem c_C_order_134_132 : C_order Try.prog 134 132 := ok_order mixed low_134 c_C_Compare_136 c_C_Or_135 c_C_strong_132
theorem isFn_133 : isFn Try.prog 133 := ⟨_, Try.func133, by kernel_rfl, by kernel_rfl⟩
theorem c_C_rule_95 : C_rule Try.prog 95 := ok_rule mixed low_95 isFn_134 c_C_strong_132 c_C_CloneI_125 c_C_order_134_132 (sortsI_of Try.sortInt isFn_133)
theorem low_86 : lowF Try.prog 86 = some (40, [.tmp 4], (ic_bung_fits 83 82 81 84).erase) := by kernel_rfl
theorem low_83 : lowF Try.prog 83 = some (29, [.cell 2 (some 2)], (ic_bung_height 129).erase) := by kernel_rfl
theorem c_C_height_83 : C_height Try.prog 83 := ok_height mixed low_83 c_C_sum_129
theorem c_C_fits_86 : C_fits Try.prog 86 := ok_fits mixed low_86 c_C_height_83 c_C_courses_82 c_C_all_81 c_C_lean_84
theorem c_C_do_107 : C_do Try.prog 107 := ok_do mixed low_107 c_C_rule_95 c_C_stacked_112 c_C_fits_86
theorem c_C_known_126 : C_known Try.prog 126 := ok_known' mixed low_126 c_C_do_107
theorem c_C_pack_77 : C_pack Try.prog 77 := ok_pack mixed low_77 c_C_CloneR_124 c_C_CloneI_125 c_C_known_126
theorem c_C_Fewest_20 : C_Fewest Try.prog 20 := ok_Fewest mixed low_20 c_C_asked_76 c_C_pack_77
theorem low_39 : lowF Try.prog 39 = some (31, [.tmp 4], (ic_potbankref03_SameRanges).erase) := by kernel_rfl
theorem c_C_SameRanges_39 : C_SameRanges Try.prog 39 := ok_SameRanges mixed low_39
theorem low_22 : lowF Try.prog 22 = some (31, [.tmp 4], (ic_potbankref03_SameParts 40).erase) := by kernel_rfl
theorem low_40 : lowF Try.prog 40 = some (26, [.tmp 4], (ic_potbankref01_Same).erase) := by kernel_rfl
theorem c_C_Same_40 : C_Same Try.prog 40 := ok_Same mixed low_40
theorem c_C_SameParts_22 : C_SameParts Try.prog 22 := ok_SameParts mixed low_22 c_C_Same_40
theorem c_C_sane_19 : C_sane Try.prog 19 := ok_sane mixed low_19 c_C_example_75 c_C_Set_59 c_C_Loads_32 c_C_Stands_24 c_C_Lean_26 c_C_Breaks_53 c_C_Fewest_20 c_C_SameRanges_39 c_C_SameParts_22 c_C_Same_40
theorem low_23 : lowF Try.prog 23 = some (45, [.cell 6 (some 3)], (ic_potbanklaw03_stack 61 62 74).erase) := by kernel_rfl
theorem low_61 : lowF Try.prog 61 = some (72, [.tmp 4], (ic_potbankref03_Made 27).erase) := by kernel_rfl
theorem low_27 : lowF Try.prog 27 = some (12, [.tmp 4], (ic_potbankref03_Mod).erase) := by kernel_rfl
theorem c_C_Mod_27 : C_Mod Try.prog 27 := ok_Mod mixed low_27
theorem c_C_Made_61 : C_Made Try.prog 61 := ok_Made mixed low_61 c_C_Mod_27
theorem low_62 : lowF Try.prog 62 = some (14, [.cell 2 (some 2)], (ic_potbankref03_Wad 27).erase) := by kernel_rfl
theorem c_C_Wad_62 : C_Wad Try.prog 62 := ok_Wad mixed low_62 c_C_Mod_27
theorem low_74 : lowF Try.prog 74 = some (55, [.tmp 4], (ic_potbankref03_Shuffled 27).erase) := by kernel_rfl
theorem c_C_Shuffled_74 : C_Shuffled Try.prog 74 := ok_Shuffled mixed low_74 c_C_Mod_27
theorem c_C_stack_23 : C_stack Try.prog 23 := ok_stack mixed low_23 c_C_Made_61 c_C_Wad_62 c_C_Shuffled_74
theorem low_69 : lowF Try.prog 69 = some (47, [.tmp 4, .tmp 5], (ic_bung_Seat 80 85 119).erase) := by kernel_rfl
theorem low_119 : lowF Try.prog 119 = some (53, [.tmp 6, .tmp 7], (ic_bung_seats 127 86 125 119).erase) := by kernel_rfl
theorem c_C_seats_119 : C_seats Try.prog 119 := ok_seats mixed low_119 c_C_Contains_127 c_C_fits_86 c_C_CloneI_125
theorem c_C_Seat_69 : C_Seat Try.prog 69 := ok_Seat mixed low_69 c_C_isBung_80 c_C_isSpot_85 c_C_seats_119
theorem low_73 : lowF Try.prog 73 = some (18, [.tmp 4], (ic_potbankref01_Has).erase) := by kernel_rfl
theorem c_C_Has_73 : C_Has Try.prog 73 := ok_Has mixed low_73
theorem low_30 : lowF Try.prog 30 = some (17, [.tmp 4, .tmp 5], (ic_bung_Fits 80 85 86).erase) := by kernel_rfl
theorem c_C_Fits_30 : C_Fits Try.prog 30 := ok_Fits mixed low_30 c_C_isBung_80 c_C_isSpot_85 c_C_fits_86
theorem c_L_BungSeated_17 : L_BungSeated Try.prog 17 := ok_BungSeated mixed low_17 c_C_sane_19 c_C_stack_23 c_C_Mod_27 c_C_Seat_69 c_C_Has_73 c_C_Fits_30
theorem isFn_17 : isFn Try.prog 17 := ⟨_, Try.func17, by kernel_rfl, by kernel_rfl⟩
end Go.Sh.C3
end
