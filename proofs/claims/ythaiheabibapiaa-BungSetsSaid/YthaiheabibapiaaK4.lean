/- The calculus over shadows, and contracts: B4A, B3W, B3X, B4B, ShNz, B5A, B5E, B5H, B5I, B5J, B7A, B7B, B7C, B7D, B8A, B4C, B7E, B5B, B5C, B8B, B8G, B5D, B5M, B8F, B8I, ShSp, TryShelfP, S3BungSets. -/
import Derived.Test.YthaiheabibapiaaK3
import Derived.Shelf.SlSortCmp.NoneTotal
import Derived.Shelf.SlLaysF
import Derived.Shelf.SlGeneric
import Derived.Ground.SlsfProg
import Derived.Test.YthaiheabibapiaaProg
set_option linter.all false
section
namespace Go.Sh.C3
open Go.Sh
set_option maxRecDepth 10000
set_option linter.unusedVariables false
set_option linter.unusedSimpArgs false
variable {P : Program}
def ic_bung_packer_pack (f0 f1 f2 f3 : Nat) : IC := .seq (.reg [⟨some 4, none, .box (.t 0)⟩, ⟨some 8, none, .mov (.c (.nsl))⟩] [1, 2, 3, 4]) (.seq (.seq (.reg [⟨some 12, none, .mov (.t 2)⟩, ⟨some 13, none, .fad 2 (.t 4)⟩, ⟨some 14, none, .ld none (.t 13)⟩, ⟨some 15, none, .len false (.t 14)⟩, ⟨some 16, none, .bin .eql (.t 12) (.t 15)⟩] [1, 2, 3, 4, 16]) (.cond (.t 16) (.seq (.seq (.reg [⟨some 17, none, .mov (.t 1)⟩, ⟨some 18, none, .len false (.t 17)⟩, ⟨some 19, none, .mov (.t 3)⟩, ⟨some 20, none, .bin .eql (.t 18) (.t 19)⟩] [1, 20]) (.cond (.t 20) (.seq (.reg [⟨some 21, none, .mov (.t 1)⟩, ⟨some 8, none, .mov (.t 21)⟩] [8]) (.ret)) (.skip))) (.seq (.reg [⟨some 8, none, .mov (.c (.nsl))⟩] [8]) (.ret))) (.skip))) (.seq (.seq (.reg [⟨some 9, none, .mov (.c (.i .i64 (0)))⟩] [1, 2, 3, 4, 9]) (.block 0 (.loop (.seq (.seq (.reg [⟨some 22, none, .mov (.t 9)⟩, ⟨some 23, none, .mov (.t 1)⟩, ⟨some 24, none, .len false (.t 23)⟩, ⟨some 25, none, .bin .leq (.t 22) (.t 24)⟩, ⟨some 26, none, .mov (.t 25)⟩, ⟨some 27, some (26, true), .mov (.t 9)⟩, ⟨some 28, some (26, true), .mov (.t 3)⟩, ⟨some 29, some (26, true), .bin .lss (.t 27) (.t 28)⟩, ⟨some 30, none, .pick (.t 26) (.t 29) (.c (.b false))⟩] [1, 2, 3, 4, 9, 30]) (.cond (.t 30) (.skip) (.exit 0))) (.seq (.block 1 (.seq (.reg [⟨some 33, none, .mov (.t 1)⟩, ⟨some 34, none, .calv (.c (.fn (.func f0) [] [])) [.t 33]⟩, ⟨some 10, none, .mov (.t 34)⟩] [1, 2, 3, 4, 9, 10]) (.seq (.seq (.reg [⟨some 35, none, .mov (.t 9)⟩, ⟨some 36, none, .mov (.t 1)⟩, ⟨some 37, none, .len false (.t 36)⟩, ⟨some 38, none, .bin .eql (.t 35) (.t 37)⟩] [1, 2, 3, 4, 9, 10, 38]) (.cond (.t 38) (.reg [⟨some 39, none, .mov (.t 10)⟩, ⟨some 40, none, .bsl false 1 1 [.nsl] [(0, (.c (.nsl)))]⟩, ⟨some 41, none, .app 1 24 (.t 39) (.t 40)⟩, ⟨some 10, none, .mov (.t 41)⟩] [1, 2, 3, 4, 9, 10]) (.skip))) (.seq (.reg [⟨some 42, none, .mov (.t 10)⟩, ⟨some 43, none, .mov (.t 9)⟩, ⟨some 44, none, .mov (.t 10)⟩, ⟨some 45, none, .mov (.t 9)⟩, ⟨some 46, none, .ixs 1 (.t 44) (.t 45)⟩, ⟨some 47, none, .ld none (.t 46)⟩, ⟨some 48, none, .calv (.c (.fn (.func f1) [] [])) [.t 47]⟩, ⟨some 49, none, .mov (.t 2)⟩, ⟨some 50, none, .bsl false 1 1 [.i .i64 (0)] [(0, (.t 49))]⟩, ⟨some 51, none, .app 1 8 (.t 48) (.t 50)⟩, ⟨some 52, none, .ixs 1 (.t 42) (.t 43)⟩, ⟨none, none, .st 1 (.t 52) (.t 51)⟩] [1, 2, 3, 4, 9, 10]) (.seq (.seq (.drg [(0, ⟨some 53, none, .ld (some 6) (.t 4)⟩), (0, ⟨some 54, none, .mov (.t 10)⟩), (0, ⟨some 55, none, .mov (.t 9)⟩), (0, ⟨some 56, none, .ixs 1 (.t 54) (.t 55)⟩), (0, ⟨some 57, none, .ld none (.t 56)⟩), (0, ⟨some 58, none, .calv (.c (.fn (.func f2) [] [])) [.t 53, .t 57]⟩), (0, ⟨some 59, none, .un .not (.t 58)⟩)] 5 [1, 2, 3, 4, 9, 10, 59]) (.cond (.t 59) (.exit 1) (.skip))) (.seq (.reg [⟨some 60, none, .ld (some 6) (.t 4)⟩, ⟨some 61, none, .mov (.t 10)⟩, ⟨some 62, none, .mov (.t 2)⟩, ⟨some 63, none, .bin .add (.t 62) (.c (.i .i64 (1)))⟩, ⟨some 64, none, .mov (.t 3)⟩, ⟨some 65, none, .calv (.c (.fn (.func f3) [] [])) [.t 60, .t 61, .t 63, .t 64]⟩, ⟨some 11, none, .mov (.t 65)⟩] [1, 2, 3, 4, 9, 11]) (.seq (.reg [⟨some 66, none, .mov (.t 11)⟩, ⟨some 67, none, .eqb 1 true (.t 66) (.c (.nsl))⟩] [1, 2, 3, 4, 9, 11, 67]) (.cond (.t 67) (.seq (.reg [⟨some 68, none, .mov (.t 11)⟩, ⟨some 8, none, .mov (.t 68)⟩] [8]) (.ret)) (.skip))))))))) (.reg [⟨some 31, none, .mov (.t 9)⟩, ⟨some 32, none, .bin .add (.t 31) (.c (.i .i64 (1)))⟩, ⟨some 9, none, .mov (.t 32)⟩] [1, 2, 3, 4, 9])))))) (.seq (.reg [⟨some 8, none, .mov (.c (.nsl))⟩] [8]) (.ret))))
abbrev Low_bung_packer_pack (P : Program) (f f0 f1 f2 f3 : Nat) : Prop := lowF P f = some (69, [.tmp 8], (ic_bung_packer_pack f0 f1 f2 f3).erase)
def ic_bung_Fewest (f0 f1 : Nat) : IC := .seq (.reg [⟨some 3, none, .box (.t 0)⟩, ⟨some 5, none, .box (.t 2)⟩, ⟨some 6, none, .mov (.c (.nsl))⟩, ⟨some 7, none, .mov (.c (.i .i64 (0)))⟩] [1, 3, 5]) (.seq (.reg [⟨some 12, none, .ld (some 2) (.t 3)⟩, ⟨some 13, none, .mov (.t 1)⟩, ⟨some 14, none, .ld (some 2) (.t 5)⟩, ⟨some 15, none, .calv (.c (.fn (.func f0) [] [])) [.t 12, .t 13, .t 14]⟩, ⟨some 8, none, .mov (.t 15)⟩] [1, 3, 5, 8]) (.seq (.block 0 (.seq (.reg [⟨some 17, none, .mov (.t 8)⟩, ⟨some 18, none, .bin .neq (.t 17) (.c (.i .i64 (0)))⟩, ⟨some 16, none, .mov (.t 18)⟩] [1, 3, 5, 8, 16]) (.cond (.t 16) (.seq (.reg [⟨some 19, none, .mov (.t 8)⟩, ⟨some 6, none, .mov (.c (.nsl))⟩, ⟨some 7, none, .mov (.t 19)⟩] [6, 7]) (.ret)) (.seq (.reg [⟨some 21, none, .mov (.t 1)⟩, ⟨some 22, none, .len false (.t 21)⟩, ⟨some 23, none, .bin .gtr (.t 22) (.c (.i .i64 (9)))⟩, ⟨some 20, none, .mov (.t 23)⟩] [1, 3, 5, 20]) (.cond (.t 20) (.seq (.reg [⟨some 6, none, .mov (.c (.nsl))⟩, ⟨some 7, none, .mov (.c (.i .i64 (36)))⟩] [6, 7]) (.ret)) (.seq (.reg [⟨some 25, none, .mov (.t 1)⟩, ⟨some 26, none, .len false (.t 25)⟩, ⟨some 27, none, .bin .eql (.t 26) (.c (.i .i64 (0)))⟩, ⟨some 24, none, .mov (.t 27)⟩] [1, 3, 5, 24]) (.cond (.t 24) (.seq (.reg [⟨some 6, none, .mov (.c (.nsl))⟩, ⟨some 7, none, .mov (.c (.i .i64 (0)))⟩] [6, 7]) (.ret)) (.skip)))))))) (.seq (.reg [⟨some 28, none, .ld (some 2) (.t 3)⟩, ⟨some 29, none, .mov (.t 1)⟩, ⟨some 30, none, .ld (some 2) (.t 5)⟩, ⟨some 31, none, .mkm⟩, ⟨some 32, none, .bld [.i .i64 (0), .i .i64 (0), .nsl, .i .i64 (0), .i .i64 (0), .nmp] [(0, 2, (.t 28)), (2, 1, (.t 29)), (3, 2, (.t 30)), (5, 1, (.t 31))]⟩, ⟨some 9, none, .alloc [.i .i64 (0), .i .i64 (0), .nsl, .i .i64 (0), .i .i64 (0), .nmp]⟩, ⟨none, none, .st 6 (.t 9) (.t 32)⟩] [1, 9]) (.seq (.seq (.reg [⟨some 10, none, .mov (.c (.i .i64 (1)))⟩] [1, 9, 10]) (.block 1 (.loop (.seq (.seq (.reg [⟨some 33, none, .mov (.t 10)⟩, ⟨some 34, none, .mov (.t 1)⟩, ⟨some 35, none, .len false (.t 34)⟩, ⟨some 36, none, .bin .leq (.t 33) (.t 35)⟩] [1, 9, 10, 36]) (.cond (.t 36) (.skip) (.exit 1))) (.seq (.block 2 (.seq (.reg [⟨some 39, none, .ld (some 6) (.t 9)⟩, ⟨some 40, none, .mov (.t 10)⟩, ⟨some 41, none, .calv (.c (.fn (.func f1) [] [])) [.t 39, .c (.nsl), .c (.i .i64 (0)), .t 40]⟩, ⟨some 11, none, .mov (.t 41)⟩] [1, 9, 10, 11]) (.seq (.reg [⟨some 42, none, .mov (.t 11)⟩, ⟨some 43, none, .eqb 1 true (.t 42) (.c (.nsl))⟩] [1, 9, 10, 11, 43]) (.cond (.t 43) (.seq (.reg [⟨some 44, none, .mov (.t 11)⟩, ⟨some 6, none, .mov (.t 44)⟩, ⟨some 7, none, .mov (.c (.i .i64 (0)))⟩] [6, 7]) (.ret)) (.skip))))) (.reg [⟨some 37, none, .mov (.t 10)⟩, ⟨some 38, none, .bin .add (.t 37) (.c (.i .i64 (1)))⟩, ⟨some 10, none, .mov (.t 38)⟩] [1, 9, 10])))))) (.seq (.reg [⟨some 6, none, .mov (.c (.nsl))⟩, ⟨some 7, none, .mov (.c (.i .i64 (3)))⟩] [6, 7]) (.ret))))))
abbrev Low_bung_Fewest (P : Program) (f f0 f1 : Nat) : Prop := lowF P f = some (45, [.tmp 6, .tmp 7], (ic_bung_Fewest f0 f1).erase)
def ic_slices_Clone_SSint_Sint : IC := .seq (.reg [⟨some 2, none, .mov (.c (.nsl))⟩] [0]) (.seq (.seq (.reg [⟨some 3, none, .mov (.t 0)⟩, ⟨some 4, none, .eqb 1 false (.t 3) (.c (.nsl))⟩] [0, 4]) (.cond (.t 4) (.seq (.reg [⟨some 2, none, .mov (.c (.nsl))⟩] [2]) (.ret)) (.skip))) (.seq (.reg [⟨some 5, none, .bsl false 1 0 [.nsl] []⟩, ⟨some 6, none, .mov (.t 0)⟩, ⟨some 7, none, .app 1 24 (.t 5) (.t 6)⟩, ⟨some 2, none, .mov (.t 7)⟩] [2]) (.ret)))
abbrev Low_slices_Clone_SSint_Sint (P : Program) (f : Nat) : Prop := lowF P f = some (8, [.tmp 2], (ic_slices_Clone_SSint_Sint).erase)

abbrev rowC (l : List Int) : List V := [.fsl (l.map intC)]
def C_CloneR (P : Program) (f : Nat) : Prop := ∀ (H : List Blk) (l : List (List Int)), l.length ≤ 1000000 → SndX P (.fn (.func f) [] []) [.fsl (l.map rowC)] H fun r H' => New H H' 1 (l.map rowC) r
theorem ok_CloneR (hm : P.follows .mixedOrders = true) {f : Nat} (low : Low_slices_Clone_SSint_Sint P f) : C_CloneR P f := by
  intro H l hl
  have hrow : ∀ r ∈ l.map rowC, r.length = 1 ∧ r.all V.one = true := by intro r hr; obtain ⟨x, _, rfl⟩ := List.mem_map.1 hr; exact ⟨rfl, rfl⟩
  refine sndx_ic hm low (by simp) ?_
  unfold ic_slices_Clone_SSint_Sint
  cases l with
  | nil =>
    simp -dsimp -implicitDefEqProofs only [qq, Nat.reduceBEq, reduceIte, Nat.reduceAdd, Nat.reduceSub, Nat.reduceLeDiff, Nat.reduceLT, Nat.reduceMul, Nat.reduceEqDiff, Int.reduceEq, Int.reduceBEq, Int.reduceBNe, Int.reduceLT, Int.reduceLE, Int.reduceGT, Int.reduceGE, Int.reduceNeg, Int.reduceAdd, Int.reduceSub, reduceCtorEq, List.reduceReplicate, ← List.map_take, ← List.map_drop]
    intro t
    cases t <;> simp -dsimp -implicitDefEqProofs only [qq, Nat.reduceBEq, reduceIte, Nat.reduceAdd, Nat.reduceSub, Nat.reduceLeDiff, Nat.reduceLT, Nat.reduceMul, Nat.reduceEqDiff, Int.reduceEq, Int.reduceBEq, Int.reduceBNe, Int.reduceLT, Int.reduceLE, Int.reduceGT, Int.reduceGE, Int.reduceNeg, Int.reduceAdd, Int.reduceSub, reduceCtorEq, List.reduceReplicate, ← List.map_take, ← List.map_drop]
    · refine app_emp (ys := []) (by decide) (by decide) rfl (by simp) (by simp) fun v' H' hn => ?_
      simp -dsimp -implicitDefEqProofs only [qq, Nat.reduceBEq, reduceIte, Nat.reduceAdd, Nat.reduceSub, Nat.reduceLeDiff, Nat.reduceLT, Nat.reduceMul, Nat.reduceEqDiff, Int.reduceEq, Int.reduceBEq, Int.reduceBNe, Int.reduceLT, Int.reduceLE, Int.reduceGT, Int.reduceGE, Int.reduceNeg, Int.reduceAdd, Int.reduceSub, reduceCtorEq, List.reduceReplicate, ← List.map_take, ← List.map_drop]
      exact ends_own (.inr rfl) rfl hn
    · exact ends_own (.inr rfl) rfl ⟨.nil _ _, Nat.le_refl _, fun _ _ h => h, fun _ _ _ _ _ _ h => by cases h⟩
  | cons n l =>
    simp -dsimp -implicitDefEqProofs only [qq, Nat.reduceBEq, reduceIte, Nat.reduceAdd, Nat.reduceSub, Nat.reduceLeDiff, Nat.reduceLT, Nat.reduceMul, Nat.reduceEqDiff, Int.reduceEq, Int.reduceBEq, Int.reduceBNe, Int.reduceLT, Int.reduceLE, Int.reduceGT, Int.reduceGE, Int.reduceNeg, Int.reduceAdd, Int.reduceSub, reduceCtorEq, List.reduceReplicate, ← List.map_take, ← List.map_drop]
    refine app_emp (ys := (n :: l).map rowC) (by decide) (by decide) rfl hrow (by simpa using hl) fun v' H' hn => ?_
    simp -dsimp -implicitDefEqProofs only [qq, Nat.reduceBEq, reduceIte, Nat.reduceAdd, Nat.reduceSub, Nat.reduceLeDiff, Nat.reduceLT, Nat.reduceMul, Nat.reduceEqDiff, Int.reduceEq, Int.reduceBEq, Int.reduceBNe, Int.reduceLT, Int.reduceLE, Int.reduceGT, Int.reduceGE, Int.reduceNeg, Int.reduceAdd, Int.reduceSub, reduceCtorEq, List.reduceReplicate, ← List.map_take, ← List.map_drop]
    exact ends_own (.inr rfl) rfl hn

/-- Bungs with one more index in the k-th one. -/
def addS (bs : List (List Int)) (k : Nat) (i : Int) : List (List Int) := if k < bs.length then bs.set k ((bs[k]?).getD [] ++ [i]) else bs ++ [[i]]
def newB (bs : List (List Int)) (k : Nat) (i : Int) : List Int := (bs[k]?).getD [] ++ [i]
/-- The first bungs, just so many, that have the r last ones of n saggars besides. -/
def packS (d : List Int → Bool) (n many : Nat) : Nat → List (List Int) → Option (List (List Int))
  | 0, bs => if bs.length = many then some bs else none
  | r + 1, bs => (List.range (min (bs.length + 1) many)).findSome? fun k => if d (newB bs k ((n - (r + 1) : Nat) : Int)) then packS d n many r (addS bs k ((n - (r + 1) : Nat) : Int)) else none

theorem killB_no (H : List Blk) : killB (fun _ => false) H = H := List.ext_getElem? fun i => by rw [killB_keep rfl]
theorem callI_nil {d : Bool} {fv : V} {H : List Blk} {K : V → List Blk → Prop} (h : callI d P fv [.fsl []] H K) : callI d P fv [.nsl] H K :=
  callI_give (fun _ => false) (.cons .nil .nil) (by rw [killB_no]; exact h)

theorem findSome_range {α : Type} {f : Nat → Option α} {n k : Nat} {b : α} (hk : k < n) (h : ∀ j, j < k → f j = none) (hf : f k = some b) : (List.range n).findSome? f = some b := by
  have e : List.range n = List.range k ++ (k :: (List.range (n - k - 1)).map (k + 1 + ·)) := by
    have := List.range_add (n := k) (m := n - k)
    rw [show k + (n - k) = n by omega] at this
    rw [this]
    congr 1
    obtain ⟨q, hq⟩ : ∃ q, n - k = q + 1 := ⟨n - k - 1, by omega⟩
    rw [hq, show q + 1 - 1 = q by omega, List.range_succ_eq_map, List.map_cons, List.map_map]
    simp only [Nat.add_zero, List.cons.injEq, true_and]
    refine List.map_congr_left fun x _ => ?_
    simp only [Function.comp]; omega
  rw [e, List.findSome?_append, List.findSome?_eq_none_iff.2 (fun j hj => h j (by simpa using hj))]
  simp [hf]
theorem packS_none {d : List Int → Bool} {n many r : Nat} {bs : List (List Int)} (h : ∀ j, j < min (bs.length + 1) many → (if d (newB bs j (n - (r + 1) : Nat)) then packS d n many r (addS bs j (n - (r + 1) : Nat)) else none) = none) : packS d n many (r + 1) bs = none := by
  rw [packS, List.findSome?_eq_none_iff]
  exact fun j hj => h j (by simpa using hj)
theorem packS_some {d : List Int → Bool} {n many r : Nat} {bs : List (List Int)} {k : Nat} {b : List (List Int)} (hk : k < min (bs.length + 1) many) (h : ∀ j, j < k → (if d (newB bs j (n - (r + 1) : Nat)) then packS d n many r (addS bs j (n - (r + 1) : Nat)) else none) = none)
    (hf : (if d (newB bs k (n - (r + 1) : Nat)) then packS d n many r (addS bs k (n - (r + 1) : Nat)) else none) = some b) : packS d n many (r + 1) bs = some b := by
  rw [packS]
  exact findSome_range hk h hf
theorem own_pos {H : List Blk} {k : Nat} {rows : List (List V)} {v : V} (h : OwnS H k rows v) (hr : rows ≠ []) : ∃ p c e, v = .rsl p k 0 rows.length c e ∧ H[p]? = some (.row k rows) := by
  rcases h with ⟨h, _⟩ | h
  · exact absurd h hr
  · exact h
theorem callI_nil' {d : Bool} {fv : V} {H : List Blk} {K : V → List Blk → Prop} {b : List Int} (hb : b = []) (h : callI d P fv [.fsl (b.map intC)] H K) : callI d P fv [.nsl] H K := by
  subst hb; exact callI_nil h
theorem give_lit {k : Nat → Bool} {H : List Blk} {p kk n c : Nat} {e : Bool} {rows : List (List V)} (hk : k p = true) (h : H[p]? = some (.row kk rows)) (hn : rows.length = n) (hb : ∀ row ∈ rows, belL 0 row = true) : Give k H (.rsl p kk 0 n c e) (.fsl rows) := by
  subst hn
  refine .sl p kk 0 rows.length c e rows rows hk h (by simp) rfl hb ?_ ?_
  · intro i row row' h1 h3
    simp at h1
    rw [h1] at h3; cases h3; rfl
  · intro i row row' j x x' h1 h3 e1 e2
    simp at h1
    rw [h1] at h3; cases h3
    rw [e1] at e2; cases e2
    exact .keep _
theorem give_set {k : Nat → Bool} {H : List Blk} {p i n c : Nat} {e : Bool} {rows : List (List V)} {u u' : V} (hk : k p = true) (h : H[p]? = some (.row 1 (rows.set i [u]))) (hn : rows.length = n) (hb : ∀ row ∈ rows.set i [u'], belL 0 row = true) (hu : Give k H u u') : Give k H (.rsl p 1 0 n c e) (.fsl (rows.set i [u'])) := by
  subst hn
  refine .sl p 1 0 rows.length c e _ _ hk h (by simp) (by simp) hb ?_ ?_
  · intro j row row' h1 h3
    rw [List.drop_zero, List.take_of_length_le (by simp)] at h1
    rw [List.getElem?_set] at h1 h3
    split at h1
    · rename_i hij
      rw [if_pos hij] at h3
      split at h1
      · rename_i hl
        rw [if_pos hl] at h3
        cases h1; cases h3; rfl
      · cases h1
    · rename_i hij
      rw [if_neg hij] at h3
      rw [h1] at h3; cases h3; rfl
  · intro j row row' q x x' h1 h3 e1 e2
    rw [List.drop_zero, List.take_of_length_le (by simp)] at h1
    rw [List.getElem?_set] at h1 h3
    split at h1
    · rename_i hij
      rw [if_pos hij] at h3
      split at h1
      · rename_i hl
        rw [if_pos hl] at h3
        cases h1; cases h3
        cases q with
        | zero => simp at e1 e2; subst e1 e2; exact hu
        | succ q => simp at e1
      · cases h1
    · rename_i hij
      rw [if_neg hij] at h3
      rw [h1] at h3; cases h3
      rw [e1] at e2; cases e2; exact .keep _
theorem bel_ints (l : List Int) : ∀ row ∈ l.map intC, belL 0 row = true := by intro row hr; obtain ⟨n, _, rfl⟩ := List.mem_map.1 hr; rfl
theorem bel_rows (l : List (List Int)) : ∀ row ∈ l.map rowC, belL 0 row = true := by intro row hr; obtain ⟨n, _, rfl⟩ := List.mem_map.1 hr; rfl

theorem callI_known {f : Nat} (h2 : C_known P f) {H : List Blk} {w : Rg} {l : List Sag} {s : Spt} {m q n c : Nat} {e : Bool} {ts : List (List Bool × Bool)} {some : List Int} {K : V → List Blk → Prop} (hmap : H[m]? = Option.some (.mp (tmap ts))) (hF : Faith w l s ts) (hw : rgB w 0 200 = true) (hv : listB l = true) (h9 : l.length ≤ 9)
    (hs : okIx l.length some) (hn : some.Nodup) (hne : some ≠ []) (hq : H[q]? = Option.some (.row 1 (some.map intC))) (hl : some.length = n) (hK : ∀ ts2, Faith w l s ts2 → K (.b (doS w l s some)) (H.set m (.mp (tmap ts2)))) :
    callI false P (.fn (.func f) [] []) [.agg (packC w l s (.rmp m)), .rsl q 1 0 n c e] H K := by
  have hml := get_lt hmap
  have hqm : q ≠ m := fun h => by rw [h, hmap] at hq; cases hq
  refine sndx_lend (fun i => decide (i < H.length) && decide (i ≠ m)) (fun i hi => by simp at hi; exact hi.1) (.cons (.keep _) (.cons (give_lit (by simp [get_lt hq, hqm]) hq (by simpa using hl) (bel_ints _)) .nil)) (h2 _ w l s m ts some (by rw [killB_keep (by simp)]; exact hmap) hF hw hv h9 hs hn hne) ?_
  rintro r H' ⟨rfl, ts2, hF2, rfl⟩
  refine ⟨rfl, by simp [killB_length], fun id blk hk hb => ?_, ?_⟩
  · by_cases hid : m = id
    · subst hid
      rw [List.getElem?_set_self (by rw [killB_length]; exact hml)] at hb
      cases hb
      intro x hx
      obtain ⟨t, _, rfl⟩ := List.mem_map.1 hx
      refine ⟨?_, rfl⟩
      simp only [keyV, V.flat]
      generalize t.1 = kk
      induction kk with
      | nil => rfl
      | cons a kk ih => simp [flatL, V.flat, ih]
    · rw [List.getElem?_set_ne hid, killB_get] at hb
      have : ¬ id < H.length := fun h => by simp [h] at hk; exact hid hk.symm
      rw [List.getElem?_eq_none (by omega)] at hb
      cases hb
  · have : restB (fun i => decide (i < H.length) && decide (i ≠ m)) H ((killB (fun i => decide (i < H.length) && decide (i ≠ m)) H).set m (.mp (tmap ts2))) = H.set m (.mp (tmap ts2)) := by
      apply List.ext_getElem?
      intro i
      rw [restB_get]
      by_cases hi : i < H.length
      · by_cases him : m = i
        · subst him
          rw [List.getElem?_set_self (by rw [killB_length]; exact hi), List.getElem?_set_self hi]
          simp
        · rw [List.getElem?_set_ne him, List.getElem?_set_ne him, killB_get, List.getElem?_eq_getElem hi]
          have : ¬ i = m := fun h => him h.symm
          simp [hi, this]
      · rw [List.getElem?_eq_none (l := List.set _ _ _) (by rw [List.length_set, killB_length]; omega), List.getElem?_eq_none (l := List.set _ _ _) (by rw [List.length_set]; omega)]
        rfl
    rw [this]
    exact hK ts2 hF2
structure okBs (n : Nat) (bs : List (List Int)) : Prop where
  ix : ∀ b ∈ bs, ∀ i ∈ b, 0 ≤ i ∧ i < n
  nd : bs.flatten.Nodup
  ne : ∀ b ∈ bs, b ≠ []
  len : bs.length ≤ n
  pos : 0 < n → bs ≠ []

theorem okBs_add {n k : Nat} {bs : List (List Int)} (h : okBs n bs) (hk : k ≤ bs.length) : okBs (n + 1) (addS bs k n) := by
  have hn : ((n : Nat) : Int) ∉ bs.flatten := fun hm => by
    obtain ⟨b, hb, hi⟩ := List.mem_flatten.1 hm
    have := h.ix b hb _ hi; omega
  have hp : (addS bs k n).flatten.Perm (bs.flatten ++ [(n : Int)]) := by
    unfold addS
    split
    · rename_i hlt
      obtain ⟨b, hb, _, htk, hdr⟩ := next_of hlt
      rw [hb, List.set_eq_take_append_cons_drop, if_pos hlt]
      have e : bs.flatten = (bs.take k).flatten ++ (b ++ (bs.drop (k + 1)).flatten) := by
        conv => lhs; rw [← List.take_append_drop k bs, hdr]
        simp
      rw [e]
      simp only [Option.getD_some, List.flatten_append, List.flatten_cons, List.append_assoc]
      refine List.Perm.append_left _ (List.Perm.append_left _ ?_)
      exact List.perm_append_comm
    · simp
  refine ⟨fun b hb i hi => ?_, ?_, fun b hb => ?_, ?_, fun _ => ?_⟩
  · have : i ∈ (addS bs k n).flatten := List.mem_flatten.2 ⟨b, hb, hi⟩
    rcases List.mem_append.1 (hp.mem_iff.1 this) with g | g
    · obtain ⟨b', hb', hi'⟩ := List.mem_flatten.1 g
      have := h.ix b' hb' i hi'; omega
    · simp at g; omega
  · rw [hp.nodup_iff, List.nodup_append]
    exact ⟨h.nd, by simp, fun a ha c hc e => by simp at hc; subst hc; subst e; exact hn ha⟩
  · unfold addS at hb
    split at hb
    · rcases List.mem_or_eq_of_mem_set hb with g | g
      · exact h.ne b g
      · rw [g]; simp
    · rcases List.mem_append.1 hb with g | g
      · exact h.ne b g
      · simp at g; rw [g]; simp
  · have := h.len
    unfold addS
    split
    · simp; omega
    · simp; omega
  · unfold addS
    split
    · rename_i hlt
      intro e
      have := congrArg List.length e
      simp at this
      rw [this] at hlt; simp at hlt
    · simp
theorem okBs_new {n k : Nat} {bs : List (List Int)} (h : okBs n bs) : okIx (n + 1) (newB bs k n) ∧ (newB bs k n).Nodup ∧ newB bs k n ≠ [] := by
  unfold newB
  cases hb : bs[k]? with
  | none => refine ⟨fun i hi => by simp at hi; omega, by simp, by simp⟩
  | some b =>
    have hbm := List.mem_of_getElem? hb
    refine ⟨fun i hi => ?_, ?_, by simp⟩
    · simp at hi
      rcases hi with hi | rfl
      · have := h.ix b hbm i hi; omega
      · omega
    · simp only [Option.getD_some, List.nodup_append]
      exact ⟨(List.pairwise_flatten.1 h.nd).1 b hbm, by simp, fun a ha c hc e => by simp at hc; subst hc; subst e; have := h.ix b hbm _ ha; omega⟩

def PackR (w : Rg) (l : List Sag) (s : Spt) (m : Nat) (H : List Blk) (res : Option (List (List Int))) (v : V) (H' : List Blk) : Prop :=
  (∃ ts', Faith w l s ts' ∧ H' = H.set m (.mp (tmap ts'))) ∧ match res with | none => v = .nsl | some b => b ≠ [] ∧ v = .fsl (b.map rowC)
def C_pack (P : Program) (f : Nat) : Prop := ∀ (r : Nat) (H : List Blk) (w : Rg) (l : List Sag) (s : Spt) (m : Nat) (ts : List (List Bool × Bool)) (bs : List (List Int)) (many : Nat), H[m]? = some (.mp (tmap ts)) → Faith w l s ts → rgB w 0 200 = true → listB l = true →
  0 < l.length → l.length ≤ 9 → r ≤ l.length → okBs (l.length - r) bs → many ≤ 9 → SndX P (.fn (.func f) [] []) [.agg (packC w l s (.rmp m)), .fsl (bs.map rowC), .i .i64 (l.length - r : Nat), .i .i64 many] H (PackR w l s m H (packS (doS w l s) l.length many r bs))

/-- Left, where one map alone of the blocks that were there has been turned. -/
theorem endsx_at {H H2 : List Blk} {K : V → List Blk → Prop} {ress : List IRes} {E : Env} {vs : List V} {m : Nat} {ts ts' : List (List Bool × Bool)} (hmap : H[m]? = some (.mp (tmap ts))) (hm2 : H2[m]? = some (.mp (tmap ts'))) (hl : H.length ≤ H2.length) (hk : ∀ p, p < H.length → p ≠ m → H2[p]? = H[p]?) (h : resIs E H2 ress = some vs) (hb : (resV vs).bel 0 = true) (hK : K (resV vs) (H.set m (.mp (tmap ts')))) :
    EndsX ress H K .ret E H2 := by
  have hml := get_lt hmap
  have he : H2 = H.set m (.mp (tmap ts')) ++ H2.drop H.length := by
    apply List.ext_getElem?
    intro p
    by_cases hp : p < H.length
    · rw [List.getElem?_append_left (by simpa using hp)]
      by_cases hpm : p = m
      · subst hpm; rw [hm2, List.getElem?_set_self hml]
      · rw [List.getElem?_set_ne (fun e => hpm e.symm), hk p hp hpm]
    · rw [List.getElem?_append_right (by simp; omega), List.getElem?_drop]
      congr 1; simp; omega
  rw [he] at h ⊢
  exact endsx_map hmap h hb hK

set_option maxHeartbeats 4000000 in
theorem ok_pack (hm : P.follows .mixedOrders = true) {f f0 f1 f2 : Nat} (low : Low_bung_packer_pack P f f0 f1 f2 f) (h0 : C_CloneR P f0) (h1 : C_CloneI P f1) (h2 : C_known P f2) : C_pack P f := by
  intro r
  induction r with
  | zero =>
    intro H w l s m ts bs many hmap hF hw hv hpos h9 hr hok hmany
    have hlen := list_len hv
    unfold packC
    refine sndx_ic hm low (by simp) ?_
    unfold ic_bung_packer_pack
    simp -dsimp -implicitDefEqProofs only [Nat.sub_zero, qq, Nat.reduceBEq, reduceIte, Nat.reduceAdd, Nat.reduceSub, Nat.reduceLeDiff, Nat.reduceLT, Nat.reduceMul, Nat.reduceEqDiff, Int.reduceEq, Int.reduceBEq, Int.reduceBNe, Int.reduceLT, Int.reduceLE, Int.reduceGT, Int.reduceGE, Int.reduceNeg, Int.reduceAdd, Int.reduceSub, reduceCtorEq, List.reduceReplicate, ← List.map_take, ← List.map_drop]
    refine brG_of (fun h => ?_) (fun h => ?_) <;> simp -dsimp -implicitDefEqProofs only [qq, Nat.reduceBEq, reduceIte, Nat.reduceAdd, Nat.reduceSub, Nat.reduceLeDiff, Nat.reduceLT, Nat.reduceMul, Nat.reduceEqDiff, Int.reduceEq, Int.reduceBEq, Int.reduceBNe, Int.reduceLT, Int.reduceLE, Int.reduceGT, Int.reduceGE, Int.reduceNeg, Int.reduceAdd, Int.reduceSub, reduceCtorEq, List.reduceReplicate, ← List.map_take, ← List.map_drop]
    · have e : bs.length = many := by simp at h; omega
      refine endsx_at (ts' := ts) hmap (get_app hmap _) (by simp) (fun p hp _ => List.getElem?_append_left hp) rfl rfl ⟨⟨ts, hF, rfl⟩, ?_⟩
      simp only [packS, if_pos e]
      exact ⟨hok.pos (by omega), rfl⟩
    · have e : ¬ bs.length = many := by simp at h; omega
      refine endsx_at (ts' := ts) hmap (get_app hmap _) (by simp) (fun p hp _ => List.getElem?_append_left hp) rfl rfl ⟨⟨ts, hF, rfl⟩, ?_⟩
      simp only [packS, if_neg e]
      rfl
  | succ r ih =>
    intro H w l s m ts bs many hmap hF hw hv hpos h9 hr hok hmany
    have hlen := list_len hv
    have hat : (((l.length - (r + 1) : Nat) : Int) == (l.length : Int)) = false := by simp; omega
    have hml := get_lt hmap
    refine sndx_ic hm low (by simp) ?_
    unfold ic_bung_packer_pack packC
    simp -dsimp -implicitDefEqProofs only [hat, qq, Nat.reduceBEq, reduceIte, Nat.reduceAdd, Nat.reduceSub, Nat.reduceLeDiff, Nat.reduceLT, Nat.reduceMul, Nat.reduceEqDiff, Int.reduceEq, Int.reduceBEq, Int.reduceBNe, Int.reduceLT, Int.reduceLE, Int.reduceGT, Int.reduceGE, Int.reduceNeg, Int.reduceAdd, Int.reduceSub, reduceCtorEq, List.reduceReplicate, ← List.map_take, ← List.map_drop]
    refine loopI_st (fun k : Nat => bs.length + 1 - k) (fun k E H' => k ≤ min (bs.length + 1) many ∧ E = [(1, .fsl (bs.map rowC)), (2, .i .i64 (l.length - (r + 1) : Nat)), (3, .i .i64 many), (4, .rpt H.length 6 0 0), (9, .i .i64 k)] ∧ ∃ ts', Faith w l s ts' ∧ H'[m]? = some (.mp (tmap ts')) ∧ H'[H.length]? = some (.row 6 [packC w l s (.rmp m)]) ∧ H.length + 1 ≤ H'.length ∧ (∀ p, p < H.length → p ≠ m → H'[p]? = H[p]?) ∧
      (∀ j, j < k → (if doS w l s (newB bs j (l.length - (r + 1) : Nat)) then packS (doS w l s) l.length many r (addS bs j (l.length - (r + 1) : Nat)) else none) = none)) 0 ⟨by omega, rfl, ts, hF, get_app hmap _, by simp [packC], by simp, fun p hp _ => List.getElem?_append_left hp, fun j hj => by omega⟩ ?_
    rintro k _ H' ⟨hk, rfl, ts', hF', hm', hp', hl', hk', hno⟩
    simp -dsimp -implicitDefEqProofs only [qq, Nat.reduceBEq, reduceIte, Nat.reduceAdd, Nat.reduceSub, Nat.reduceLeDiff, Nat.reduceLT, Nat.reduceMul, Nat.reduceEqDiff, Int.reduceEq, Int.reduceBEq, Int.reduceBNe, Int.reduceLT, Int.reduceLE, Int.reduceGT, Int.reduceGE, Int.reduceNeg, Int.reduceAdd, Int.reduceSub, reduceCtorEq, List.reduceReplicate, ← List.map_take, ← List.map_drop]
    have hat2 : l.length - (r + 1) < l.length := by omega
    have hbl := hok.len
    have gone : ¬ k < min (bs.length + 1) many → EndsX [IRes.tmp 8] H (PackR w l s m H (packS (doS w l s) l.length many (r + 1) bs)) Exit.ret [(8, V.nsl)] H' := fun hge => by
      refine endsx_at hmap hm' (by omega) hk' rfl rfl ⟨⟨ts', hF', rfl⟩, ?_⟩
      rw [packS_none fun j hj => hno j (by omega)]
      rfl
    cases hc : decide ((k : Int) ≤ (bs.length : Int)) <;> simp -dsimp -implicitDefEqProofs only [hc, qq, Nat.reduceBEq, reduceIte, Nat.reduceAdd, Nat.reduceSub, Nat.reduceLeDiff, Nat.reduceLT, Nat.reduceMul, Nat.reduceEqDiff, Int.reduceEq, Int.reduceBEq, Int.reduceBNe, Int.reduceLT, Int.reduceLE, Int.reduceGT, Int.reduceGE, Int.reduceNeg, Int.reduceAdd, Int.reduceSub, reduceCtorEq, List.reduceReplicate, ← List.map_take, ← List.map_drop]
    · exact gone (by simp at hc; omega)
    cases hc2 : decide ((k : Int) < (many : Int)) <;> simp -dsimp -implicitDefEqProofs only [hc2, qq, Nat.reduceBEq, reduceIte, Nat.reduceAdd, Nat.reduceSub, Nat.reduceLeDiff, Nat.reduceLT, Nat.reduceMul, Nat.reduceEqDiff, Int.reduceEq, Int.reduceBEq, Int.reduceBNe, Int.reduceLT, Int.reduceLE, Int.reduceGT, Int.reduceGE, Int.reduceNeg, Int.reduceAdd, Int.reduceSub, reduceCtorEq, List.reduceReplicate, ← List.map_take, ← List.map_drop]
    · exact gone (by simp at hc2; omega)
    have hkb : k ≤ bs.length := by simp at hc; omega
    have hkm : k < many := by simp at hc2; omega
    have hwk : IntKind.i64.wrap ((k : Int) + 1) = ((k + 1 : Nat) : Int) := wrap_succ (by omega)
    have hwa : IntKind.i64.wrap (((l.length - (r + 1) : Nat) : Int) + 1) = ((l.length - r : Nat) : Int) := by rw [wrap_succ (by omega)]; omega
    refine callI_x (h0 H' bs (by omega)) fun v Hn hn => ?_
    simp -dsimp -implicitDefEqProofs only [qq, Nat.reduceBEq, reduceIte, Nat.reduceAdd, Nat.reduceSub, Nat.reduceLeDiff, Nat.reduceLT, Nat.reduceMul, Nat.reduceEqDiff, Int.reduceEq, Int.reduceBEq, Int.reduceBNe, Int.reduceLT, Int.reduceLE, Int.reduceGT, Int.reduceGE, Int.reduceNeg, Int.reduceAdd, Int.reduceSub, reduceCtorEq, List.reduceReplicate, ← List.map_take, ← List.map_drop]
    refine brG_of (fun hx => ?_) (fun hx => ?_) <;> simp -dsimp -implicitDefEqProofs only [qq, Nat.reduceBEq, reduceIte, Nat.reduceAdd, Nat.reduceSub, Nat.reduceLeDiff, Nat.reduceLT, Nat.reduceMul, Nat.reduceEqDiff, Int.reduceEq, Int.reduceBEq, Int.reduceBNe, Int.reduceLT, Int.reduceLE, Int.reduceGT, Int.reduceGE, Int.reduceNeg, Int.reduceAdd, Int.reduceSub, reduceCtorEq, List.reduceReplicate, ← List.map_take, ← List.map_drop]
    case' refine_1 =>
      have hkk : k = bs.length := by simp at hx; omega
      refine app_own (ys := [[.nsl]]) (hn.own.app _) (by decide) (by decide) (by simp [Sh.shown, gapp]) (by simp [V.one]) (by simp; omega) fun v2 H2 ho2 ha2 hf2 => ?_
      obtain ⟨p2, c2, e2, rfl, hp2⟩ := own_pos ho2 (by simp)
      have hrow : (bs.map rowC ++ [[.nsl]])[k]? = some [V.nsl] := by rw [hkk, List.getElem?_append_right (by simp)]; simp
      have keep2 : ∀ p b, H'[p]? = some b → H2[p]? = some b := fun p b hb => ha2.keep p b (get_app (hn.keep p b hb) _) fun k' o l' c' e' hv' => by have := hn.fresh _ _ _ _ _ _ hv'; have := get_lt hb; omega
      have hfr : H'.length ≤ p2 := by
        rcases hf2 _ _ _ _ _ _ rfl with h | h
        · exact hn.fresh _ _ _ _ _ _ h
        · have := hn.len; simp at h; omega
      have hl2 : H'.length ≤ H2.length := by have := ha2.len; have := hn.len; simp at *; omega
      obtain ⟨b, hbe⟩ : ∃ b : List Int, b = [] := ⟨_, rfl⟩
      have hbl9 : b.length ≤ 9 := by simp [hbe]
      have hnew : newB bs k (l.length - (r + 1) : Nat) = b ++ [((l.length - (r + 1) : Nat) : Int)] := by simp [newB, hkk, hbe]
      have hset : (bs.map rowC ++ [[V.nsl]]).set k [V.fsl ((b ++ [((l.length - (r + 1) : Nat) : Int)]).map intC)] = (addS bs k (l.length - (r + 1) : Nat)).map rowC := by
        simp [addS, hkk, hbe, List.set_append_right]
      generalize hrows2 : bs.map rowC ++ [[V.nsl]] = rows2 at *
      have hlr : k < rows2.length := (List.getElem?_eq_some_iff.1 hrow).1
      simp -dsimp -implicitDefEqProofs only [hp2, hrow, qq, Nat.reduceBEq, reduceIte, Nat.reduceAdd, Nat.reduceSub, Nat.reduceLeDiff, Nat.reduceLT, Nat.reduceMul, Nat.reduceEqDiff, Int.reduceEq, Int.reduceBEq, Int.reduceBNe, Int.reduceLT, Int.reduceLE, Int.reduceGT, Int.reduceGE, Int.reduceNeg, Int.reduceAdd, Int.reduceSub, reduceCtorEq, List.reduceReplicate, ← List.map_take, ← List.map_drop]
      refine ⟨by omega, by omega, callI_nil' hbe ?_⟩
    case' refine_2 =>
      have hkl : k < bs.length := by simp at hx; omega
      obtain ⟨b, hb, hbm, _, _⟩ := next_of hkl
      obtain ⟨p2, c2, e2, rfl, hp2⟩ := own_pos hn.own (by simp; intro e; rw [e] at hkl; simp at hkl)
      have hrow : (bs.map rowC)[k]? = some [V.fsl (b.map intC)] := by rw [List.getElem?_map, hb]; rfl
      have keep2 := hn.keep
      have hfr : H'.length ≤ p2 := hn.fresh _ _ _ _ _ _ rfl
      have hl2 : H'.length ≤ Hn.length := hn.len
      have hbl9 : b.length ≤ 9 := by
        have h1 : b.Nodup := (List.pairwise_flatten.1 hok.nd).1 b hbm
        have := nodup_bound _ b h1 (hok.ix b hbm)
        omega
      have hnew : newB bs k (l.length - (r + 1) : Nat) = b ++ [((l.length - (r + 1) : Nat) : Int)] := by simp [newB, hb]
      have hset : (bs.map rowC).set k [V.fsl ((b ++ [((l.length - (r + 1) : Nat) : Int)]).map intC)] = (addS bs k (l.length - (r + 1) : Nat)).map rowC := by
        rw [addS, if_pos hkl, List.map_set, hb]; rfl
      have hlr2 : (bs.map rowC).length = bs.length := List.length_map _
      obtain ⟨rows2, hrows2⟩ : ∃ rows2, rows2 = bs.map rowC := ⟨_, rfl⟩
      obtain ⟨H2, rfl⟩ : ∃ H2, H2 = Hn := ⟨_, rfl⟩
      rw [← hrows2] at hp2 hrow hset hlr2
      have hlr : k < rows2.length := (List.getElem?_eq_some_iff.1 hrow).1
      simp -dsimp -implicitDefEqProofs only [hp2, hrow, qq, Nat.reduceBEq, reduceIte, Nat.reduceAdd, Nat.reduceSub, Nat.reduceLeDiff, Nat.reduceLT, Nat.reduceMul, Nat.reduceEqDiff, Int.reduceEq, Int.reduceBEq, Int.reduceBNe, Int.reduceLT, Int.reduceLE, Int.reduceGT, Int.reduceGE, Int.reduceNeg, Int.reduceAdd, Int.reduceSub, reduceCtorEq, List.reduceReplicate, ← List.map_take, ← List.map_drop]
      refine ⟨by omega, by omega, ?_⟩
    all_goals
      refine callI_x (h1 H2 b (by omega)) fun u Hu hu => ?_
      simp -dsimp -implicitDefEqProofs only [qq, Nat.reduceBEq, reduceIte, Nat.reduceAdd, Nat.reduceSub, Nat.reduceLeDiff, Nat.reduceLT, Nat.reduceMul, Nat.reduceEqDiff, Int.reduceEq, Int.reduceBEq, Int.reduceBNe, Int.reduceLT, Int.reduceLE, Int.reduceGT, Int.reduceGE, Int.reduceNeg, Int.reduceAdd, Int.reduceSub, reduceCtorEq, List.reduceReplicate, ← List.map_take, ← List.map_drop]
      refine app_own (ys := [[.i .i64 (l.length - (r + 1) : Nat)]]) (hu.own.app _) (by decide) (by decide) (by simp [Sh.shown, gapp]) (by simp [V.one]) (by simp; omega) fun u3 H3 hu3 ha3 hf3 => ?_
      obtain ⟨q3, c3, e3, rfl, hq3⟩ := own_pos hu3 (by simp)
      have keep3 : ∀ p b, H2[p]? = some b → H3[p]? = some b := fun p b hb => ha3.keep p b (get_app (hu.keep p b hb) _) fun k' o l' c' e' hv' => by have := hu.fresh _ _ _ _ _ _ hv'; have := get_lt hb; omega
      have hfr3 : H2.length ≤ q3 := by
        rcases hf3 _ _ _ _ _ _ rfl with h | h
        · exact hu.fresh _ _ _ _ _ _ h
        · have := hu.len; simp at h; omega
      have hp3 := keep3 _ _ hp2
      have hpl2 := get_lt hp2
      have eP : ∀ B, (H3.set p2 B)[H.length]? = some (.row 6 [packC w l s (.rmp m)]) := fun B => get_setne (keep3 _ _ (keep2 _ _ hp')) (by omega)
      have eM : ∀ B, (H3.set p2 B)[m]? = some (.mp (tmap ts')) := fun B => get_setne (keep3 _ _ (keep2 _ _ hm')) (by omega)
      have eQ : ∀ B, (H3.set p2 B)[p2]? = some B := fun B => get_setsame hp3
      have eR : ∀ B, (H3.set p2 B)[q3]? = some (.row 1 ((b ++ [((l.length - (r + 1) : Nat) : Int)]).map intC)) := fun B => by rw [get_setne hq3 (by omega)]; simp
      have hsr : ∀ y, (rows2.set k y)[k]? = some y := fun y => List.getElem?_set_self hlr
      simp -dsimp -implicitDefEqProofs only [hp3, hrow, eP, eQ, packC, hsr, qq, Nat.reduceBEq, reduceIte, Nat.reduceAdd, Nat.reduceSub, Nat.reduceLeDiff, Nat.reduceLT, Nat.reduceMul, Nat.reduceEqDiff, Int.reduceEq, Int.reduceBEq, Int.reduceBNe, Int.reduceLT, Int.reduceLE, Int.reduceGT, Int.reduceGE, Int.reduceNeg, Int.reduceAdd, Int.reduceSub, reduceCtorEq, List.reduceReplicate, ← List.map_take, ← List.map_drop]
      refine ⟨by omega, by omega, by omega, by omega, ?_⟩
      obtain ⟨o1, o2, o3⟩ := okBs_new (k := k) hok
      rw [show l.length - (r + 1) + 1 = l.length - r by omega] at o1
      refine callI_known h2 (some := newB bs k (l.length - (r + 1) : Nat)) (eM _) hF' hw hv h9 (fun i hi => by have := o1 i hi; omega) o2 o3 (by rw [hnew]; exact eR _) (by rw [hnew]; simp) fun ts2 hF2 => ?_
      have eP2 : ∀ B C, ((H3.set p2 B).set m C)[H.length]? = some (.row 6 [packC w l s (.rmp m)]) := fun B C => get_setne (eP B) (by omega)
      have eM2 : ∀ B C, ((H3.set p2 B).set m C)[m]? = some C := fun B C => get_setsame (eM B)
      have eQ2 : ∀ B C, ((H3.set p2 B).set m C)[p2]? = some B := fun B C => get_setne (eQ B) (by omega)
      have eR2 : ∀ B C, ((H3.set p2 B).set m C)[q3]? = some (.row 1 ((b ++ [((l.length - (r + 1) : Nat) : Int)]).map intC)) := fun B C => get_setne (eR B) (by omega)
      have step : ∀ (H6 : List Blk) (ts3 : List (List Bool × Bool)), Faith w l s ts3 → H6[m]? = some (.mp (tmap ts3)) → H6[H.length]? = some (.row 6 [packC w l s (.rmp m)]) → H3.length ≤ H6.length → (∀ p, p < H.length → p ≠ m → H6[p]? = H3[p]?) → (if doS w l s (newB bs k (l.length - (r + 1) : Nat)) then packS (doS w l s) l.length many r (addS bs k (l.length - (r + 1) : Nat)) else none) = none →
          ∃ s', bs.length + 1 - s' < bs.length + 1 - k ∧ s' ≤ min (bs.length + 1) many ∧ [(1, V.fsl (List.map rowC bs)), (2, V.i IntKind.i64 (l.length - (r + 1) : Nat)), (3, V.i IntKind.i64 many), (4, V.rpt H.length 6 0 0), (9, V.i IntKind.i64 (k + 1 : Nat))] = [(1, V.fsl (List.map rowC bs)), (2, V.i IntKind.i64 (l.length - (r + 1) : Nat)), (3, V.i IntKind.i64 many), (4, V.rpt H.length 6 0 0), (9, V.i IntKind.i64 s')] ∧
            ∃ ts', Faith w l s ts' ∧ H6[m]? = some (Blk.mp (tmap ts')) ∧ H6[H.length]? = some (Blk.row 6 [packC w l s (V.rmp m)]) ∧ H.length + 1 ≤ H6.length ∧ (∀ p, p < H.length → p ≠ m → H6[p]? = H[p]?) ∧ ∀ j, j < s' → (if doS w l s (newB bs j (l.length - (r + 1) : Nat)) then packS (doS w l s) l.length many r (addS bs j (l.length - (r + 1) : Nat)) else none) = none := fun H6 ts3 g1 g2 g3 g4 g5 g6 =>
        ⟨k + 1, by omega, by omega, rfl, ts3, g1, g2, g3, by have := get_lt hp3; omega, fun p hp hpm => by
          obtain ⟨y, hy⟩ : ∃ y, H'[p]? = some y := ⟨H'[p], by simp⟩
          rw [g5 p hp hpm, keep3 p y (keep2 p y hy), ← hy, hk' p hp hpm], fun j hj => by
          rcases Nat.lt_succ_iff_lt_or_eq.1 hj with h | rfl
          · exact hno j h
          · exact g6⟩
      cases hd : doS w l s (newB bs k (l.length - (r + 1) : Nat)) <;> simp -dsimp -implicitDefEqProofs only [hwk, qq, Nat.reduceBEq, reduceIte, Nat.reduceAdd, Nat.reduceSub, Nat.reduceLeDiff, Nat.reduceLT, Nat.reduceMul, Nat.reduceEqDiff, Int.reduceEq, Int.reduceBEq, Int.reduceBNe, Int.reduceLT, Int.reduceLE, Int.reduceGT, Int.reduceGE, Int.reduceNeg, Int.reduceAdd, Int.reduceSub, reduceCtorEq, List.reduceReplicate, ← List.map_take, ← List.map_drop]
      · refine step _ ts2 hF2 (eM2 _ _) (eP2 _ _) (by simp) (fun p hp hpm => ?_) (by simp [hd])
        rw [List.getElem?_set_ne (by omega), List.getElem?_set_ne (by omega)]
      · simp -dsimp -implicitDefEqProofs only [eP2, packC, hwa, qq, Nat.reduceBEq, reduceIte, Nat.reduceAdd, Nat.reduceSub, Nat.reduceLeDiff, Nat.reduceLT, Nat.reduceMul, Nat.reduceEqDiff, Int.reduceEq, Int.reduceBEq, Int.reduceBNe, Int.reduceLT, Int.reduceLE, Int.reduceGT, Int.reduceGE, Int.reduceNeg, Int.reduceAdd, Int.reduceSub, reduceCtorEq, List.reduceReplicate, ← List.map_take, ← List.map_drop]
        refine callI_give (fun i => i == p2 || i == q3) (.cons (.keep _) (.cons (give_set (by simp) (eQ2 _ _) (by omega) ?_ (give_lit (rows := (b ++ [((l.length - (r + 1) : Nat) : Int)]).map intC) (by simp) (eR2 _ _) (by simp) (bel_ints _))) (.same _))) ?_
        · rw [hset]; exact bel_rows _
        rw [hset]
        have hkm' : (fun i => i == p2 || i == q3) m = false := by simp; omega
        have hkH : (fun i => i == p2 || i == q3) H.length = false := by simp; omega
        have hok2 := okBs_add hok hkb
        rw [show l.length - (r + 1) + 1 = l.length - r by omega] at hok2
        refine callI_x (ih (killB (fun i => i == p2 || i == q3) _) w l s m ts2 (addS bs k (l.length - (r + 1) : Nat)) many (by rw [killB_keep hkm']; exact eM2 _ _) hF2 hw hv hpos h9 (by omega) hok2 hmany) ?_
        rintro v' H6 ⟨⟨ts3, hF3, rfl⟩, hres⟩
        have e1 : ∀ B C D, ((killB (fun i => i == p2 || i == q3) ((H3.set p2 B).set m C)).set m D)[m]? = some D := fun B C D => by rw [List.getElem?_set_self (by rw [killB_length]; exact get_lt (eM2 B C))]
        have e2 : ∀ B C D, ((killB (fun i => i == p2 || i == q3) ((H3.set p2 B).set m C)).set m D)[H.length]? = some (.row 6 [packC w l s (.rmp m)]) := fun B C D => by rw [List.getElem?_set_ne (by omega), killB_keep hkH]; exact eP2 B C
        have e4 : ∀ B C D, H3.length ≤ ((killB (fun i => i == p2 || i == q3) ((H3.set p2 B).set m C)).set m D).length := fun B C D => by rw [List.length_set, killB_length]; simp
        have e5 : ∀ B C D p, p < H.length → p ≠ m → ((killB (fun i => i == p2 || i == q3) ((H3.set p2 B).set m C)).set m D)[p]? = H3[p]? := fun B C D p hp hpm => by
          rw [List.getElem?_set_ne (by omega), killB_keep (by simp; omega), List.getElem?_set_ne (by omega), List.getElem?_set_ne (by omega)]
        cases hr2 : packS (doS w l s) l.length many r (addS bs k (l.length - (r + 1) : Nat)) with
        | none =>
          rw [hr2] at hres
          subst hres
          simp -dsimp -implicitDefEqProofs only [hwk, qq, Nat.reduceBEq, reduceIte, Nat.reduceAdd, Nat.reduceSub, Nat.reduceLeDiff, Nat.reduceLT, Nat.reduceMul, Nat.reduceEqDiff, Int.reduceEq, Int.reduceBEq, Int.reduceBNe, Int.reduceLT, Int.reduceLE, Int.reduceGT, Int.reduceGE, Int.reduceNeg, Int.reduceAdd, Int.reduceSub, reduceCtorEq, List.reduceReplicate, ← List.map_take, ← List.map_drop]
          exact step _ ts3 hF3 (e1 _ _ _) (e2 _ _ _) (e4 _ _ _) (e5 _ _ _) (by simp [hd, hr2])
        | some out =>
          rw [hr2] at hres
          obtain ⟨hne, rfl⟩ := hres
          obtain ⟨x, out', rfl⟩ : ∃ x out', out = x :: out' := by cases out with | nil => exact absurd rfl hne | cons x o => exact ⟨x, o, rfl⟩
          simp -dsimp -implicitDefEqProofs only [qq, Nat.reduceBEq, reduceIte, Nat.reduceAdd, Nat.reduceSub, Nat.reduceLeDiff, Nat.reduceLT, Nat.reduceMul, Nat.reduceEqDiff, Int.reduceEq, Int.reduceBEq, Int.reduceBNe, Int.reduceLT, Int.reduceLE, Int.reduceGT, Int.reduceGE, Int.reduceNeg, Int.reduceAdd, Int.reduceSub, reduceCtorEq, List.reduceReplicate, ← List.map_take, ← List.map_drop]
          refine endsx_at hmap (e1 _ _ _) (by have := e4 (.row 1 (rows2.set k [V.rsl q3 1 0 (b.length + 1) c3 e3])) (.mp (tmap ts2)) (.mp (tmap ts3)); have := get_lt hp3; omega) (fun p hp hpm => ?_) rfl rfl ⟨⟨ts3, hF3, rfl⟩, ?_⟩
          · obtain ⟨y, hy⟩ : ∃ y, H'[p]? = some y := ⟨H'[p], by simp⟩
            rw [e5 _ _ _ p hp hpm, keep3 p y (keep2 p y hy), ← hy, hk' p hp hpm]
          · rw [packS_some (k := k) (by omega) hno (by rw [if_pos hd, hr2])]
            exact ⟨by simp, rfl⟩
end Go.Sh.C3
end
section
namespace Go.Sh.C3
open Go.Sh
set_option maxRecDepth 10000
set_option linter.unusedVariables false
set_option linter.unusedSimpArgs false
variable {P : Program}
def ic_potbankref03_SameParts (f0 : Nat) : IC := .seq (.reg [⟨some 4, none, .mov (.c (.b false))⟩] [0, 1]) (.seq (.reg [⟨some 7, none, .mov (.t 0)⟩, ⟨some 8, none, .len false (.t 7)⟩, ⟨some 9, none, .mov (.t 1)⟩, ⟨some 10, none, .len false (.t 9)⟩, ⟨some 11, none, .bin .eql (.t 8) (.t 10)⟩, ⟨some 5, none, .mov (.t 11)⟩] [0, 1, 5]) (.seq (.seq (.reg [⟨some 6, none, .mov (.c (.i .i64 (0)))⟩] [0, 1, 5, 6]) (.block 0 (.loop (.seq (.seq (.reg [⟨some 12, none, .mov (.t 6)⟩, ⟨some 13, none, .mov (.t 0)⟩, ⟨some 14, none, .len false (.t 13)⟩, ⟨some 15, none, .bin .lss (.t 12) (.t 14)⟩, ⟨some 16, none, .mov (.t 15)⟩, ⟨some 17, some (16, true), .mov (.t 5)⟩, ⟨some 18, none, .pick (.t 16) (.t 17) (.c (.b false))⟩] [0, 1, 5, 6, 18]) (.cond (.t 18) (.skip) (.exit 0))) (.seq (.block 1 (.drg [(0, ⟨some 21, none, .mov (.t 0)⟩), (0, ⟨some 22, none, .mov (.t 6)⟩), (0, ⟨some 23, none, .ixs 1 (.t 21) (.t 22)⟩), (0, ⟨some 24, none, .ld none (.t 23)⟩), (0, ⟨some 25, none, .mov (.t 1)⟩), (0, ⟨some 26, none, .mov (.t 6)⟩), (0, ⟨some 27, none, .ixs 1 (.t 25) (.t 26)⟩), (0, ⟨some 28, none, .ld none (.t 27)⟩), (0, ⟨some 29, none, .calv (.c (.fn (.func f0) [] [])) [.t 24, .t 28]⟩), (0, ⟨some 5, none, .mov (.t 29)⟩)] 8 [0, 1, 5, 6])) (.reg [⟨some 19, none, .mov (.t 6)⟩, ⟨some 20, none, .bin .add (.t 19) (.c (.i .i64 (1)))⟩, ⟨some 6, none, .mov (.t 20)⟩] [0, 1, 5, 6])))))) (.seq (.reg [⟨some 30, none, .mov (.t 5)⟩, ⟨some 4, none, .mov (.t 30)⟩] [4]) (.ret))))
abbrev Low_potbankref03_SameParts (P : Program) (f f0 : Nat) : Prop := lowF P f = some (31, [.tmp 4], (ic_potbankref03_SameParts f0).erase)

def C_SameParts (P : Program) (f : Nat) : Prop := ∀ (a b : List (List Int)), a.length ≤ 1000000 → (∀ x ∈ a, x.length ≤ 1000000) → Snd P f [.fsl (a.map rowC), .fsl (b.map rowC)] [] (.b (decide (a = b))) []
theorem ok_SameParts (hm : P.follows .mixedOrders = true) {f f0 : Nat} (low : Low_potbankref03_SameParts P f f0) (h0 : C_Same P f0) : C_SameParts P f := by
  intro a b hl hal
  refine snd_ic hm low (by simp) ?_
  unfold ic_potbankref03_SameParts
  simp -dsimp -implicitDefEqProofs only [qq, Nat.reduceBEq, reduceIte, Nat.reduceAdd, Nat.reduceSub, Nat.reduceLeDiff, Nat.reduceLT, Nat.reduceMul, Nat.reduceEqDiff, Int.reduceEq, Int.reduceBEq, Int.reduceBNe, Int.reduceLT, Int.reduceLE, Int.reduceGT, Int.reduceGE, Int.reduceNeg, Int.reduceAdd, Int.reduceSub, reduceCtorEq, List.reduceReplicate, ← List.map_take, ← List.map_drop]
  refine loopI_st (fun k : Nat => a.length - k) (fun k E H => k ≤ a.length ∧ E = [(0, .fsl (a.map rowC)), (1, .fsl (b.map rowC)), (5, .b (decide (a.length = b.length ∧ a.take k = b.take k))), (6, .i .i64 k)]) 0 ⟨by omega, by simp; rw [Bool.eq_iff_iff]; simp; omega⟩ ?_
  rintro k _ H ⟨hk, rfl⟩
  simp -dsimp -implicitDefEqProofs only [qq, Nat.reduceBEq, reduceIte, Nat.reduceAdd, Nat.reduceSub, Nat.reduceLeDiff, Nat.reduceLT, Nat.reduceMul, Nat.reduceEqDiff, Int.reduceEq, Int.reduceBEq, Int.reduceBNe, Int.reduceLT, Int.reduceLE, Int.reduceGT, Int.reduceGE, Int.reduceNeg, Int.reduceAdd, Int.reduceSub, reduceCtorEq, List.reduceReplicate, ← List.map_take, ← List.map_drop]
  refine brG_of (fun hlt => ?_) (fun hlt => ?_) <;> simp -dsimp -implicitDefEqProofs only [hlt, qq, Nat.reduceBEq, reduceIte, Nat.reduceAdd, Nat.reduceSub, Nat.reduceLeDiff, Nat.reduceLT, Nat.reduceMul, Nat.reduceEqDiff, Int.reduceEq, Int.reduceBEq, Int.reduceBNe, Int.reduceLT, Int.reduceLE, Int.reduceGT, Int.reduceGE, Int.reduceNeg, Int.reduceAdd, Int.reduceSub, reduceCtorEq, List.reduceReplicate, ← List.map_take, ← List.map_drop]
  · have hkl : k < a.length := by simpa using hlt
    by_cases hs : a.length = b.length ∧ a.take k = b.take k
    · simp -dsimp -implicitDefEqProofs only [decide_eq_true hs, qq, Nat.reduceBEq, reduceIte, Nat.reduceAdd, Nat.reduceSub, Nat.reduceLeDiff, Nat.reduceLT, Nat.reduceMul, Nat.reduceEqDiff, Int.reduceEq, Int.reduceBEq, Int.reduceBNe, Int.reduceLT, Int.reduceLE, Int.reduceGT, Int.reduceGE, Int.reduceNeg, Int.reduceAdd, Int.reduceSub, reduceCtorEq, List.reduceReplicate, ← List.map_take, ← List.map_drop]
      obtain ⟨x, hx, hxm, htk, hdk⟩ := next_of hkl
      obtain ⟨y, hy, _, _, _⟩ := next_of (show k < b.length by omega)
      have hwk : IntKind.i64.wrap ((k : Int) + 1) = ((k + 1 : Nat) : Int) := wrap_succ (by omega)
      simp -dsimp -implicitDefEqProofs only [hx, hy, rowC, hwk, qq, Nat.reduceBEq, reduceIte, Nat.reduceAdd, Nat.reduceSub, Nat.reduceLeDiff, Nat.reduceLT, Nat.reduceMul, Nat.reduceEqDiff, Int.reduceEq, Int.reduceBEq, Int.reduceBNe, Int.reduceLT, Int.reduceLE, Int.reduceGT, Int.reduceGE, Int.reduceNeg, Int.reduceAdd, Int.reduceSub, reduceCtorEq, List.reduceReplicate, ← List.map_take, ← List.map_drop]
      refine callI_pure (h0 x y (hal x hxm)) rfl rfl ?_
      simp -dsimp -implicitDefEqProofs only [hwk, qq, Nat.reduceBEq, reduceIte, Nat.reduceAdd, Nat.reduceSub, Nat.reduceLeDiff, Nat.reduceLT, Nat.reduceMul, Nat.reduceEqDiff, Int.reduceEq, Int.reduceBEq, Int.reduceBNe, Int.reduceLT, Int.reduceLE, Int.reduceGT, Int.reduceGE, Int.reduceNeg, Int.reduceAdd, Int.reduceSub, reduceCtorEq, List.reduceReplicate, ← List.map_take, ← List.map_drop]
      refine ⟨k + 1, by omega, by omega, ?_⟩
      have e : decide (a.length = b.length ∧ a.take (k + 1) = b.take (k + 1)) = decide (x = y) := by
        rw [Bool.eq_iff_iff]
        simp only [decide_eq_true_eq, take_same hs.2 hx hy, hs.1, true_and]
      rw [e]
    · simp -dsimp -implicitDefEqProofs only [decide_eq_false hs, qq, Nat.reduceBEq, reduceIte, Nat.reduceAdd, Nat.reduceSub, Nat.reduceLeDiff, Nat.reduceLT, Nat.reduceMul, Nat.reduceEqDiff, Int.reduceEq, Int.reduceBEq, Int.reduceBNe, Int.reduceLT, Int.reduceLE, Int.reduceGT, Int.reduceGE, Int.reduceNeg, Int.reduceAdd, Int.reduceSub, reduceCtorEq, List.reduceReplicate, ← List.map_take, ← List.map_drop]
      refine Ends.plain rfl rfl ?_
      have : a ≠ b := fun e => hs (by rw [e]; exact ⟨rfl, rfl⟩)
      simp [resV, this]
  · obtain rfl : k = a.length := by simp at hlt; omega
    refine Ends.plain rfl rfl ?_
    simp only [resV]
    congr 1
    rw [Bool.eq_iff_iff, decide_eq_true_eq, decide_eq_true_eq]
    constructor
    · rintro ⟨h1, h2⟩; rwa [List.take_length, h1, List.take_length] at h2
    · rintro rfl; exact ⟨rfl, rfl⟩
end Go.Sh.C3
end
section
namespace Go.Sh.C3
open Go.Sh
set_option maxRecDepth 10000
set_option linter.unusedVariables false
set_option linter.unusedSimpArgs false
variable {P : Program}
instance (a b : Sag) : Decidable (lessP a b) := by unfold lessP; exact inferInstance
end Go.Sh.C3
end
section
namespace Go.Sh.C3
open Go.Sh
set_option maxRecDepth 10000
set_option linter.unusedVariables false
set_option linter.unusedSimpArgs false
variable {P : Program}

/-- The first so many, up to n, for which there are bungs. -/
def fewS (d : List Int → Bool) (n : Nat) : Option (List (List Int)) := (List.range n).findSome? fun j => packS d n (j + 1) n []
def fewE (w : Rg) (l : List Sag) (s : Spt) : Int := if askedE w l s ≠ 0 then askedE w l s else if 9 < l.length then 36 else if l.length = 0 then 0 else if (fewS (doS w l s) l.length).isSome then 0 else 3
def fewR (w : Rg) (l : List Sag) (s : Spt) : List (List Int) := if askedE w l s = 0 ∧ l.length ≤ 9 then (fewS (doS w l s) l.length).getD [] else []
def C_Fewest (P : Program) (f : Nat) : Prop := ∀ (w : Rg) (l : List Sag) (s : Spt), Snd P f [.agg w.c, .fsl (l.map Sag.c), .agg s.c] [] (.tup [.fsl ((fewR w l s).map rowC), .i .i64 (fewE w l s)]) []
theorem asked_ok {w : Rg} {l : List Sag} {s : Spt} (h : askedE w l s = 0) : rgB w 0 200 = true ∧ listB l = true ∧ spotB s = true := by
  unfold askedE at h
  split at h
  · split at h
    · split at h
      · exact ⟨by assumption, by assumption, by assumption⟩
      · cases h
    · cases h
  · cases h
theorem ok_Fewest (hm : P.follows .mixedOrders = true) {f f0 f1 : Nat} (low : Low_bung_Fewest P f f0 f1) (h0 : C_asked P f0) (h1 : C_pack P f1) : C_Fewest P f := by
  intro w l s
  have none_ : ∀ (H : List Blk) (e : Int), fewE w l s = e → fewR w l s = [] → Frz 0 H (resV [.nsl, .i .i64 e]) (.tup [.fsl ((fewR w l s).map rowC), .i .i64 (fewE w l s)]) := fun H e h1 h2 => by rw [h1, h2]; exact frz2 .nil (.keep _ rfl)
  refine snd_ic hm low (by simp) ?_
  unfold ic_bung_Fewest
  simp -dsimp -implicitDefEqProofs only [qq, Nat.reduceBEq, reduceIte, Nat.reduceAdd, Nat.reduceSub, Nat.reduceLeDiff, Nat.reduceLT, Nat.reduceMul, Nat.reduceEqDiff, Int.reduceEq, Int.reduceBEq, Int.reduceBNe, Int.reduceLT, Int.reduceLE, Int.reduceGT, Int.reduceGE, Int.reduceNeg, Int.reduceAdd, Int.reduceSub, reduceCtorEq, List.reduceReplicate, ← List.map_take, ← List.map_drop]
  refine callI_pure (h0 w l s) rfl rfl ?_
  simp -dsimp -implicitDefEqProofs only [qq, Nat.reduceBEq, reduceIte, Nat.reduceAdd, Nat.reduceSub, Nat.reduceLeDiff, Nat.reduceLT, Nat.reduceMul, Nat.reduceEqDiff, Int.reduceEq, Int.reduceBEq, Int.reduceBNe, Int.reduceLT, Int.reduceLE, Int.reduceGT, Int.reduceGE, Int.reduceNeg, Int.reduceAdd, Int.reduceSub, reduceCtorEq, List.reduceReplicate, ← List.map_take, ← List.map_drop]
  refine brG_of (fun he => ?_) (fun he => ?_) <;> simp -dsimp -implicitDefEqProofs only [qq, Nat.reduceBEq, reduceIte, Nat.reduceAdd, Nat.reduceSub, Nat.reduceLeDiff, Nat.reduceLT, Nat.reduceMul, Nat.reduceEqDiff, Int.reduceEq, Int.reduceBEq, Int.reduceBNe, Int.reduceLT, Int.reduceLE, Int.reduceGT, Int.reduceGE, Int.reduceNeg, Int.reduceAdd, Int.reduceSub, reduceCtorEq, List.reduceReplicate, ← List.map_take, ← List.map_drop]
  · have he' : askedE w l s ≠ 0 := by simpa using he
    exact Ends.ret rfl (none_ _ _ (by simp [fewE, he']) (by simp [fewR, he']))
  have he' : askedE w l s = 0 := by simpa using he
  obtain ⟨hw, hv, hsp⟩ := asked_ok he'
  have hlen := list_len hv
  refine brG_of (fun h9 => ?_) (fun h9 => ?_) <;> simp -dsimp -implicitDefEqProofs only [qq, Nat.reduceBEq, reduceIte, Nat.reduceAdd, Nat.reduceSub, Nat.reduceLeDiff, Nat.reduceLT, Nat.reduceMul, Nat.reduceEqDiff, Int.reduceEq, Int.reduceBEq, Int.reduceBNe, Int.reduceLT, Int.reduceLE, Int.reduceGT, Int.reduceGE, Int.reduceNeg, Int.reduceAdd, Int.reduceSub, reduceCtorEq, List.reduceReplicate, ← List.map_take, ← List.map_drop]
  · have h9' : 9 < l.length := by simp at h9; omega
    exact Ends.ret rfl (none_ _ _ (by simp [fewE, he', h9']) (by simp [fewR]; omega))
  have h9' : l.length ≤ 9 := by simp at h9; omega
  refine brG_of (fun hz => ?_) (fun hz => ?_) <;> simp -dsimp -implicitDefEqProofs only [qq, Nat.reduceBEq, reduceIte, Nat.reduceAdd, Nat.reduceSub, Nat.reduceLeDiff, Nat.reduceLT, Nat.reduceMul, Nat.reduceEqDiff, Int.reduceEq, Int.reduceBEq, Int.reduceBNe, Int.reduceLT, Int.reduceLE, Int.reduceGT, Int.reduceGE, Int.reduceNeg, Int.reduceAdd, Int.reduceSub, reduceCtorEq, List.reduceReplicate, ← List.map_take, ← List.map_drop]
  · have hz' : l.length = 0 := by simp at hz; simp [hz]
    exact Ends.ret rfl (none_ _ _ (by simp [fewE, he', hz']) (by simp [fewR, hz', fewS]))
  have hpos : 0 < l.length := by simp at hz; exact List.length_pos_iff.2 hz
  simp -dsimp -implicitDefEqProofs only [Rg.c, qq, Nat.reduceBEq, reduceIte, Nat.reduceAdd, Nat.reduceSub, Nat.reduceLeDiff, Nat.reduceLT, Nat.reduceMul, Nat.reduceEqDiff, Int.reduceEq, Int.reduceBEq, Int.reduceBNe, Int.reduceLT, Int.reduceLE, Int.reduceGT, Int.reduceGE, Int.reduceNeg, Int.reduceAdd, Int.reduceSub, reduceCtorEq, List.reduceReplicate, ← List.map_take, ← List.map_drop]
  refine loopI_st (fun k : Nat => l.length - k) (fun k E H => k ≤ l.length ∧ E = [(1, .fsl (l.map Sag.c)), (9, .rpt 3 6 0 0), (10, .i .i64 (k + 1 : Nat))] ∧ ∃ ts, Faith w l s ts ∧ H[2]? = some (.mp (tmap ts)) ∧ H[3]? = some (.row 6 [packC w l s (.rmp 2)]) ∧ (∀ j, j < k → packS (doS w l s) l.length (j + 1) l.length [] = none)) 0 ⟨by omega, rfl, [], ⟨by simp, fun a v _ _ h => by simp at h⟩, rfl, rfl, fun j hj => by omega⟩ ?_
  rintro k _ H ⟨hk, rfl, ts, hF, hm2, hp3, hno⟩
  simp -dsimp -implicitDefEqProofs only [qq, Nat.reduceBEq, reduceIte, Nat.reduceAdd, Nat.reduceSub, Nat.reduceLeDiff, Nat.reduceLT, Nat.reduceMul, Nat.reduceEqDiff, Int.reduceEq, Int.reduceBEq, Int.reduceBNe, Int.reduceLT, Int.reduceLE, Int.reduceGT, Int.reduceGE, Int.reduceNeg, Int.reduceAdd, Int.reduceSub, reduceCtorEq, List.reduceReplicate, ← List.map_take, ← List.map_drop]
  cases hc : decide (((k + 1 : Nat) : Int) ≤ (l.length : Int)) <;> simp -dsimp -implicitDefEqProofs only [hc, qq, Nat.reduceBEq, reduceIte, Nat.reduceAdd, Nat.reduceSub, Nat.reduceLeDiff, Nat.reduceLT, Nat.reduceMul, Nat.reduceEqDiff, Int.reduceEq, Int.reduceBEq, Int.reduceBNe, Int.reduceLT, Int.reduceLE, Int.reduceGT, Int.reduceGE, Int.reduceNeg, Int.reduceAdd, Int.reduceSub, reduceCtorEq, List.reduceReplicate, ← List.map_take, ← List.map_drop]
  · have hkl : k = l.length := by simp at hc; omega
    have hn : fewS (doS w l s) l.length = none := by
      rw [fewS, List.findSome?_eq_none_iff]
      exact fun j hj => hno j (by simp at hj; omega)
    exact Ends.ret rfl (none_ _ _ (by rw [fewE, if_neg (by simp [he']), if_neg (by omega), if_neg (by omega), hn]; rfl) (by simp [fewR, hn]))
  have hkl : k < l.length := by simp at hc; omega
  have hwk : IntKind.i64.wrap (((k + 1 : Nat) : Int) + 1) = ((k + 1 + 1 : Nat) : Int) := wrap_succ (by omega)
  have hpk := h1 l.length H w l s 2 ts [] (k + 1) hm2 hF hw hv hpos h9' (Nat.le_refl _) ⟨by simp, by simp, by simp, by simp, fun h => by omega⟩ (by omega)
  rw [Nat.sub_self] at hpk
  simp -dsimp -implicitDefEqProofs only [hp3, packC, qq, Nat.reduceBEq, reduceIte, Nat.reduceAdd, Nat.reduceSub, Nat.reduceLeDiff, Nat.reduceLT, Nat.reduceMul, Nat.reduceEqDiff, Int.reduceEq, Int.reduceBEq, Int.reduceBNe, Int.reduceLT, Int.reduceLE, Int.reduceGT, Int.reduceGE, Int.reduceNeg, Int.reduceAdd, Int.reduceSub, reduceCtorEq, List.reduceReplicate, ← List.map_take, ← List.map_drop]
  refine callI_give (fun _ => false) (.cons (.keep _) (.cons .nil (.same _))) ?_
  rw [killB_no]
  refine callI_x hpk ?_
  rintro v H6 ⟨⟨ts3, hF3, rfl⟩, hres⟩
  have e1 := get_setsame (b' := .mp (tmap ts3)) hm2
  have e2 : (H.set 2 (.mp (tmap ts3)))[3]? = some (.row 6 [packC w l s (.rmp 2)]) := get_setne hp3 (by omega)
  cases hr : packS (doS w l s) l.length (k + 1) l.length [] with
  | none =>
    rw [hr] at hres
    subst hres
    simp -dsimp -implicitDefEqProofs only [hwk, qq, Nat.reduceBEq, reduceIte, Nat.reduceAdd, Nat.reduceSub, Nat.reduceLeDiff, Nat.reduceLT, Nat.reduceMul, Nat.reduceEqDiff, Int.reduceEq, Int.reduceBEq, Int.reduceBNe, Int.reduceLT, Int.reduceLE, Int.reduceGT, Int.reduceGE, Int.reduceNeg, Int.reduceAdd, Int.reduceSub, reduceCtorEq, List.reduceReplicate, ← List.map_take, ← List.map_drop]
    exact ⟨k + 1, by omega, by omega, rfl, ts3, hF3, e1, e2, fun j hj => by
      rcases Nat.lt_succ_iff_lt_or_eq.1 hj with h | rfl
      · exact hno j h
      · exact hr⟩
  | some out =>
    rw [hr] at hres
    obtain ⟨hne, rfl⟩ := hres
    obtain ⟨x, out', rfl⟩ : ∃ x out', out = x :: out' := by cases out with | nil => exact absurd rfl hne | cons x o => exact ⟨x, o, rfl⟩
    simp -dsimp -implicitDefEqProofs only [qq, Nat.reduceBEq, reduceIte, Nat.reduceAdd, Nat.reduceSub, Nat.reduceLeDiff, Nat.reduceLT, Nat.reduceMul, Nat.reduceEqDiff, Int.reduceEq, Int.reduceBEq, Int.reduceBNe, Int.reduceLT, Int.reduceLE, Int.reduceGT, Int.reduceGE, Int.reduceNeg, Int.reduceAdd, Int.reduceSub, reduceCtorEq, List.reduceReplicate, ← List.map_take, ← List.map_drop]
    have hs : fewS (doS w l s) l.length = some (x :: out') := findSome_range hkl hno hr
    have q1 : fewE w l s = 0 := by rw [fewE, if_neg (by simp [he']), if_neg (by omega), if_neg (by omega), hs]; rfl
    have q2 : fewR w l s = x :: out' := by simp [fewR, he', h9', hs]
    rw [q1, q2]
    exact Ends.ret rfl (frz_keep2 rfl rfl)
end Go.Sh.C3
end
section
namespace Go.Sh
set_option linter.unusedVariables false
set_option linter.unusedSimpArgs false
variable {P : Program}

/-- One's own slice, full; or nothing, nil or not. -/
def OwnZ (H : List Blk) (k : Nat) (rows : List (List V)) (v : V) : Prop := (rows = [] ∧ (v = .nsl ∨ v = .fs0)) ∨ ∃ p c e, v = .rsl p k 0 rows.length c e ∧ H[p]? = some (.row k rows)
theorem OwnS.z {H : List Blk} {k : Nat} {rows : List (List V)} {v : V} (h : OwnS H k rows v) : OwnZ H k rows v := by
  rcases h with ⟨h1, h2⟩ | h
  · exact .inl ⟨h1, .inl h2⟩
  · exact .inr h
theorem OwnZ.pos {H : List Blk} {k : Nat} {rows : List (List V)} {v : V} (h : OwnZ H k rows v) (hr : rows ≠ []) : ∃ p c e, v = .rsl p k 0 rows.length c e ∧ H[p]? = some (.row k rows) := by
  rcases h with ⟨h, _⟩ | h
  · exact absurd h hr
  · exact h
theorem OwnS.pos {H : List Blk} {k : Nat} {rows : List (List V)} {v : V} (h : OwnS H k rows v) (hr : rows ≠ []) : ∃ p c e, v = .rsl p k 0 rows.length c e ∧ H[p]? = some (.row k rows) := h.z.pos hr
theorem OwnZ.s {H : List Blk} {k : Nat} {rows : List (List V)} {v : V} (h : OwnZ H k rows v) (hr : rows ≠ []) : OwnS H k rows v := .inr (h.pos hr)
theorem OwnZ.shown {H : List Blk} {k : Nat} {rows : List (List V)} {v : V} (h : OwnZ H k rows v) : shown H v = some rows := by
  rcases h with ⟨rfl, rfl | rfl⟩ | ⟨p, c, e, rfl, h2⟩
  · rfl
  · rfl
  · simp [Sh.shown, h2]
theorem OwnZ.move {H H' : List Blk} {k : Nat} {rows : List (List V)} {v : V} (h : OwnZ H k rows v) (hk : ∀ p b c e, H[p]? = some b → v = .rsl p k 0 rows.length c e → H'[p]? = some b) : OwnZ H' k rows v := by
  rcases h with h | ⟨p, c, e, h1, h2⟩
  · exact .inl h
  · exact .inr ⟨p, c, e, h1, hk p _ c e h2 h1⟩
theorem OwnZ.app {H : List Blk} {k : Nat} {rows : List (List V)} {v : V} (h : OwnZ H k rows v) (l : List Blk) : OwnZ (H ++ l) k rows v := h.move fun p b _ _ hb _ => get_app hb l
theorem OwnZ.frz {H : List Blk} {k : Nat} {rows : List (List V)} {v : V} (h : OwnZ H k rows v) (hb : ∀ row ∈ rows, belL 0 row = true) : Frz 0 H v (.fsl rows) := by
  rcases h with ⟨rfl, rfl | rfl⟩ | h
  · exact .nil
  · exact .emp
  · exact OwnS.frz (.inr h) hb
/-- New since H0, whose blocks are as they were. -/
structure NewZ (H0 H : List Blk) (k : Nat) (rows : List (List V)) (r : V) : Prop where
  own : OwnZ H k rows r
  len : H0.length ≤ H.length
  keep : ∀ (p : Nat) (b : Blk), H0[p]? = some b → H[p]? = some b
  fresh : ∀ p k o l c e, r = .rsl p k o l c e → H0.length ≤ p
theorem NewZ.emp (H : List Blk) (k : Nat) : NewZ H H k [] .fs0 := ⟨.inl ⟨rfl, .inr rfl⟩, Nat.le_refl _, fun _ _ h => h, by simp⟩
theorem NewZ.nil (H : List Blk) (k : Nat) : NewZ H H k [] .nsl := ⟨.inl ⟨rfl, .inl rfl⟩, Nat.le_refl _, fun _ _ h => h, by simp⟩
theorem New.z {H0 H : List Blk} {k : Nat} {rows : List (List V)} {r : V} (h : New H0 H k rows r) : NewZ H0 H k rows r := ⟨h.own.z, h.len, h.keep, h.fresh⟩
theorem take_keep {H0 H : List Blk} (hl : H0.length ≤ H.length) (hk : ∀ (p : Nat) (b : Blk), H0[p]? = some b → H[p]? = some b) : H.take H0.length = H0 := by
  apply List.ext_getElem?
  intro i
  rw [List.getElem?_take]
  split
  · rename_i h
    rw [hk i H0[i] (by simp [h]), List.getElem?_eq_getElem h]
  · rw [List.getElem?_eq_none (by omega)]
theorem NewZ.take {H0 H : List Blk} {k : Nat} {rows : List (List V)} {r : V} (h : NewZ H0 H k rows r) : H.take H0.length = H0 := take_keep h.len h.keep
theorem NewZ.app {H0 H : List Blk} {k : Nat} {rows : List (List V)} {r : V} (h : NewZ H0 H k rows r) (l : List Blk) : NewZ H0 (H ++ l) k rows r :=
  ⟨h.own.app l, by have := h.len; simp; omega, fun p b hb => get_app (h.keep p b hb) l, h.fresh⟩
/-- An append to it. -/
theorem app_newZ {k bytes : Nat} {x y : V} {H0 H : List Blk} {rows ys : List (List V)} {K : V → List Blk → Prop} (hx : NewZ H0 H k rows x) (h0 : 0 < k) (hb : bytes ≤ 1000000) (hy : Sh.shown H y = some ys) (hys : ∀ r ∈ ys, r.length = k ∧ r.all V.one = true)
    (hl : rows.length + ys.length ≤ 1000000) (hK : ∀ v' H', NewZ H0 H' k (rows ++ ys) v' → K v' H') : appI k bytes x y H K := by
  have hlen := hx.len
  refine ⟨h0, hb, ys, hy, hys, ?_⟩
  rcases hx.own with ⟨rfl, rfl | rfl⟩ | ⟨p, c0, e0, rfl, h2⟩
  · simp only
    refine ⟨fun h => ?_, fun h => ⟨by simpa using hl, ?_⟩⟩
    · subst h; exact hK _ _ hx
    · exact hK _ _ ⟨.inr ⟨H.length, ys.length, false, by simp, by simp⟩, by simp; omega, fun p b hb => get_app (hx.keep p b hb) _, fun p k' o l c e he => by simp at he; omega⟩
  · simp only
    refine ⟨fun h => ?_, fun h => ⟨by simpa using hl, ?_⟩⟩
    · subst h; exact hK _ _ hx
    · exact hK _ _ ⟨.inr ⟨H.length, ys.length, false, by simp, by simp⟩, by simp; omega, fun p b hb => get_app (hx.keep p b hb) _, fun p k' o l c e he => by simp at he; omega⟩
  · have hf := hx.fresh _ _ _ _ _ _ rfl
    refine ⟨by trivial, hl, rows, h2, by simp, .inr (.inr ⟨by trivial, by trivial, ?_⟩)⟩
    refine hK _ _ ⟨.inr ⟨H.length, rows.length + ys.length, false, by simp, by rw [show H.length = (H.set p .dead).length by simp]; exact get_new _ _⟩, by simp; omega, fun q b h => get_app (get_setne (hx.keep q b h) (fun e => by have := get_lt h; omega)) _, ?_⟩
    intro q k' o l c e he
    simp at he
    omega
/-! ### two slices of one's own -/
def Dis (x v : V) : Prop := ∀ p k o l c e k' o' l' c' e', x = .rsl p k o l c e → v = .rsl p k' o' l' c' e' → False
theorem Dis.symm {x v : V} (h : Dis x v) : Dis v x := fun p k o l c e k' o' l' c' e' h1 h2 => h p k' o' l' c' e' k o l c e h2 h1
theorem Dis.nil (v : V) : Dis .nsl v := fun p k o l c e k' o' l' c' e' h1 _ => by cases h1
theorem OwnS.lt {H : List Blk} {k : Nat} {rows : List (List V)} {v : V} (h : OwnS H k rows v) {p k' o l c : Nat} {e : Bool} (hv : v = .rsl p k' o l c e) : p < H.length := by
  rcases h with ⟨_, h⟩ | ⟨q, c0, e0, h, hq⟩
  · rw [h] at hv; cases hv
  · rw [h] at hv; cases hv; exact get_lt hq
end Go.Sh
end
section
namespace Go.Sh.C3
open Go.Sh
set_option maxRecDepth 10000
set_option linter.unusedVariables false
set_option linter.unusedSimpArgs false
variable {P : Program}
def ic_potbankref03_some : IC := .seq (.reg [⟨some 4, none, .mov (.c (.nsl))⟩] [0, 1]) (.seq (.reg [⟨some 5, none, .mov (.c (.nsl))⟩] [0, 1, 5]) (.seq (.seq (.reg [⟨some 6, none, .mov (.c (.i .i64 (0)))⟩] [0, 1, 5, 6]) (.block 0 (.loop (.seq (.seq (.reg [⟨some 7, none, .mov (.t 6)⟩, ⟨some 8, none, .mov (.t 1)⟩, ⟨some 9, none, .len false (.t 8)⟩, ⟨some 10, none, .bin .lss (.t 7) (.t 9)⟩] [0, 1, 5, 6, 10]) (.cond (.t 10) (.skip) (.exit 0))) (.seq (.block 1 (.reg [⟨some 13, none, .mov (.t 5)⟩, ⟨some 14, none, .mov (.t 0)⟩, ⟨some 15, none, .mov (.t 1)⟩, ⟨some 16, none, .mov (.t 6)⟩, ⟨some 17, none, .ixs 1 (.t 15) (.t 16)⟩, ⟨some 18, none, .ld none (.t 17)⟩, ⟨some 19, none, .ixs 8 (.t 14) (.t 18)⟩, ⟨some 20, none, .ld (some 8) (.t 19)⟩, ⟨some 21, none, .bsl false 8 1 [.i .i64 (0), .i .i64 (0), .i .i64 (0), .i .i64 (0), .i .i64 (0), .i .i64 (0), .i .i64 (0), .i .i64 (0)] [(0, (.t 20))]⟩, ⟨some 22, none, .app 8 64 (.t 13) (.t 21)⟩, ⟨some 5, none, .mov (.t 22)⟩] [0, 1, 5, 6])) (.reg [⟨some 11, none, .mov (.t 6)⟩, ⟨some 12, none, .bin .add (.t 11) (.c (.i .i64 (1)))⟩, ⟨some 6, none, .mov (.t 12)⟩] [0, 1, 5, 6])))))) (.seq (.reg [⟨some 23, none, .mov (.t 5)⟩, ⟨some 4, none, .mov (.t 23)⟩] [4]) (.ret))))
abbrev Low_potbankref03_some (P : Program) (f : Nat) : Prop := lowF P f = some (24, [.tmp 4], (ic_potbankref03_some).erase)

theorem ok_some (hm : P.follows .mixedOrders = true) {f : Nat} (low : Low_potbankref03_some P f) : C_stacked P f := by
  intro l s hl hs
  refine snd_ic hm low (by simp) ?_
  unfold ic_potbankref03_some
  simp -dsimp -implicitDefEqProofs only [qq, Nat.reduceBEq, reduceIte, Nat.reduceAdd, Nat.reduceSub, Nat.reduceLeDiff, Nat.reduceLT, Nat.reduceMul, Nat.reduceEqDiff, Int.reduceEq, Int.reduceBEq, Int.reduceBNe, Int.reduceLT, Int.reduceLE, Int.reduceGT, Int.reduceGE, Int.reduceNeg, Int.reduceAdd, Int.reduceSub, reduceCtorEq, List.reduceReplicate, ← List.map_take, ← List.map_drop]
  refine loopI_st (fun k : Nat => s.length - k) (fun k E H => k ≤ s.length ∧ ∃ v, E = [(0, .fsl (l.map Sag.c)), (1, .fsl (s.map intC)), (5, v), (6, .i .i64 k)] ∧ OwnF 0 H 8 ((pickS l (s.take k)).map Sag.c) v) 0 ⟨by omega, _, rfl, .nil _ _ _⟩ ?_
  rintro k _ H ⟨hk, v, rfl, ho⟩
  simp -dsimp -implicitDefEqProofs only [qq, Nat.reduceBEq, reduceIte, Nat.reduceAdd, Nat.reduceSub, Nat.reduceLeDiff, Nat.reduceLT, Nat.reduceMul, Nat.reduceEqDiff, Int.reduceEq, Int.reduceBEq, Int.reduceBNe, Int.reduceLT, Int.reduceLE, Int.reduceGT, Int.reduceGE, Int.reduceNeg, Int.reduceAdd, Int.reduceSub, reduceCtorEq, List.reduceReplicate, ← List.map_take, ← List.map_drop]
  refine brG_of (fun hlt => ?_) (fun hge => ?_)
  · have hkl : k < s.length := by simpa using hlt
    obtain ⟨i, hi, him, htk, _⟩ := next_of hkl
    obtain ⟨h1, h2⟩ := hs i him
    obtain ⟨x, hx, _, _, _⟩ := next_of (show i.toNat < l.length by omega)
    have hwk : IntKind.i64.wrap ((k : Int) + 1) = ((k + 1 : Nat) : Int) := wrap_succ (by omega)
    have hr : rowAt (l.map Sag.c) i = some x.c := rowAt_int h1 hx
    have hp := pickS_length l (s.take k)
    rw [List.length_take] at hp
    simp -dsimp -implicitDefEqProofs only [hi, intC, hr, Sag.c, qq, Nat.reduceBEq, reduceIte, Nat.reduceAdd, Nat.reduceSub, Nat.reduceLeDiff, Nat.reduceLT, Nat.reduceMul, Nat.reduceEqDiff, Int.reduceEq, Int.reduceBEq, Int.reduceBNe, Int.reduceLT, Int.reduceLE, Int.reduceGT, Int.reduceGE, Int.reduceNeg, Int.reduceAdd, Int.reduceSub, reduceCtorEq, List.reduceReplicate, ← List.map_take, ← List.map_drop]
    refine app_ownF (ys := [x.c]) ho (by omega) (by decide) (by decide) (by simp [Sh.shown, gapp]) (by simp [V.one]) (by simp only [List.length_map, List.length_cons, List.length_nil]; omega) fun v' H' ho' hH' hk' => ?_
    simp -dsimp -implicitDefEqProofs only [hwk, qq, Nat.reduceBEq, reduceIte, Nat.reduceAdd, Nat.reduceSub, Nat.reduceLeDiff, Nat.reduceLT, Nat.reduceMul, Nat.reduceEqDiff, Int.reduceEq, Int.reduceBEq, Int.reduceBNe, Int.reduceLT, Int.reduceLE, Int.reduceGT, Int.reduceGE, Int.reduceNeg, Int.reduceAdd, Int.reduceSub, reduceCtorEq, List.reduceReplicate, ← List.map_take, ← List.map_drop]
    refine ⟨k + 1, by omega, by omega, v', rfl, ?_⟩
    rw [htk, pickS_snoc hx]
    simpa using ho'
  · obtain rfl : k = s.length := by simp at hge; omega
    rw [List.take_length] at ho
    simp -dsimp -implicitDefEqProofs only [qq, Nat.reduceBEq, reduceIte, Nat.reduceAdd, Nat.reduceSub, Nat.reduceLeDiff, Nat.reduceLT, Nat.reduceMul, Nat.reduceEqDiff, Int.reduceEq, Int.reduceBEq, Int.reduceBNe, Int.reduceLT, Int.reduceLE, Int.reduceGT, Int.reduceGE, Int.reduceNeg, Int.reduceAdd, Int.reduceSub, reduceCtorEq, List.reduceReplicate, ← List.map_take, ← List.map_drop]
    exact Ends.ret rfl (ho.own.frz (by intro row hr; obtain ⟨n, _, rfl⟩ := List.mem_map.1 hr; rfl))

end Go.Sh.C3
end
section
namespace Go.Sh.C3
open Go.Sh
set_option maxRecDepth 10000
set_option linter.unusedVariables false
set_option linter.unusedSimpArgs false
variable {P : Program}
end Go.Sh.C3
end
section
namespace Go.Sh.C3
open Go.Sh
variable {P : Program}

theorem leanG_sub {w : Int} (hw : 0 ≤ w) {m l : List Sag} (h : m.Sublist l) (hv : ∀ s ∈ l, sagB s = true) : 0 ≤ (leanG w m).2 ∧ (leanG w m).2 ≤ (leanG w l).2 ∧ 0 ≤ (leanG w m).1 ∧ (leanG w m).1 ≤ (leanG w l).1 := by
  induction h with
  | slnil => simp [leanG]
  | cons s _ ih =>
    obtain ⟨a1, a2, a3, a4⟩ := ih fun x hx => hv x (by simp [hx])
    have hs := hv s (by simp)
    simp [sagB, rgB, inR] at hs
    simp only [leanG]
    rename_i l' _
    have : 0 ≤ s.tilt * ((leanG w l').2 + s.h.hi) := Int.mul_nonneg (by omega) (by omega)
    omega
  | cons_cons s _ ih =>
    obtain ⟨a1, a2, a3, a4⟩ := ih fun x hx => hv x (by simp [hx])
    have hs := hv s (by simp)
    simp [sagB, rgB, inR] at hs
    simp only [leanG]
    rename_i m' l' _
    have b1 : 0 ≤ s.tilt * ((leanG w m').2 + s.h.hi) := Int.mul_nonneg (by omega) (by omega)
    have b2 : s.tilt * ((leanG w m').2 + s.h.hi) ≤ s.tilt * ((leanG w l').2 + s.h.hi) := Int.mul_le_mul_of_nonneg_left (by omega) (by omega)
    omega
end Go.Sh.C3
end
section
namespace Go.Sh.C3
open Go.Sh
variable {P : Program}

end Go.Sh.C3
end
section
namespace Go.Sh.C3
open Go.Sh
set_option maxRecDepth 10000
set_option linter.unusedVariables false
set_option linter.unusedSimpArgs false
variable {P : Program}
/-- The rows that were laid, the k-th one a slice of one's own. -/
def Rows (bs : List (List Int)) (k n : Nat) (H : List Blk) (v : V) : Prop := ∃ rows, OwnS H 1 rows v ∧ rows.length = n ∧ ((n ≤ k ∧ rows = (bs.take n).map rowC) ∨ (k < n ∧ ∃ u b, bs[k]? = some b ∧ rows = ((bs.take n).map rowC).set k [u] ∧ OwnS H 1 (b.map intC) u ∧ Dis v u))
end Go.Sh.C3
end
section
namespace Go.Sh.C3
open Go.Sh
set_option maxRecDepth 10000
set_option linter.unusedVariables false
set_option linter.unusedSimpArgs false
variable {P : Program}
/-- A saggar's numbers. -/
structure Raw where
  a : Int
  b : Int
  c : Int
  d : Int
  e : Int
  g : Int
  h : Int
abbrev Raw.C (r : Raw) : List V := [.i .i64 r.a, .i .i64 r.b, .i .i64 r.c, .i .i64 r.d, .i .i64 r.e, .i .i64 r.g, .i .i64 r.h]
end Go.Sh.C3
end
section
namespace Go.Sh.C3
open Go.Sh
set_option maxRecDepth 10000
set_option linter.unusedVariables false
set_option linter.unusedSimpArgs false
variable {P : Program}

end Go.Sh.C3
end
section
namespace Go.Sh.C3
open Go.Sh
set_option maxRecDepth 10000
set_option linter.unusedVariables false
set_option linter.unusedSimpArgs false
variable {P : Program}

end Go.Sh.C3
end
section
namespace Go.Sh.C3
open Go.Sh
variable {P : Program}

theorem answerS_zero {a b : Rg} (h : answerS a b = 0) : a.lo > b.hi := by
  unfold answerS at h
  split at h
  · simp at h
  · split at h
    · assumption
    · simp at h
end Go.Sh.C3
end
section
namespace Go.Sh.C3
open Go.Sh
set_option linter.unusedVariables false
set_option linter.unusedSimpArgs false

/-! ### narrower ranges -/
structure NarS (s t : Sag) : Prop where
  w1 : s.w.lo ≤ t.w.lo
  w2 : t.w.hi ≤ s.w.hi
  b1 : s.b.lo ≤ t.b.lo
  b2 : t.b.hi ≤ s.b.hi
  h1 : s.h.lo ≤ t.h.lo
  h2 : t.h.hi ≤ s.h.hi
  ti : t.tilt = s.tilt
inductive Nar : List Sag → List Sag → Prop
  | nil : Nar [] []
  | cons {s t : Sag} {l m : List Sag} : NarS s t → Nar l m → Nar (s :: l) (t :: m)
theorem NarS.refl (s : Sag) : NarS s s := ⟨Int.le_refl _, Int.le_refl _, Int.le_refl _, Int.le_refl _, Int.le_refl _, Int.le_refl _, rfl⟩
theorem Nar.refl : ∀ l, Nar l l
  | [] => .nil
  | s :: l => .cons (.refl s) (Nar.refl l)
theorem Nar.w {l m : List Sag} (h : Nar l m) : (wOf l).lo ≤ (wOf m).lo ∧ (wOf m).hi ≤ (wOf l).hi := by
  induction h with
  | nil => simp [wOf, sumR]
  | cons hs _ ih => rw [wOf_cons, wOf_cons]; have := hs.w1; have := hs.w2; simp only; omega
theorem Nar.h {l m : List Sag} (h : Nar l m) : (hOf l).lo ≤ (hOf m).lo ∧ (hOf m).hi ≤ (hOf l).hi := by
  induction h with
  | nil => simp [hOf, sumR]
  | @cons s t l m hs _ ih =>
    have e : ∀ (s : Sag) l, hOf (s :: l) = ⟨s.h.lo + (hOf l).lo, s.h.hi + (hOf l).hi⟩ := fun s l => by simp [hOf, sumR]
    rw [e, e]; have := hs.h1; have := hs.h2; simp only; omega
theorem Nar.len {l m : List Sag} (h : Nar l m) : m.length = l.length := by
  induction h with
  | nil => rfl
  | cons _ _ ih => simp [ih]
theorem answerS_zero_iff {a b : Rg} (ha : a.lo ≤ a.hi) (hb : b.lo ≤ b.hi) : answerS a b = 0 ↔ a.lo > b.hi := by
  refine ⟨answerS_zero, fun h => ?_⟩
  unfold answerS
  rw [if_neg (by omega), if_pos h]
theorem wOf_ok {l : List Sag} (hv : ∀ s ∈ l, sagB s = true) : (wOf l).lo ≤ (wOf l).hi := by
  induction l with
  | nil => simp [wOf, sumR]
  | cons s l ih =>
    have h1 := ih fun x hx => hv x (by simp [hx])
    have h2 := hv s (by simp)
    simp [sagB, rgB, inR] at h2
    rw [wOf_cons]; simp only; omega
theorem Nar.zero {l m : List Sag} (h : Nar l m) (hv : ∀ s ∈ m, sagB s = true) : 0 ∈ coursesS l → 0 ∈ coursesS m := by
  induction h with
  | nil => exact id
  | @cons s t l m hs h ih =>
    simp only [coursesS, List.mem_cons]
    rintro (g | g)
    · left
      have h1 := answerS_zero g.symm
      have h2 := h.w
      have h3 := hs.b2
      have h4 := hv t (by simp)
      simp [sagB, rgB, inR] at h4
      exact ((answerS_zero_iff (wOf_ok fun x hx => hv x (by simp [hx])) (by omega)).2 (by omega)).symm
    · exact .inr (ih (fun x hx => hv x (by simp [hx])) g)
theorem Nar.leanG {w : Int} (hw : 0 ≤ w) {l m : List Sag} (h : Nar l m) (hv : ∀ s ∈ m, sagB s = true) : (leanG w m).2 ≤ (leanG w l).2 ∧ (leanG w m).1 ≤ (leanG w l).1 ∧ 0 ≤ (leanG w m).2 := by
  induction h with
  | nil => simp [C3.leanG]
  | @cons s t l m hs h ih =>
    obtain ⟨a1, a2, a3⟩ := ih fun x hx => hv x (by simp [hx])
    have h4 := hv t (by simp)
    simp [sagB, rgB, inR] at h4
    have h2 := hs.h2
    have ht := hs.ti
    simp only [C3.leanG, ht]
    rw [ht] at h4
    refine ⟨by omega, ?_, by omega⟩
    have : s.tilt * ((C3.leanG w m).2 + t.h.hi) ≤ s.tilt * ((C3.leanG w l).2 + s.h.hi) := Int.mul_le_mul_of_nonneg_left (by omega) (by omega)
    omega
theorem tdiv_mono {a b : Int} (h0 : 0 ≤ a + 999) (h : a ≤ b) : (a + 999).tdiv 1000 ≤ (b + 999).tdiv 1000 := by
  rw [Int.tdiv_eq_ediv_of_nonneg h0, Int.tdiv_eq_ediv_of_nonneg (by omega)]
  omega
theorem Nar.lean {w : Rg} (hw : rgB w 0 200 = true) {l m : List Sag} (h : Nar l m) (hv : ∀ s ∈ m, sagB s = true) : leanS w m ≤ leanS w l := by
  simp [rgB] at hw
  have ht : Nar l.tail m.tail := by cases h; exact .nil; assumption
  have hv' : ∀ s ∈ m.tail, sagB s = true := fun s hs => hv s (List.mem_of_mem_tail hs)
  have h1 := ht.leanG (w := w.hi) (by omega) hv'
  have h2 := (leanG_sub (w := w.hi) (by omega) (List.Sublist.refl m.tail) hv').2.2.1
  exact tdiv_mono (by omega) h1.2.1
end Go.Sh.C3
end
section
namespace Go.Sh.C3
open Go.Sh
set_option maxRecDepth 10000
set_option linter.unusedVariables false
set_option linter.unusedSimpArgs false
variable {P : Program}
def ic_potbanklaw03_sane (f0 f1 f2 f3 f4 f5 f6 f7 f8 f9 : Nat) : IC := .seq (.reg [⟨some 0, none, .mov (.c (.b false))⟩] []) (.seq (.reg [⟨some 22, none, .bld [.i .i64 (0), .i .i64 (0)] [(0, 1, (.c (.i .i64 (5)))), (1, 1, (.c (.i .i64 (10))))]⟩, ⟨some 1, none, .alloc [.i .i64 (0), .i .i64 (0)]⟩, ⟨none, none, .st 2 (.t 1) (.t 22)⟩] [1]) (.seq (.drg [(0, ⟨some 24, none, .ld (some 2) (.t 1)⟩), (0, ⟨some 25, none, .calv (.c (.fn (.func f0) [] [])) []⟩), (0, ⟨some 26, none, .bsl true 1 3 [.i .i64 (0)] [(0, (.c (.i .i64 (0)))), (1, (.c (.i .i64 (1)))), (2, (.c (.i .i64 (2))))]⟩), (0, ⟨some 27, none, .calv (.c (.fn (.func f1) [] [])) [.t 24, .t 25, .t 26]⟩), (0, ⟨some 23, none, .mov (.t 27)⟩), (0, ⟨some 28, none, .ext (.t 23) 0⟩), (0, ⟨some 29, none, .ext (.t 23) 1⟩), (1, ⟨some 2, none, .alloc [.i .i64 (0), .i .i64 (0), .nsl]⟩), (1, ⟨none, none, .st 3 (.t 2) (.t 28)⟩), (0, ⟨some 3, none, .mov (.t 29)⟩)] 9 [1, 2, 3]) (.seq (.drg [(0, ⟨some 31, none, .ld (some 2) (.t 1)⟩), (0, ⟨some 32, none, .calv (.c (.fn (.func f0) [] [])) []⟩), (0, ⟨some 33, none, .bsl true 1 3 [.i .i64 (0)] [(0, (.c (.i .i64 (1)))), (1, (.c (.i .i64 (0)))), (2, (.c (.i .i64 (2))))]⟩), (0, ⟨some 34, none, .calv (.c (.fn (.func f1) [] [])) [.t 31, .t 32, .t 33]⟩), (0, ⟨some 30, none, .mov (.t 34)⟩), (0, ⟨some 35, none, .ext (.t 30) 0⟩), (0, ⟨some 36, none, .ext (.t 30) 1⟩), (1, ⟨some 4, none, .alloc [.i .i64 (0), .i .i64 (0), .nsl]⟩), (1, ⟨none, none, .st 3 (.t 4) (.t 35)⟩), (0, ⟨some 5, none, .mov (.t 36)⟩)] 9 [1, 2, 3, 4, 5]) (.seq (.reg [⟨some 38, none, .ld (some 3) (.t 2)⟩, ⟨some 39, none, .calv (.c (.fn (.func f2) [] [])) [.t 38]⟩, ⟨some 37, none, .mov (.t 39)⟩, ⟨some 40, none, .ext (.t 37) 0⟩, ⟨some 41, none, .ext (.t 37) 1⟩, ⟨some 6, none, .mov (.t 40)⟩, ⟨some 7, none, .mov (.t 41)⟩] [1, 2, 3, 4, 5, 6, 7]) (.seq (.reg [⟨some 43, none, .ld (some 3) (.t 2)⟩, ⟨some 44, none, .calv (.c (.fn (.func f3) [] [])) [.t 43]⟩, ⟨some 42, none, .mov (.t 44)⟩, ⟨some 45, none, .ext (.t 42) 0⟩, ⟨some 46, none, .ext (.t 42) 1⟩, ⟨some 8, none, .mov (.t 45)⟩, ⟨some 9, none, .mov (.t 46)⟩] [1, 2, 3, 4, 5, 6, 7, 8, 9]) (.seq (.reg [⟨some 48, none, .ld (some 3) (.t 4)⟩, ⟨some 49, none, .calv (.c (.fn (.func f3) [] [])) [.t 48]⟩, ⟨some 47, none, .mov (.t 49)⟩, ⟨some 50, none, .ext (.t 47) 0⟩, ⟨some 51, none, .ext (.t 47) 1⟩, ⟨some 10, none, .mov (.t 50)⟩, ⟨some 11, none, .mov (.t 51)⟩] [1, 2, 3, 4, 5, 6, 7, 8, 9, 10, 11]) (.seq (.reg [⟨some 53, none, .ld (some 3) (.t 2)⟩, ⟨some 54, none, .calv (.c (.fn (.func f4) [] [])) [.t 53]⟩, ⟨some 52, none, .mov (.t 54)⟩, ⟨some 55, none, .ext (.t 52) 0⟩, ⟨some 56, none, .ext (.t 52) 1⟩, ⟨some 12, none, .mov (.t 55)⟩, ⟨some 13, none, .mov (.t 56)⟩] [1, 3, 4, 5, 6, 7, 8, 9, 10, 11, 12, 13]) (.seq (.reg [⟨some 58, none, .ld (some 3) (.t 4)⟩, ⟨some 59, none, .calv (.c (.fn (.func f5) [] [])) [.t 58]⟩, ⟨some 57, none, .mov (.t 59)⟩, ⟨some 60, none, .ext (.t 57) 0⟩, ⟨some 61, none, .ext (.t 57) 1⟩, ⟨some 14, none, .alloc [.i .i64 (0), .i .i64 (0), .nsl]⟩, ⟨none, none, .st 3 (.t 14) (.t 60)⟩, ⟨some 15, none, .mov (.t 61)⟩] [1, 3, 5, 6, 7, 8, 9, 10, 11, 12, 13, 14, 15]) (.seq (.drg [(0, ⟨some 63, none, .ld (some 2) (.t 1)⟩), (0, ⟨some 64, none, .calv (.c (.fn (.func f0) [] [])) []⟩), (0, ⟨some 65, none, .bld [.i .i64 (0), .i .i64 (0)] [(0, 1, (.c (.i .i64 (400)))), (1, 1, (.c (.i .i64 (9))))]⟩), (0, ⟨some 66, none, .calv (.c (.fn (.func f6) [] [])) [.t 63, .t 64, .t 65]⟩), (0, ⟨some 62, none, .mov (.t 66)⟩), (0, ⟨some 67, none, .ext (.t 62) 0⟩), (0, ⟨some 68, none, .ext (.t 62) 1⟩), (0, ⟨some 16, none, .mov (.t 67)⟩), (0, ⟨some 17, none, .mov (.t 68)⟩)] 8 [3, 5, 6, 7, 8, 9, 10, 11, 12, 13, 14, 15, 16, 17]) (.seq (.reg [⟨some 69, none, .mov (.t 3)⟩, ⟨some 70, none, .bin .eql (.t 69) (.c (.i .i64 (0)))⟩, ⟨some 71, none, .mov (.t 70)⟩, ⟨some 72, some (71, true), .mov (.t 5)⟩, ⟨some 73, some (71, true), .bin .eql (.t 72) (.c (.i .i64 (0)))⟩, ⟨some 74, none, .pick (.t 71) (.t 73) (.c (.b false))⟩, ⟨some 75, none, .mov (.t 74)⟩, ⟨some 76, some (75, true), .mov (.t 7)⟩, ⟨some 77, some (75, true), .bin .eql (.t 76) (.c (.i .i64 (0)))⟩, ⟨some 78, none, .pick (.t 75) (.t 77) (.c (.b false))⟩, ⟨some 79, none, .mov (.t 78)⟩, ⟨some 80, some (79, true), .mov (.t 9)⟩, ⟨some 81, some (79, true), .bin .eql (.t 80) (.c (.i .i64 (0)))⟩, ⟨some 82, none, .pick (.t 79) (.t 81) (.c (.b false))⟩, ⟨some 83, none, .mov (.t 82)⟩, ⟨some 84, some (83, true), .mov (.t 11)⟩, ⟨some 85, some (83, true), .bin .eql (.t 84) (.c (.i .i64 (0)))⟩, ⟨some 86, none, .pick (.t 83) (.t 85) (.c (.b false))⟩, ⟨some 87, none, .mov (.t 86)⟩, ⟨some 88, some (87, true), .mov (.t 13)⟩, ⟨some 89, some (87, true), .bin .eql (.t 88) (.c (.i .i64 (0)))⟩, ⟨some 90, none, .pick (.t 87) (.t 89) (.c (.b false))⟩, ⟨some 91, none, .mov (.t 90)⟩, ⟨some 92, some (91, true), .mov (.t 15)⟩, ⟨some 93, some (91, true), .bin .eql (.t 92) (.c (.i .i64 (0)))⟩, ⟨some 94, none, .pick (.t 91) (.t 93) (.c (.b false))⟩, ⟨some 95, none, .mov (.t 94)⟩, ⟨some 96, some (95, true), .mov (.t 17)⟩, ⟨some 97, some (95, true), .bin .eql (.t 96) (.c (.i .i64 (0)))⟩, ⟨some 98, none, .pick (.t 95) (.t 97) (.c (.b false))⟩, ⟨some 18, none, .mov (.t 98)⟩] [6, 8, 10, 12, 14, 16, 18]) (.seq (.reg [⟨some 99, none, .mov (.t 6)⟩, ⟨some 100, none, .bld [.i .i64 (0), .i .i64 (0)] [(0, 1, (.c (.i .i64 (140)))), (1, 1, (.c (.i .i64 (150))))]⟩, ⟨some 101, none, .bld [.i .i64 (0), .i .i64 (0)] [(0, 1, (.c (.i .i64 (60)))), (1, 1, (.c (.i .i64 (60))))]⟩, ⟨some 102, none, .bld [.i .i64 (0), .i .i64 (0)] []⟩, ⟨some 103, none, .bsl false 2 3 [.i .i64 (0), .i .i64 (0)] [(0, (.t 100)), (1, (.t 101)), (2, (.t 102))]⟩, ⟨some 104, none, .calv (.c (.fn (.func f7) [] [])) [.t 99, .t 103]⟩, ⟨some 19, none, .mov (.t 104)⟩] [8, 10, 12, 14, 16, 18, 19]) (.seq (.reg [⟨some 105, none, .mov (.t 16)⟩, ⟨some 106, none, .bsl false 1 2 [.i .i64 (0)] [(0, (.c (.i .i64 (0)))), (1, (.c (.i .i64 (2))))]⟩, ⟨some 107, none, .bsl false 1 1 [.i .i64 (0)] [(0, (.c (.i .i64 (1))))]⟩, ⟨some 108, none, .bsl false 1 2 [.nsl] [(0, (.t 106)), (1, (.t 107))]⟩, ⟨some 109, none, .calv (.c (.fn (.func f8) [] [])) [.t 105, .t 108]⟩, ⟨some 20, none, .mov (.t 109)⟩] [8, 10, 12, 14, 18, 19, 20]) (.seq (.reg [⟨some 110, none, .fad 2 (.t 14)⟩, ⟨some 111, none, .ld none (.t 110)⟩, ⟨some 112, none, .bsl false 1 2 [.i .i64 (0)] [(0, (.c (.i .i64 (120)))), (1, (.c (.i .i64 (60))))]⟩, ⟨some 113, none, .calv (.c (.fn (.func f9) [] [])) [.t 111, .t 112]⟩, ⟨some 21, none, .mov (.t 113)⟩] [8, 10, 12, 14, 18, 19, 20, 21]) (.seq (.reg [⟨some 114, none, .mov (.t 18)⟩, ⟨some 115, none, .mov (.t 114)⟩, ⟨some 116, some (115, true), .mov (.t 19)⟩, ⟨some 117, none, .pick (.t 115) (.t 116) (.c (.b false))⟩, ⟨some 118, none, .mov (.t 117)⟩, ⟨some 119, some (118, true), .mov (.t 8)⟩, ⟨some 120, some (118, true), .bin .eql (.t 119) (.c (.i .i64 (1)))⟩, ⟨some 121, none, .pick (.t 118) (.t 120) (.c (.b false))⟩, ⟨some 122, none, .mov (.t 121)⟩, ⟨some 123, some (122, true), .mov (.t 10)⟩, ⟨some 124, some (122, true), .bin .eql (.t 123) (.c (.i .i64 (2)))⟩, ⟨some 125, none, .pick (.t 122) (.t 124) (.c (.b false))⟩, ⟨some 126, none, .mov (.t 125)⟩, ⟨some 127, some (126, true), .mov (.t 12)⟩, ⟨some 128, some (126, true), .bin .eql (.t 127) (.c (.i .i64 (4)))⟩, ⟨some 129, none, .pick (.t 126) (.t 128) (.c (.b false))⟩, ⟨some 130, none, .mov (.t 129)⟩, ⟨some 131, some (130, true), .mov (.t 21)⟩, ⟨some 132, none, .pick (.t 130) (.t 131) (.c (.b false))⟩, ⟨some 133, none, .mov (.t 132)⟩, ⟨some 134, some (133, true), .fad 0 (.t 14)⟩, ⟨some 135, some (133, true), .ld none (.t 134)⟩, ⟨some 136, some (133, true), .bin .eql (.t 135) (.c (.i .i64 (0)))⟩, ⟨some 137, none, .pick (.t 133) (.t 136) (.c (.b false))⟩, ⟨some 138, none, .mov (.t 137)⟩, ⟨some 139, some (138, true), .fad 1 (.t 14)⟩, ⟨some 140, some (138, true), .ld none (.t 139)⟩, ⟨some 141, some (138, true), .bin .eql (.t 140) (.c (.i .i64 (150)))⟩, ⟨some 142, none, .pick (.t 138) (.t 141) (.c (.b false))⟩, ⟨some 143, none, .mov (.t 142)⟩, ⟨some 144, some (143, true), .mov (.t 20)⟩, ⟨some 145, none, .pick (.t 143) (.t 144) (.c (.b false))⟩, ⟨some 0, none, .mov (.t 145)⟩] [0]) (.ret)))))))))))))))
abbrev Low_potbanklaw03_sane (P : Program) (f f0 f1 f2 f3 f4 f5 f6 f7 f8 f9 : Nat) : Prop := lowF P f = some (146, [.tmp 0], (ic_potbanklaw03_sane f0 f1 f2 f3 f4 f5 f6 f7 f8 f9).erase)

theorem frz_col {H : List Blk} {p n c : Nat} {e : Bool} {us us' : List V} (h : H[p]? = some (.row 1 (us.map fun u => [u]))) (hn : us.length = n) (hl : us.length = us'.length) (hb : ∀ u ∈ us', u.bel 0 = true) (hu : ∀ (i : Nat) u u', us[i]? = some u → us'[i]? = some u' → Frz 0 H u u') : Frz 0 H (.rsl p 1 0 n c e) (.fsl (us'.map fun u => [u])) := by
  subst hn
  have ht : ((us.map fun u => [u]).drop 0).take us.length = us.map fun u => [u] := by rw [List.drop_zero, List.take_of_length_le (by simp)]
  refine .sl p 1 0 us.length c e _ _ (Nat.zero_le _) h (by simp) (by simp [hl]) (fun row hr => ?_) ?_ ?_
  · obtain ⟨u, hu, rfl⟩ := List.mem_map.1 hr
    simp [belL, hb u hu]
  · intro i row row' h1 h3
    rw [ht, List.getElem?_map] at h1
    rw [List.getElem?_map] at h3
    obtain ⟨u, _, rfl⟩ := Option.map_eq_some_iff.1 h1
    obtain ⟨u', _, rfl⟩ := Option.map_eq_some_iff.1 h3
    rfl
  · intro i row row' j x x' h1 h3 e1 e2
    rw [ht, List.getElem?_map] at h1
    rw [List.getElem?_map] at h3
    obtain ⟨u, g1, rfl⟩ := Option.map_eq_some_iff.1 h1
    obtain ⟨u', g2, rfl⟩ := Option.map_eq_some_iff.1 h3
    cases j with
    | zero => simp at e1 e2; subst e1 e2; exact hu i u u' g1 g2
    | succ j => simp at e1
def C_sane (P : Program) (f : Nat) : Prop := Snd P f [] [] (.b true) []
def exB : List Sag := pickS exS [0, 1, 2]
def exC : List Sag := pickS exS [1, 0, 2]
theorem ok_sane (hm : P.follows .mixedOrders = true) {f f0 f1 f2 f3 f4 f5 f6 f7 f8 f9 : Nat} (low : Low_potbanklaw03_sane P f f0 f1 f2 f3 f4 f5 f6 f7 f8 f9) (h0 : C_example P f0) (h1 : C_Set P f1) (h2 : C_Loads P f2) (h3 : C_Stands P f3) (h4 : C_Lean P f4) (h5 : C_Breaks P f5) (h6 : C_Fewest P f6) (h7 : C_SameRanges P f7) (h8 : C_SameParts P f8) (h9 : C_Same P f9) : C_sane P f := by
  have s1 : setE ⟨5, 10⟩ exS [0, 1, 2] = 0 := by decide +kernel
  have s2 : setE ⟨5, 10⟩ exS [1, 0, 2] = 0 := by decide +kernel
  have b1 : bungB ⟨5, 10⟩ exB = true := by decide +kernel
  have b2 : bungB ⟨5, 10⟩ exC = true := by decide +kernel
  have c1 := h1 ⟨5, 10⟩ exS [0, 1, 2] (by decide)
  have c2 := h1 ⟨5, 10⟩ exS [1, 0, 2] (by decide)
  have c3 := h2 ⟨5, 10⟩ exB
  have c4 := h3 ⟨5, 10⟩ exB
  have c5 := h3 ⟨5, 10⟩ exC
  have c6 := h4 ⟨5, 10⟩ exB
  have c7 := h5 ⟨5, 10⟩ exC
  have c8 := h6 ⟨5, 10⟩ exS ⟨400, 9⟩
  rw [s1, if_pos rfl] at c1
  rw [s2, if_pos rfl] at c2
  rw [b1, if_pos rfl, if_pos rfl] at c3 c4 c6
  rw [b2, if_pos rfl, if_pos rfl] at c5
  rw [b2, if_pos rfl, if_pos rfl, show brkV exC = .agg [.i .i64 0, .i .i64 150, .fsl (([120, 60] : List Int).map intC)] by rfl, show (if (brkAt exC).isSome = true then (0 : Int) else 34) = 0 by decide +kernel] at c7
  rw [show standsS exB = 1 by decide +kernel] at c4
  rw [show standsS exC = 2 by decide +kernel] at c5
  rw [show leanS ⟨5, 10⟩ exB = 4 by decide +kernel] at c6
  rw [show loadsS exB = [⟨140, 150⟩, ⟨60, 60⟩, ⟨0, 0⟩] by decide +kernel] at c3
  rw [show fewR ⟨5, 10⟩ exS ⟨400, 9⟩ = [[0, 2], [1]] by decide +kernel, show fewE ⟨5, 10⟩ exS ⟨400, 9⟩ = 0 by decide +kernel] at c8
  have d1 := h7 [⟨140, 150⟩, ⟨60, 60⟩, ⟨0, 0⟩] [⟨140, 150⟩, ⟨60, 60⟩, ⟨0, 0⟩] (by decide)
  have d2 := h8 [[0, 2], [1]] [[0, 2], [1]] (by decide) (by decide)
  have d3 := h9 [120, 60] [120, 60] (by decide)
  rw [decide_eq_true rfl] at d1 d2 d3
  change Snd P f1 [.agg [.i .i64 5, .i .i64 10], .fsl (exS.map Sag.c), .fsl [[.i .i64 0], [.i .i64 1], [.i .i64 2]]] [] (.tup [.agg [.i .i64 5, .i .i64 10, .fsl (exB.map Sag.c)], .i .i64 0]) [] at c1
  change Snd P f1 [.agg [.i .i64 5, .i .i64 10], .fsl (exS.map Sag.c), .fsl [[.i .i64 1], [.i .i64 0], [.i .i64 2]]] [] (.tup [.agg [.i .i64 5, .i .i64 10, .fsl (exC.map Sag.c)], .i .i64 0]) [] at c2
  refine snd_ic hm low (by simp) ?_
  unfold ic_potbanklaw03_sane
  simp -dsimp -implicitDefEqProofs only [qq, Nat.reduceBEq, reduceIte, Nat.reduceAdd, Nat.reduceSub, Nat.reduceLeDiff, Nat.reduceLT, Nat.reduceMul, Nat.reduceEqDiff, Int.reduceEq, Int.reduceBEq, Int.reduceBNe, Int.reduceLT, Int.reduceLE, Int.reduceGT, Int.reduceGE, Int.reduceNeg, Int.reduceAdd, Int.reduceSub, reduceCtorEq, List.reduceReplicate, ← List.map_take, ← List.map_drop]
  refine callI_pure h0 rfl rfl ?_
  simp -dsimp -implicitDefEqProofs only [qq, Nat.reduceBEq, reduceIte, Nat.reduceAdd, Nat.reduceSub, Nat.reduceLeDiff, Nat.reduceLT, Nat.reduceMul, Nat.reduceEqDiff, Int.reduceEq, Int.reduceBEq, Int.reduceBNe, Int.reduceLT, Int.reduceLE, Int.reduceGT, Int.reduceGE, Int.reduceNeg, Int.reduceAdd, Int.reduceSub, reduceCtorEq, List.reduceReplicate, ← List.map_take, ← List.map_drop]
  refine ⟨by decide, callI_pure c1 rfl rfl ?_⟩
  simp -dsimp -implicitDefEqProofs only [qq, Nat.reduceBEq, reduceIte, Nat.reduceAdd, Nat.reduceSub, Nat.reduceLeDiff, Nat.reduceLT, Nat.reduceMul, Nat.reduceEqDiff, Int.reduceEq, Int.reduceBEq, Int.reduceBNe, Int.reduceLT, Int.reduceLE, Int.reduceGT, Int.reduceGE, Int.reduceNeg, Int.reduceAdd, Int.reduceSub, reduceCtorEq, List.reduceReplicate, ← List.map_take, ← List.map_drop]
  refine callI_pure h0 rfl rfl ?_
  simp -dsimp -implicitDefEqProofs only [qq, Nat.reduceBEq, reduceIte, Nat.reduceAdd, Nat.reduceSub, Nat.reduceLeDiff, Nat.reduceLT, Nat.reduceMul, Nat.reduceEqDiff, Int.reduceEq, Int.reduceBEq, Int.reduceBNe, Int.reduceLT, Int.reduceLE, Int.reduceGT, Int.reduceGE, Int.reduceNeg, Int.reduceAdd, Int.reduceSub, reduceCtorEq, List.reduceReplicate, ← List.map_take, ← List.map_drop]
  refine ⟨by decide, callI_pure c2 rfl rfl ?_⟩
  simp -dsimp -implicitDefEqProofs only [qq, Nat.reduceBEq, reduceIte, Nat.reduceAdd, Nat.reduceSub, Nat.reduceLeDiff, Nat.reduceLT, Nat.reduceMul, Nat.reduceEqDiff, Int.reduceEq, Int.reduceBEq, Int.reduceBNe, Int.reduceLT, Int.reduceLE, Int.reduceGT, Int.reduceGE, Int.reduceNeg, Int.reduceAdd, Int.reduceSub, reduceCtorEq, List.reduceReplicate, ← List.map_take, ← List.map_drop]
  refine callI_pure c3 rfl rfl ?_
  simp -dsimp -implicitDefEqProofs only [qq, Nat.reduceBEq, reduceIte, Nat.reduceAdd, Nat.reduceSub, Nat.reduceLeDiff, Nat.reduceLT, Nat.reduceMul, Nat.reduceEqDiff, Int.reduceEq, Int.reduceBEq, Int.reduceBNe, Int.reduceLT, Int.reduceLE, Int.reduceGT, Int.reduceGE, Int.reduceNeg, Int.reduceAdd, Int.reduceSub, reduceCtorEq, List.reduceReplicate, ← List.map_take, ← List.map_drop]
  refine callI_pure c4 rfl rfl ?_
  simp -dsimp -implicitDefEqProofs only [qq, Nat.reduceBEq, reduceIte, Nat.reduceAdd, Nat.reduceSub, Nat.reduceLeDiff, Nat.reduceLT, Nat.reduceMul, Nat.reduceEqDiff, Int.reduceEq, Int.reduceBEq, Int.reduceBNe, Int.reduceLT, Int.reduceLE, Int.reduceGT, Int.reduceGE, Int.reduceNeg, Int.reduceAdd, Int.reduceSub, reduceCtorEq, List.reduceReplicate, ← List.map_take, ← List.map_drop]
  refine callI_pure c5 rfl rfl ?_
  simp -dsimp -implicitDefEqProofs only [qq, Nat.reduceBEq, reduceIte, Nat.reduceAdd, Nat.reduceSub, Nat.reduceLeDiff, Nat.reduceLT, Nat.reduceMul, Nat.reduceEqDiff, Int.reduceEq, Int.reduceBEq, Int.reduceBNe, Int.reduceLT, Int.reduceLE, Int.reduceGT, Int.reduceGE, Int.reduceNeg, Int.reduceAdd, Int.reduceSub, reduceCtorEq, List.reduceReplicate, ← List.map_take, ← List.map_drop]
  refine callI_pure c6 rfl rfl ?_
  simp -dsimp -implicitDefEqProofs only [qq, Nat.reduceBEq, reduceIte, Nat.reduceAdd, Nat.reduceSub, Nat.reduceLeDiff, Nat.reduceLT, Nat.reduceMul, Nat.reduceEqDiff, Int.reduceEq, Int.reduceBEq, Int.reduceBNe, Int.reduceLT, Int.reduceLE, Int.reduceGT, Int.reduceGE, Int.reduceNeg, Int.reduceAdd, Int.reduceSub, reduceCtorEq, List.reduceReplicate, ← List.map_take, ← List.map_drop]
  refine callI_pure c7 rfl rfl ?_
  simp -dsimp -implicitDefEqProofs only [qq, Nat.reduceBEq, reduceIte, Nat.reduceAdd, Nat.reduceSub, Nat.reduceLeDiff, Nat.reduceLT, Nat.reduceMul, Nat.reduceEqDiff, Int.reduceEq, Int.reduceBEq, Int.reduceBNe, Int.reduceLT, Int.reduceLE, Int.reduceGT, Int.reduceGE, Int.reduceNeg, Int.reduceAdd, Int.reduceSub, reduceCtorEq, List.reduceReplicate, ← List.map_take, ← List.map_drop]
  refine callI_pure h0 rfl rfl ?_
  simp -dsimp -implicitDefEqProofs only [qq, Nat.reduceBEq, reduceIte, Nat.reduceAdd, Nat.reduceSub, Nat.reduceLeDiff, Nat.reduceLT, Nat.reduceMul, Nat.reduceEqDiff, Int.reduceEq, Int.reduceBEq, Int.reduceBNe, Int.reduceLT, Int.reduceLE, Int.reduceGT, Int.reduceGE, Int.reduceNeg, Int.reduceAdd, Int.reduceSub, reduceCtorEq, List.reduceReplicate, ← List.map_take, ← List.map_drop]
  refine callI_pure c8 rfl rfl ?_
  simp -dsimp -implicitDefEqProofs only [qq, Nat.reduceBEq, reduceIte, Nat.reduceAdd, Nat.reduceSub, Nat.reduceLeDiff, Nat.reduceLT, Nat.reduceMul, Nat.reduceEqDiff, Int.reduceEq, Int.reduceBEq, Int.reduceBNe, Int.reduceLT, Int.reduceLE, Int.reduceGT, Int.reduceGE, Int.reduceNeg, Int.reduceAdd, Int.reduceSub, reduceCtorEq, List.reduceReplicate, ← List.map_take, ← List.map_drop]
  refine callI_lend2 d1 (.keep _ rfl) (frz_lit rfl rfl (by decide)) rfl ?_
  simp -dsimp -implicitDefEqProofs only [qq, Nat.reduceBEq, reduceIte, Nat.reduceAdd, Nat.reduceSub, Nat.reduceLeDiff, Nat.reduceLT, Nat.reduceMul, Nat.reduceEqDiff, Int.reduceEq, Int.reduceBEq, Int.reduceBNe, Int.reduceLT, Int.reduceLE, Int.reduceGT, Int.reduceGE, Int.reduceNeg, Int.reduceAdd, Int.reduceSub, reduceCtorEq, List.reduceReplicate, ← List.map_take, ← List.map_drop]
  refine callI_lend2 d2 (.keep _ rfl) (frz_col (us := [.rsl 5 1 0 2 2 true, .rsl 6 1 0 1 1 true]) (us' := [.fsl ([0, 2].map intC), .fsl ([1].map intC)]) rfl rfl rfl (by simp [V.bel]) fun i u u' e1 e2 => ?_) rfl ?_
  · match i with
    | 0 => simp at e1 e2; subst e1 e2; exact frz_lit rfl rfl (by decide)
    | 1 => simp at e1 e2; subst e1 e2; exact frz_lit rfl rfl (by decide)
    | i + 2 => simp at e1
  simp -dsimp -implicitDefEqProofs only [qq, Nat.reduceBEq, reduceIte, Nat.reduceAdd, Nat.reduceSub, Nat.reduceLeDiff, Nat.reduceLT, Nat.reduceMul, Nat.reduceEqDiff, Int.reduceEq, Int.reduceBEq, Int.reduceBNe, Int.reduceLT, Int.reduceLE, Int.reduceGT, Int.reduceGE, Int.reduceNeg, Int.reduceAdd, Int.reduceSub, reduceCtorEq, List.reduceReplicate, ← List.map_take, ← List.map_drop]
  refine callI_lend2 d3 (.keep _ rfl) (frz_lit rfl rfl (by decide)) rfl ?_
  simp -dsimp -implicitDefEqProofs only [qq, Nat.reduceBEq, reduceIte, Nat.reduceAdd, Nat.reduceSub, Nat.reduceLeDiff, Nat.reduceLT, Nat.reduceMul, Nat.reduceEqDiff, Int.reduceEq, Int.reduceBEq, Int.reduceBNe, Int.reduceLT, Int.reduceLE, Int.reduceGT, Int.reduceGE, Int.reduceNeg, Int.reduceAdd, Int.reduceSub, reduceCtorEq, List.reduceReplicate, ← List.map_take, ← List.map_drop]
  exact Ends.plain rfl rfl rfl
end Go.Sh.C3
end
section
namespace Go.Sh.C3
open Go.Sh
set_option maxRecDepth 10000
set_option linter.unusedVariables false
set_option linter.unusedSimpArgs false
variable {P : Program}
end Go.Sh.C3
end
section
namespace Go.Sh.C3
open Go.Sh
set_option maxRecDepth 10000
set_option linter.unusedVariables false
set_option linter.unusedSimpArgs false
variable {P : Program}
end Go.Sh.C3
end
section
namespace Go.Sh.C3
open Go.Sh
set_option maxRecDepth 10000
set_option linter.unusedVariables false
set_option linter.unusedSimpArgs false
variable {P : Program}
def ic_bung_Top_1 : IC := .seq (.reg [⟨some 2, none, .box (.t 0)⟩, ⟨some 3, none, .mov (.c (.b false))⟩] [1, 2]) (.seq (.reg [⟨some 4, none, .fad 0 (.t 2)⟩, ⟨some 5, none, .ld none (.t 4)⟩, ⟨some 6, none, .fad 0 (.t 1)⟩, ⟨some 7, none, .ld none (.t 6)⟩, ⟨some 8, none, .bin .eql (.t 5) (.t 7)⟩, ⟨some 3, none, .mov (.t 8)⟩] [3]) (.ret))
abbrev Low_bung_Top_1 (P : Program) (f : Nat) : Prop := lowF P f = some (9, [.tmp 3], (ic_bung_Top_1).erase)
def ic_slices_ContainsFunc_Sapi_Saggar_api_Saggar (f0 : Nat) : IC := .seq (.reg [⟨some 4, none, .mov (.c (.b false))⟩] [0, 1]) (.seq (.reg [⟨some 5, none, .mov (.t 0)⟩, ⟨some 6, none, .mov (.t 1)⟩, ⟨some 7, none, .calv (.c (.fn (.func f0) [] [])) [.t 5, .t 6]⟩, ⟨some 8, none, .bin .geq (.t 7) (.c (.i .i64 (0)))⟩, ⟨some 4, none, .mov (.t 8)⟩] [4]) (.ret))
abbrev Low_slices_ContainsFunc_Sapi_Saggar_api_Saggar (P : Program) (f f0 : Nat) : Prop := lowF P f = some (9, [.tmp 4], (ic_slices_ContainsFunc_Sapi_Saggar_api_Saggar f0).erase)
def ic_slices_IndexFunc_Sapi_Saggar_api_Saggar : IC := .seq (.reg [⟨some 4, none, .mov (.c (.i .i64 (0)))⟩] [0, 1]) (.seq (.seq (.reg [⟨some 6, none, .mov (.t 0)⟩, ⟨some 7, none, .len false (.t 6)⟩, ⟨some 8, none, .mov (.c (.i .i64 (0)))⟩] [0, 1, 7, 8]) (.block 0 (.loop (.seq (.reg [⟨some 9, none, .bin .lss (.t 8) (.t 7)⟩] [0, 1, 7, 8, 9]) (.seq (.cond (.t 9) (.skip) (.exit 0)) (.seq (.block 1 (.seq (.reg [⟨some 10, none, .mov (.t 8)⟩, ⟨some 5, none, .mov (.t 10)⟩] [0, 1, 5, 7, 8]) (.seq (.reg [⟨some 11, none, .mov (.t 1)⟩, ⟨some 12, none, .mov (.t 0)⟩, ⟨some 13, none, .mov (.t 5)⟩, ⟨some 14, none, .ixs 8 (.t 12) (.t 13)⟩, ⟨some 15, none, .ld (some 8) (.t 14)⟩, ⟨some 16, none, .calv (.t 11) [.t 15]⟩] [0, 1, 5, 7, 8, 16]) (.cond (.t 16) (.seq (.reg [⟨some 17, none, .mov (.t 5)⟩, ⟨some 4, none, .mov (.t 17)⟩] [4]) (.ret)) (.skip))))) (.reg [⟨some 18, none, .bin .add (.t 8) (.c (.i .i64 (1)))⟩, ⟨some 8, none, .mov (.t 18)⟩] [0, 1, 7, 8]))))))) (.seq (.reg [⟨some 4, none, .mov (.c (.i .i64 (-1)))⟩] [4]) (.ret)))
abbrev Low_slices_IndexFunc_Sapi_Saggar_api_Saggar (P : Program) (f : Nat) : Prop := lowF P f = some (19, [.tmp 4], (ic_slices_IndexFunc_Sapi_Saggar_api_Saggar).erase)
def ic_slices_Clone_Sapi_Saggar_api_Saggar : IC := .seq (.reg [⟨some 2, none, .mov (.c (.nsl))⟩] [0]) (.seq (.seq (.reg [⟨some 3, none, .mov (.t 0)⟩, ⟨some 4, none, .eqb 1 false (.t 3) (.c (.nsl))⟩] [0, 4]) (.cond (.t 4) (.seq (.reg [⟨some 2, none, .mov (.c (.nsl))⟩] [2]) (.ret)) (.skip))) (.seq (.reg [⟨some 5, none, .bsl false 8 0 [.i .i64 (0), .i .i64 (0), .i .i64 (0), .i .i64 (0), .i .i64 (0), .i .i64 (0), .i .i64 (0), .i .i64 (0)] []⟩, ⟨some 6, none, .mov (.t 0)⟩, ⟨some 7, none, .app 8 64 (.t 5) (.t 6)⟩, ⟨some 2, none, .mov (.t 7)⟩] [2]) (.ret)))
abbrev Low_slices_Clone_Sapi_Saggar_api_Saggar (P : Program) (f : Nat) : Prop := lowF P f = some (8, [.tmp 2], (ic_slices_Clone_Sapi_Saggar_api_Saggar).erase)

theorem bel_sags (l : List Sag) : ∀ row ∈ l.map Sag.c, belL 0 row = true := by intro row hr; obtain ⟨n, _, rfl⟩ := List.mem_map.1 hr; rfl
/-- A clone, told. -/
def C_CloneG (P : Program) (f : Nat) : Prop := ∀ (H : List Blk) (x : Sag) (l : List Sag), l.length < 1000000 → Snd P f [.fsl ((x :: l).map Sag.c)] H (.rsl (H.length + 1) 8 0 (l.length + 1) (l.length + 1) false) (H ++ [.row 8 [], .row 8 ((x :: l).map Sag.c)])
theorem ends_allC {H H2 : List Blk} {r : V} {E : Env} {ress : List IRes} {vs : List V} (h : resIs E H2 ress = some vs) (hr : resV vs = r) : Ends ress H r H2 .ret E H2 := ⟨.inr rfl, vs, h, .all [] hr.symm rfl⟩
theorem ok_CloneG (hm : P.follows .mixedOrders = true) {f : Nat} (low : Low_slices_Clone_Sapi_Saggar_api_Saggar P f) : C_CloneG P f := by
  intro H x l hl
  refine snd_ic hm low (by simp) ?_
  unfold ic_slices_Clone_Sapi_Saggar_api_Saggar
  have hrow : ∀ r ∈ (x :: l).map Sag.c, r.length = 8 ∧ r.all V.one = true := by intro r hr; obtain ⟨x, _, rfl⟩ := List.mem_map.1 hr; exact ⟨rfl, rfl⟩
  simp -dsimp -implicitDefEqProofs only [qq, Nat.reduceBEq, reduceIte, Nat.reduceAdd, Nat.reduceSub, Nat.reduceLeDiff, Nat.reduceLT, Nat.reduceMul, Nat.reduceEqDiff, Int.reduceEq, Int.reduceBEq, Int.reduceBNe, Int.reduceLT, Int.reduceLE, Int.reduceGT, Int.reduceGE, Int.reduceNeg, Int.reduceAdd, Int.reduceSub, reduceCtorEq, List.reduceReplicate, ← List.map_take, ← List.map_drop]
  refine ⟨by decide, by decide, (x :: l).map Sag.c, rfl, hrow, rfl, by simp; omega, [], get_new _ _, by simp, .inr (.inl ⟨rfl, by simp, ?_⟩)⟩
  simp -dsimp -implicitDefEqProofs only [qq, Nat.reduceBEq, reduceIte, Nat.reduceAdd, Nat.reduceSub, Nat.reduceLeDiff, Nat.reduceLT, Nat.reduceMul, Nat.reduceEqDiff, Int.reduceEq, Int.reduceBEq, Int.reduceBNe, Int.reduceLT, Int.reduceLE, Int.reduceGT, Int.reduceGE, Int.reduceNeg, Int.reduceAdd, Int.reduceSub, reduceCtorEq, List.reduceReplicate, ← List.map_take, ← List.map_drop]
  exact ends_allC rfl rfl
def C_Tp1 (P : Program) (f : Nat) : Prop := ∀ (x s : Sag), Snd P f [.agg x.c, .fpt s.c 0] [] (.b (x.id == s.id)) []
theorem ok_Tp1 (hm : P.follows .mixedOrders = true) {f : Nat} (low : Low_bung_Top_1 P f) : C_Tp1 P f := by
  intro x s
  refine snd_ic hm low (by simp) ?_
  unfold ic_bung_Top_1
  simp -dsimp -implicitDefEqProofs only [qq, Nat.reduceBEq, reduceIte, Nat.reduceAdd, Nat.reduceSub, Nat.reduceLeDiff, Nat.reduceLT, Nat.reduceMul, Nat.reduceEqDiff, Int.reduceEq, Int.reduceBEq, Int.reduceBNe, Int.reduceLT, Int.reduceLE, Int.reduceGT, Int.reduceGE, Int.reduceNeg, Int.reduceAdd, Int.reduceSub, reduceCtorEq, List.reduceReplicate, ← List.map_take, ← List.map_drop]
  exact Ends.plain rfl rfl rfl

def C_IdxF (P : Program) (f : Nat) : Prop := ∀ (l : List Sag) (g : V) (p : Sag → Bool), l.length ≤ 1000000 → g.bel 0 = true → (∀ x ∈ l, SndC P g [.agg x.c] [] (.b (p x)) []) → Snd P f [.fsl (l.map Sag.c), g] [] (.i .i64 (match l.findIdx? p with | some k => (k : Int) | none => -1)) []
theorem ok_IdxF (hm : P.follows .mixedOrders = true) {f : Nat} (low : Low_slices_IndexFunc_Sapi_Saggar_api_Saggar P f) : C_IdxF P f := by
  intro l g p hl hg hp
  refine snd_ic hm low (by simp) ?_
  unfold ic_slices_IndexFunc_Sapi_Saggar_api_Saggar
  simp -dsimp -implicitDefEqProofs only [qq, Nat.reduceBEq, reduceIte, Nat.reduceAdd, Nat.reduceSub, Nat.reduceLeDiff, Nat.reduceLT, Nat.reduceMul, Nat.reduceEqDiff, Int.reduceEq, Int.reduceBEq, Int.reduceBNe, Int.reduceLT, Int.reduceLE, Int.reduceGT, Int.reduceGE, Int.reduceNeg, Int.reduceAdd, Int.reduceSub, reduceCtorEq, List.reduceReplicate, ← List.map_take, ← List.map_drop]
  refine loopI_st (fun k : Nat => l.length - k) (fun k E H => k ≤ l.length ∧ E = [(0, .fsl (l.map Sag.c)), (1, g), (7, .i .i64 l.length), (8, .i .i64 k)] ∧ H = [] ∧ (l.take k).findIdx? p = none) 0 ⟨by omega, rfl, rfl, by simp⟩ ?_
  rintro k _ _ ⟨hk, rfl, rfl, hn⟩
  rcases Nat.lt_or_ge k l.length with hkl | hkl
  · have hc : decide ((k : Int) < (l.length : Int)) = true := by simpa using hkl
    obtain ⟨x, hx, hxm, htk, hdr⟩ := next_of hkl
    have hwk : IntKind.i64.wrap ((k : Int) + 1) = ((k + 1 : Nat) : Int) := wrap_succ (by omega)
    simp -dsimp -implicitDefEqProofs only [hc, hx, Sag.c, qq, Nat.reduceBEq, reduceIte, Nat.reduceAdd, Nat.reduceSub, Nat.reduceLeDiff, Nat.reduceLT, Nat.reduceMul, Nat.reduceEqDiff, Int.reduceEq, Int.reduceBEq, Int.reduceBNe, Int.reduceLT, Int.reduceLE, Int.reduceGT, Int.reduceGE, Int.reduceNeg, Int.reduceAdd, Int.reduceSub, reduceCtorEq, List.reduceReplicate, ← List.map_take, ← List.map_drop]
    refine callI_pure (hp x hxm) hg rfl ?_
    cases hpx : p x
    · simp -dsimp -implicitDefEqProofs only [hwk, qq, Nat.reduceBEq, reduceIte, Nat.reduceAdd, Nat.reduceSub, Nat.reduceLeDiff, Nat.reduceLT, Nat.reduceMul, Nat.reduceEqDiff, Int.reduceEq, Int.reduceBEq, Int.reduceBNe, Int.reduceLT, Int.reduceLE, Int.reduceGT, Int.reduceGE, Int.reduceNeg, Int.reduceAdd, Int.reduceSub, reduceCtorEq, List.reduceReplicate, ← List.map_take, ← List.map_drop]
      refine ⟨k + 1, by omega, by omega, rfl, ?_⟩
      rw [htk, List.findIdx?_append, hn]; simp [hpx]
    · simp -dsimp -implicitDefEqProofs only [qq, Nat.reduceBEq, reduceIte, Nat.reduceAdd, Nat.reduceSub, Nat.reduceLeDiff, Nat.reduceLT, Nat.reduceMul, Nat.reduceEqDiff, Int.reduceEq, Int.reduceBEq, Int.reduceBNe, Int.reduceLT, Int.reduceLE, Int.reduceGT, Int.reduceGE, Int.reduceNeg, Int.reduceAdd, Int.reduceSub, reduceCtorEq, List.reduceReplicate, ← List.map_take, ← List.map_drop]
      refine Ends.plain rfl rfl ?_
      have : l.findIdx? p = some k := by
        rw [← List.take_append_drop k l, List.findIdx?_append, hn, hdr, List.findIdx?_cons]
        simp [hpx]; omega
      simp only [resV, this]
  · have hc : decide ((k : Int) < (l.length : Int)) = false := by simp; omega
    rw [List.take_of_length_le hkl] at hn
    simp -dsimp -implicitDefEqProofs only [hc, qq, Nat.reduceBEq, reduceIte, Nat.reduceAdd, Nat.reduceSub, Nat.reduceLeDiff, Nat.reduceLT, Nat.reduceMul, Nat.reduceEqDiff, Int.reduceEq, Int.reduceBEq, Int.reduceBNe, Int.reduceLT, Int.reduceLE, Int.reduceGT, Int.reduceGE, Int.reduceNeg, Int.reduceAdd, Int.reduceSub, reduceCtorEq, List.reduceReplicate, ← List.map_take, ← List.map_drop]
    exact Ends.plain rfl rfl (by simp only [resV, hn])
def C_ConF (P : Program) (f : Nat) : Prop := ∀ (l : List Sag) (g : V) (p : Sag → Bool), l.length ≤ 1000000 → g.bel 0 = true → (∀ x ∈ l, SndC P g [.agg x.c] [] (.b (p x)) []) → Snd P f [.fsl (l.map Sag.c), g] [] (.b (l.any p)) []
theorem ok_ConF (hm : P.follows .mixedOrders = true) {f f0 : Nat} (low : Low_slices_ContainsFunc_Sapi_Saggar_api_Saggar P f f0) (h0 : C_IdxF P f0) : C_ConF P f := by
  intro l g p hl hg hp
  refine snd_ic hm low (by simp) ?_
  unfold ic_slices_ContainsFunc_Sapi_Saggar_api_Saggar
  simp -dsimp -implicitDefEqProofs only [qq, Nat.reduceBEq, reduceIte, Nat.reduceAdd, Nat.reduceSub, Nat.reduceLeDiff, Nat.reduceLT, Nat.reduceMul, Nat.reduceEqDiff, Int.reduceEq, Int.reduceBEq, Int.reduceBNe, Int.reduceLT, Int.reduceLE, Int.reduceGT, Int.reduceGE, Int.reduceNeg, Int.reduceAdd, Int.reduceSub, reduceCtorEq, List.reduceReplicate, ← List.map_take, ← List.map_drop]
  refine callI_pure (h0 l g p hl hg hp) rfl (by simp [belL, V.bel, hg]) ?_
  simp -dsimp -implicitDefEqProofs only [qq, Nat.reduceBEq, reduceIte, Nat.reduceAdd, Nat.reduceSub, Nat.reduceLeDiff, Nat.reduceLT, Nat.reduceMul, Nat.reduceEqDiff, Int.reduceEq, Int.reduceBEq, Int.reduceBNe, Int.reduceLT, Int.reduceLE, Int.reduceGT, Int.reduceGE, Int.reduceNeg, Int.reduceAdd, Int.reduceSub, reduceCtorEq, List.reduceReplicate, ← List.map_take, ← List.map_drop]
  refine Ends.plain rfl rfl ?_
  simp only [resV]
  cases h : l.findIdx? p with
  | none =>
    have : l.any p = false := by rw [List.findIdx?_eq_none_iff] at h; simpa using h
    rw [this]; rfl
  | some k =>
    have : l.any p = true := by
      rw [List.findIdx?_eq_some_iff_getElem] at h
      obtain ⟨h1, h2, _⟩ := h
      exact List.any_eq_true.2 ⟨_, List.getElem_mem h1, h2⟩
    rw [this]
    have : decide ((k : Int) ≥ 0) = true := by simp
    rw [this]

end Go.Sh.C3
end
section
namespace Go.Sh.C3
open Go.Sh
set_option maxRecDepth 10000
set_option linter.unusedVariables false
set_option linter.unusedSimpArgs false
variable {P : Program}
theorem newZ_lit {H0 H : List Blk} {k p : Nat} (hH : H = H0 ++ [.row k []]) (hp : p = H0.length) : NewZ H0 H k [] (.rsl p k 0 0 0 true) := by
  subst hH; subst hp
  exact ⟨.inr ⟨_, 0, true, rfl, get_new _ _⟩, by simp, fun p b hb => get_app hb _, fun p k' o l c e he => by simp at he; omega⟩
theorem ownZ_cell {H : List Blk} {k : Nat} {rows : List (List V)} {v : V} (h : OwnZ H k rows v) : v.cells = [v] ∧ v.one = true := by
  rcases h with ⟨_, rfl | rfl⟩ | ⟨p, c, e, rfl, _⟩ <;> exact ⟨rfl, rfl⟩
theorem frz_bung {H : List Blk} {w : Rg} {l : List Sag} {v : V} (h : OwnZ H 8 (l.map Sag.c) v) : Frz 0 H (.agg [.i .i64 w.lo, .i .i64 w.hi, v]) (.agg (bungC w l)) := .agg _ _ rfl fun j x x' e1 e2 => by
  match j with
  | 0 => simp at e1 e2; subst e1 e2; exact .keep _ rfl
  | 1 => simp at e1 e2; subst e1 e2; exact .keep _ rfl
  | 2 => simp at e1 e2; subst e1 e2; exact h.frz (bel_sags _)
  | j + 3 => simp at e1
theorem sag_rows {l : List Sag} : ∀ r ∈ l.map Sag.c, r.length = 8 ∧ r.all V.one = true := fun r hr => by obtain ⟨x, _, rfl⟩ := List.mem_map.1 hr; exact ⟨rfl, rfl⟩
end Go.Sh.C3
end
section
namespace Go.Sh.C3
open Go.Sh
set_option maxRecDepth 10000
set_option linter.unusedVariables false
set_option linter.unusedSimpArgs false
variable {P : Program}
def ic_bung_Swap_s2 (f0 f1 f2 : Nat) : IC := .seq (.reg [⟨some 2, none, .box (.t 0)⟩, ⟨some 4, none, .alloc [.i .i64 (0), .i .i64 (0), .nsl]⟩, ⟨some 5, none, .mov (.c (.i .i64 (0)))⟩] [1, 2, 4]) (.seq (.block 0 (.seq (.reg [⟨some 8, none, .ld (some 3) (.t 2)⟩, ⟨some 9, none, .calv (.c (.fn (.func f0) [] [])) [.t 8]⟩, ⟨some 10, none, .un .not (.t 9)⟩, ⟨some 7, none, .mov (.t 10)⟩] [1, 2, 4, 7]) (.cond (.t 7) (.seq (.reg [⟨some 11, none, .bld [.i .i64 (0), .i .i64 (0), .nsl] []⟩, ⟨none, none, .st 3 (.t 4) (.t 11)⟩, ⟨some 5, none, .mov (.c (.i .i64 (31)))⟩] [4, 5]) (.ret)) (.seq (.reg [⟨some 13, none, .mov (.t 1)⟩, ⟨some 14, none, .fad 2 (.t 2)⟩, ⟨some 15, none, .ld none (.t 14)⟩, ⟨some 16, none, .len false (.t 15)⟩, ⟨some 17, none, .bin .sub (.t 16) (.c (.i .i64 (2)))⟩, ⟨some 18, none, .calv (.c (.fn (.func f1) [] [])) [.t 13, .c (.i .i64 (0)), .t 17]⟩, ⟨some 19, none, .un .not (.t 18)⟩, ⟨some 12, none, .mov (.t 19)⟩] [1, 2, 4, 12]) (.cond (.t 12) (.seq (.reg [⟨some 20, none, .bld [.i .i64 (0), .i .i64 (0), .nsl] []⟩, ⟨none, none, .st 3 (.t 4) (.t 20)⟩, ⟨some 5, none, .mov (.c (.i .i64 (1)))⟩] [4, 5]) (.ret)) (.skip)))))) (.seq (.reg [⟨some 21, none, .fad 2 (.t 2)⟩, ⟨some 22, none, .ld none (.t 21)⟩, ⟨some 23, none, .calv (.c (.fn (.func f2) [] [])) [.t 22]⟩, ⟨some 6, none, .mov (.t 23)⟩] [1, 2, 4, 6]) (.seq (.drg [(0, ⟨some 24, none, .mov (.t 6)⟩), (0, ⟨some 25, none, .mov (.t 1)⟩), (0, ⟨some 26, none, .mov (.t 6)⟩), (0, ⟨some 27, none, .mov (.t 1)⟩), (0, ⟨some 28, none, .bin .add (.t 27) (.c (.i .i64 (1)))⟩), (0, ⟨some 29, none, .mov (.t 6)⟩), (0, ⟨some 30, none, .mov (.t 1)⟩), (0, ⟨some 31, none, .bin .add (.t 30) (.c (.i .i64 (1)))⟩), (0, ⟨some 32, none, .ixs 8 (.t 29) (.t 31)⟩), (0, ⟨some 33, none, .ld (some 8) (.t 32)⟩), (0, ⟨some 34, none, .mov (.t 6)⟩), (0, ⟨some 35, none, .mov (.t 1)⟩), (0, ⟨some 36, none, .ixs 8 (.t 34) (.t 35)⟩), (0, ⟨some 37, none, .ld (some 8) (.t 36)⟩), (0, ⟨some 38, none, .ixs 8 (.t 24) (.t 25)⟩), (3, ⟨none, none, .st 8 (.t 38) (.t 33)⟩), (0, ⟨some 39, none, .ixs 8 (.t 26) (.t 28)⟩), (3, ⟨none, none, .st 8 (.t 39) (.t 37)⟩)] 16 [2, 4, 6]) (.seq (.reg [⟨some 40, none, .fad 0 (.t 2)⟩, ⟨some 41, none, .ld (some 2) (.t 40)⟩, ⟨some 42, none, .mov (.t 6)⟩, ⟨some 43, none, .bld [.i .i64 (0), .i .i64 (0), .nsl] [(0, 2, (.t 41)), (2, 1, (.t 42))]⟩, ⟨none, none, .st 3 (.t 4) (.t 43)⟩, ⟨some 5, none, .mov (.c (.i .i64 (0)))⟩] [4, 5]) (.ret)))))
abbrev Low_bung_Swap_s2 (P : Program) (f f0 f1 f2 : Nat) : Prop := lowF P f 2 = some (44, [.cell 4 (some 3), .tmp 5], (ic_bung_Swap_s2 f0 f1 f2).erase)
def ic_potbankref03_Swap (f0 f1 : Nat) : IC := .seq (.reg [⟨some 2, none, .box (.t 0)⟩, ⟨some 4, none, .alloc [.i .i64 (0), .i .i64 (0), .nsl]⟩, ⟨some 5, none, .mov (.c (.i .i64 (0)))⟩] [1, 2, 4]) (.seq (.seq (.reg [⟨some 7, none, .ld (some 3) (.t 2)⟩, ⟨some 8, none, .calv (.c (.fn (.func f0) [] [])) [.t 7]⟩, ⟨some 9, none, .bin .neq (.t 8) (.c (.i .i64 (0)))⟩] [1, 2, 4, 9]) (.cond (.t 9) (.seq (.reg [⟨some 10, none, .bld [.i .i64 (0), .i .i64 (0), .nsl] []⟩, ⟨none, none, .st 3 (.t 4) (.t 10)⟩, ⟨some 5, none, .mov (.c (.i .i64 (31)))⟩] [4, 5]) (.ret)) (.skip))) (.seq (.seq (.reg [⟨some 11, none, .mov (.t 1)⟩, ⟨some 12, none, .fad 2 (.t 2)⟩, ⟨some 13, none, .ld none (.t 12)⟩, ⟨some 14, none, .len false (.t 13)⟩, ⟨some 15, none, .bin .sub (.t 14) (.c (.i .i64 (2)))⟩, ⟨some 16, none, .calv (.c (.fn (.func f1) [] [])) [.t 11, .c (.i .i64 (0)), .t 15]⟩, ⟨some 17, none, .un .not (.t 16)⟩] [1, 2, 4, 17]) (.cond (.t 17) (.seq (.reg [⟨some 18, none, .bld [.i .i64 (0), .i .i64 (0), .nsl] []⟩, ⟨none, none, .st 3 (.t 4) (.t 18)⟩, ⟨some 5, none, .mov (.c (.i .i64 (1)))⟩] [4, 5]) (.ret)) (.skip))) (.seq (.reg [⟨some 19, none, .bsl false 8 0 [.i .i64 (0), .i .i64 (0), .i .i64 (0), .i .i64 (0), .i .i64 (0), .i .i64 (0), .i .i64 (0), .i .i64 (0)] []⟩, ⟨some 20, none, .fad 2 (.t 2)⟩, ⟨some 21, none, .ld none (.t 20)⟩, ⟨some 22, none, .app 8 64 (.t 19) (.t 21)⟩, ⟨some 6, none, .mov (.t 22)⟩] [1, 2, 4, 6]) (.seq (.reg [⟨some 23, none, .mov (.t 6)⟩, ⟨some 24, none, .mov (.t 1)⟩, ⟨some 25, none, .fad 2 (.t 2)⟩, ⟨some 26, none, .ld none (.t 25)⟩, ⟨some 27, none, .mov (.t 1)⟩, ⟨some 28, none, .bin .add (.t 27) (.c (.i .i64 (1)))⟩, ⟨some 29, none, .ixs 8 (.t 26) (.t 28)⟩, ⟨some 30, none, .ld (some 8) (.t 29)⟩, ⟨some 31, none, .ixs 8 (.t 23) (.t 24)⟩, ⟨none, none, .st 8 (.t 31) (.t 30)⟩] [1, 2, 4, 6]) (.seq (.reg [⟨some 32, none, .mov (.t 6)⟩, ⟨some 33, none, .mov (.t 1)⟩, ⟨some 34, none, .bin .add (.t 33) (.c (.i .i64 (1)))⟩, ⟨some 35, none, .fad 2 (.t 2)⟩, ⟨some 36, none, .ld none (.t 35)⟩, ⟨some 37, none, .mov (.t 1)⟩, ⟨some 38, none, .ixs 8 (.t 36) (.t 37)⟩, ⟨some 39, none, .ld (some 8) (.t 38)⟩, ⟨some 40, none, .ixs 8 (.t 32) (.t 34)⟩, ⟨none, none, .st 8 (.t 40) (.t 39)⟩] [2, 4, 6]) (.seq (.reg [⟨some 41, none, .fad 0 (.t 2)⟩, ⟨some 42, none, .ld (some 2) (.t 41)⟩, ⟨some 43, none, .mov (.t 6)⟩, ⟨some 44, none, .bld [.i .i64 (0), .i .i64 (0), .nsl] [(0, 2, (.t 42)), (2, 1, (.t 43))]⟩, ⟨none, none, .st 3 (.t 4) (.t 44)⟩, ⟨some 5, none, .mov (.c (.i .i64 (0)))⟩] [4, 5]) (.ret)))))))
abbrev Low_potbankref03_Swap (P : Program) (f f0 f1 : Nat) : Prop := lowF P f = some (45, [.cell 4 (some 3), .tmp 5], (ic_potbankref03_Swap f0 f1).erase)

def swapS (l : List Sag) (k : Nat) : List Sag := match l[k]?, l[k + 1]? with | some x, some y => (l.set k y).set (k + 1) x | _, _ => l
def swapE (w : Rg) (l : List Sag) (a : Int) : Int := if bungB w l then (if inR a 0 ((l.length : Int) - 2) then 0 else 1) else 31
def C_Swap (P : Program) (f : Nat) : Prop := ∀ (w : Rg) (l : List Sag) (a : Int), Snd P f [.agg (bungC w l), .i .i64 a] []
  (.tup [.agg (if swapE w l a = 0 then bungC w (swapS l a.toNat) else bungC ⟨0, 0⟩ []), .i .i64 (swapE w l a)]) []
theorem frz_tup_bung {H : List Blk} {w : Rg} {l : List Sag} {v : V} {e : Int} (h : OwnZ H 8 (l.map Sag.c) v) : Frz 0 H (resV [.agg [.i .i64 w.lo, .i .i64 w.hi, v], .i .i64 e]) (.tup [.agg (bungC w l), .i .i64 e]) := frz2 (frz_bung h) (.keep _ rfl)
theorem res_cell45 {H : List Blk} {q : Nat} {x a b c : V} (hg : H[q]? = some (.row 3 [[a, b, c]])) : resIs [(4, .rpt q 3 0 0), (5, x)] H [.cell 4 (some 3), .tmp 5] = some [.agg [a, b, c], x] := by
  simp only [resIs, resI1]
  rw [show get [(4, V.rpt q 3 0 0), (5, x)] 4 = some (.rpt q 3 0 0) from rfl, show get [(4, V.rpt q 3 0 0), (5, x)] 5 = some x from rfl]
  simp only [hg]
  rfl
theorem ok_Swap (hm : P.follows .mixedOrders = true) {f f0 f1 f2 : Nat} (low : Low_bung_Swap_s2 P f f0 f1 f2) (h0 : C_isBung P f0) (h1 : C_within P f1) (h2 : C_CloneG P f2) : C_Swap P f := by
  intro w l a
  have hz : ∀ (H : List Blk) (e : Int), swapE w l a = e → e ≠ 0 → Frz 0 H (resV [.agg [.i .i64 0, .i .i64 0, .nsl], .i .i64 e]) (.tup [.agg (if swapE w l a = 0 then bungC w (swapS l a.toNat) else bungC ⟨0, 0⟩ []), .i .i64 (swapE w l a)]) := fun H e he h0 => by
    rw [he, if_neg h0]; exact frz2 frz_bung0 (.keep _ rfl)
  have h0' := h0 w l
  cases hb : bungB w l
  · rw [hb] at h0'
    refine snd_ic hm low (by simp) ?_
    unfold ic_bung_Swap_s2
    simp -dsimp -implicitDefEqProofs only [qq, Nat.reduceBEq, reduceIte, Nat.reduceAdd, Nat.reduceSub, Nat.reduceLeDiff, Nat.reduceLT, Nat.reduceMul, Nat.reduceEqDiff, Int.reduceEq, Int.reduceBEq, Int.reduceBNe, Int.reduceLT, Int.reduceLE, Int.reduceGT, Int.reduceGE, Int.reduceNeg, Int.reduceAdd, Int.reduceSub, reduceCtorEq, List.reduceReplicate, ← List.map_take, ← List.map_drop]
    refine callI_pure h0' rfl rfl ?_
    simp -dsimp -implicitDefEqProofs only [qq, Nat.reduceBEq, reduceIte, Nat.reduceAdd, Nat.reduceSub, Nat.reduceLeDiff, Nat.reduceLT, Nat.reduceMul, Nat.reduceEqDiff, Int.reduceEq, Int.reduceBEq, Int.reduceBNe, Int.reduceLT, Int.reduceLE, Int.reduceGT, Int.reduceGE, Int.reduceNeg, Int.reduceAdd, Int.reduceSub, reduceCtorEq, List.reduceReplicate, ← List.map_take, ← List.map_drop]
    exact Ends.ret rfl (hz _ 31 (by rw [swapE, hb]; rfl) (by decide))
  rw [hb] at h0'
  have hv := bung_list hb
  have hlen := list_len hv
  have hpos := bung_pos hb
  have hwl : IntKind.i64.wrap ((l.length : Int) - 2) = (l.length : Int) - 2 := wrap_id (by omega) (by omega)
  have h1' := h1 a 0 ((l.length : Int) - 2)
  cases hin : inR a 0 ((l.length : Int) - 2)
  · rw [hin] at h1'
    refine snd_ic hm low (by simp) ?_
    unfold ic_bung_Swap_s2
    simp -dsimp -implicitDefEqProofs only [qq, Nat.reduceBEq, reduceIte, Nat.reduceAdd, Nat.reduceSub, Nat.reduceLeDiff, Nat.reduceLT, Nat.reduceMul, Nat.reduceEqDiff, Int.reduceEq, Int.reduceBEq, Int.reduceBNe, Int.reduceLT, Int.reduceLE, Int.reduceGT, Int.reduceGE, Int.reduceNeg, Int.reduceAdd, Int.reduceSub, reduceCtorEq, List.reduceReplicate, ← List.map_take, ← List.map_drop]
    refine callI_pure h0' rfl rfl ?_
    simp -dsimp -implicitDefEqProofs only [hwl, qq, Nat.reduceBEq, reduceIte, Nat.reduceAdd, Nat.reduceSub, Nat.reduceLeDiff, Nat.reduceLT, Nat.reduceMul, Nat.reduceEqDiff, Int.reduceEq, Int.reduceBEq, Int.reduceBNe, Int.reduceLT, Int.reduceLE, Int.reduceGT, Int.reduceGE, Int.reduceNeg, Int.reduceAdd, Int.reduceSub, reduceCtorEq, List.reduceReplicate, ← List.map_take, ← List.map_drop]
    refine callI_pure h1' rfl rfl ?_
    simp -dsimp -implicitDefEqProofs only [qq, Nat.reduceBEq, reduceIte, Nat.reduceAdd, Nat.reduceSub, Nat.reduceLeDiff, Nat.reduceLT, Nat.reduceMul, Nat.reduceEqDiff, Int.reduceEq, Int.reduceBEq, Int.reduceBNe, Int.reduceLT, Int.reduceLE, Int.reduceGT, Int.reduceGE, Int.reduceNeg, Int.reduceAdd, Int.reduceSub, reduceCtorEq, List.reduceReplicate, ← List.map_take, ← List.map_drop]
    exact Ends.ret rfl (hz _ 1 (by rw [swapE, hb, hin]; rfl) (by decide))
  rw [hin] at h1'
  simp [inR] at hin
  obtain ⟨k, rfl⟩ : ∃ k : Nat, a = k := ⟨a.toNat, by omega⟩
  obtain ⟨x, hx, _, _, _⟩ := next_of (show k < l.length by omega)
  obtain ⟨y, hy, _, _, _⟩ := next_of (show k + 1 < l.length by omega)
  have hwk : IntKind.i64.wrap ((k : Int) + 1) = ((k + 1 : Nat) : Int) := wrap_succ (by omega)
  have hsE : swapE w l k = 0 := by rw [swapE, hb, show inR (k : Int) 0 ((l.length : Int) - 2) = true from by simp [inR]; omega]; rfl
  have hsS : swapS l k = (l.set k y).set (k + 1) x := by rw [swapS, hx, hy]
  obtain ⟨x0, l0, hl0⟩ : ∃ x0 l0, l = x0 :: l0 := by cases l with
    | nil => simp at hpos
    | cons a b => exact ⟨a, b, rfl⟩
  have h2' := fun H => h2 H x0 l0 (by rw [hl0] at hlen; simp at hlen; omega)
  rw [← hl0, show l0.length + 1 = l.length by rw [hl0]; rfl] at h2'
  have z0 : ((0 : Int) ≤ (k : Int)) = True := eq_true (by omega)
  have z1 : ((k : Int) < (l.length : Int)) = True := eq_true (by omega)
  have z2 : (0 : Int) ≤ ((k + 1 : Nat) : Int) := by omega
  have z3 : ((k + 1 : Nat) : Int) < (l.length : Int) := by omega
  have u1 : ((l.map Sag.c).set k y.c)[k + 1]? = some y.c := by rw [List.getElem?_set_ne (by omega), List.getElem?_map, hy]; rfl
  have hfin : ((l.map Sag.c).set k y.c).set (k + 1) x.c = (swapS l k).map Sag.c := by rw [hsS, List.map_set, List.map_set]
  simp only [Sag.c] at u1 hfin
  refine snd_ic hm low (by simp) ?_
  unfold ic_bung_Swap_s2
  simp -dsimp -implicitDefEqProofs only [qq, Nat.reduceBEq, reduceIte, Nat.reduceAdd, Nat.reduceSub, Nat.reduceLeDiff, Nat.reduceLT, Nat.reduceMul, Nat.reduceEqDiff, Int.reduceEq, Int.reduceBEq, Int.reduceBNe, Int.reduceLT, Int.reduceLE, Int.reduceGT, Int.reduceGE, Int.reduceNeg, Int.reduceAdd, Int.reduceSub, reduceCtorEq, List.reduceReplicate, ← List.map_take, ← List.map_drop]
  refine callI_pure h0' rfl rfl ?_
  simp -dsimp -implicitDefEqProofs only [hwl, qq, Nat.reduceBEq, reduceIte, Nat.reduceAdd, Nat.reduceSub, Nat.reduceLeDiff, Nat.reduceLT, Nat.reduceMul, Nat.reduceEqDiff, Int.reduceEq, Int.reduceBEq, Int.reduceBNe, Int.reduceLT, Int.reduceLE, Int.reduceGT, Int.reduceGE, Int.reduceNeg, Int.reduceAdd, Int.reduceSub, reduceCtorEq, List.reduceReplicate, ← List.map_take, ← List.map_drop]
  refine callI_pure h1' rfl rfl ?_
  simp -dsimp -implicitDefEqProofs only [qq, Nat.reduceBEq, reduceIte, Nat.reduceAdd, Nat.reduceSub, Nat.reduceLeDiff, Nat.reduceLT, Nat.reduceMul, Nat.reduceEqDiff, Int.reduceEq, Int.reduceBEq, Int.reduceBNe, Int.reduceLT, Int.reduceLE, Int.reduceGT, Int.reduceGE, Int.reduceNeg, Int.reduceAdd, Int.reduceSub, reduceCtorEq, List.reduceReplicate, ← List.map_take, ← List.map_drop]
  refine callI_by (h2' _) ?_
  simp -dsimp -implicitDefEqProofs only [hwk, z0, z1, z2, z3, hx, hy, Sag.c, u1, qq, Nat.reduceBEq, reduceIte, Nat.reduceAdd, Nat.reduceSub, Nat.reduceLeDiff, Nat.reduceLT, Nat.reduceMul, Nat.reduceEqDiff, Int.reduceEq, Int.reduceBEq, Int.reduceBNe, Int.reduceLT, Int.reduceLE, Int.reduceGT, Int.reduceGE, Int.reduceNeg, Int.reduceAdd, Int.reduceSub, reduceCtorEq, List.reduceReplicate, ← List.map_take, ← List.map_drop]
  rw [hfin, hsE, if_pos rfl]
  exact Ends.ret rfl (frz_tup_bung (.inr ⟨3, l.length, false, by rw [List.length_map, hsS]; simp, rfl⟩))
theorem ok_rSwap (hm : P.follows .mixedOrders = true) {f f0 f1 : Nat} (low : Low_potbankref03_Swap P f f0 f1) (h0 : C_Check P f0) (h1 : C_within P f1) : C_Swap P f := by
  intro w l a
  have hz : ∀ (H : List Blk) (e : Int), swapE w l a = e → e ≠ 0 → Frz 0 H (resV [.agg [.i .i64 0, .i .i64 0, .nsl], .i .i64 e]) (.tup [.agg (if swapE w l a = 0 then bungC w (swapS l a.toNat) else bungC ⟨0, 0⟩ []), .i .i64 (swapE w l a)]) := fun H e he h0 => by
    rw [he, if_neg h0]; exact frz2 frz_bung0 (.keep _ rfl)
  have h0' := h0 w l
  cases hb : bungB w l
  · rw [hb] at h0'
    refine snd_ic hm low (by simp) ?_
    unfold ic_potbankref03_Swap
    simp -dsimp -implicitDefEqProofs only [qq, Nat.reduceBEq, reduceIte, Nat.reduceAdd, Nat.reduceSub, Nat.reduceLeDiff, Nat.reduceLT, Nat.reduceMul, Nat.reduceEqDiff, Int.reduceEq, Int.reduceBEq, Int.reduceBNe, Int.reduceLT, Int.reduceLE, Int.reduceGT, Int.reduceGE, Int.reduceNeg, Int.reduceAdd, Int.reduceSub, reduceCtorEq, List.reduceReplicate, ← List.map_take, ← List.map_drop]
    refine callI_pure h0' rfl rfl ?_
    simp -dsimp -implicitDefEqProofs only [qq, Nat.reduceBEq, reduceIte, Nat.reduceAdd, Nat.reduceSub, Nat.reduceLeDiff, Nat.reduceLT, Nat.reduceMul, Nat.reduceEqDiff, Int.reduceEq, Int.reduceBEq, Int.reduceBNe, Int.reduceLT, Int.reduceLE, Int.reduceGT, Int.reduceGE, Int.reduceNeg, Int.reduceAdd, Int.reduceSub, reduceCtorEq, List.reduceReplicate, ← List.map_take, ← List.map_drop]
    exact Ends.ret rfl (hz _ 31 (by rw [swapE, hb]; rfl) (by decide))
  rw [hb] at h0'
  have hv := bung_list hb
  have hlen := list_len hv
  have hpos := bung_pos hb
  have hwl : IntKind.i64.wrap ((l.length : Int) - 2) = (l.length : Int) - 2 := wrap_id (by omega) (by omega)
  have h1' := h1 a 0 ((l.length : Int) - 2)
  cases hin : inR a 0 ((l.length : Int) - 2)
  · rw [hin] at h1'
    refine snd_ic hm low (by simp) ?_
    unfold ic_potbankref03_Swap
    simp -dsimp -implicitDefEqProofs only [qq, Nat.reduceBEq, reduceIte, Nat.reduceAdd, Nat.reduceSub, Nat.reduceLeDiff, Nat.reduceLT, Nat.reduceMul, Nat.reduceEqDiff, Int.reduceEq, Int.reduceBEq, Int.reduceBNe, Int.reduceLT, Int.reduceLE, Int.reduceGT, Int.reduceGE, Int.reduceNeg, Int.reduceAdd, Int.reduceSub, reduceCtorEq, List.reduceReplicate, ← List.map_take, ← List.map_drop]
    refine callI_pure h0' rfl rfl ?_
    simp -dsimp -implicitDefEqProofs only [hwl, qq, Nat.reduceBEq, reduceIte, Nat.reduceAdd, Nat.reduceSub, Nat.reduceLeDiff, Nat.reduceLT, Nat.reduceMul, Nat.reduceEqDiff, Int.reduceEq, Int.reduceBEq, Int.reduceBNe, Int.reduceLT, Int.reduceLE, Int.reduceGT, Int.reduceGE, Int.reduceNeg, Int.reduceAdd, Int.reduceSub, reduceCtorEq, List.reduceReplicate, ← List.map_take, ← List.map_drop]
    refine callI_pure h1' rfl rfl ?_
    simp -dsimp -implicitDefEqProofs only [qq, Nat.reduceBEq, reduceIte, Nat.reduceAdd, Nat.reduceSub, Nat.reduceLeDiff, Nat.reduceLT, Nat.reduceMul, Nat.reduceEqDiff, Int.reduceEq, Int.reduceBEq, Int.reduceBNe, Int.reduceLT, Int.reduceLE, Int.reduceGT, Int.reduceGE, Int.reduceNeg, Int.reduceAdd, Int.reduceSub, reduceCtorEq, List.reduceReplicate, ← List.map_take, ← List.map_drop]
    exact Ends.ret rfl (hz _ 1 (by rw [swapE, hb, hin]; rfl) (by decide))
  rw [hin] at h1'
  simp [inR] at hin
  obtain ⟨k, rfl⟩ : ∃ k : Nat, a = k := ⟨a.toNat, by omega⟩
  obtain ⟨x, hx, _, _, _⟩ := next_of (show k < l.length by omega)
  obtain ⟨y, hy, _, _, _⟩ := next_of (show k + 1 < l.length by omega)
  have hwk : IntKind.i64.wrap ((k : Int) + 1) = ((k + 1 : Nat) : Int) := wrap_succ (by omega)
  have hsE : swapE w l k = 0 := by rw [swapE, hb, show inR (k : Int) 0 ((l.length : Int) - 2) = true from by simp [inR]; omega]; rfl
  have hsS : swapS l k = (l.set k y).set (k + 1) x := by rw [swapS, hx, hy]
  have z0 : ((0 : Int) ≤ (k : Int)) = True := eq_true (by omega)
  have z1 : ((k : Int) < (l.length : Int)) = True := eq_true (by omega)
  have z2 : (0 : Int) ≤ ((k + 1 : Nat) : Int) := by omega
  have z3 : ((k + 1 : Nat) : Int) < (l.length : Int) := by omega
  have u1 : ((l.map Sag.c).set k y.c)[k + 1]? = some y.c := by rw [List.getElem?_set_ne (by omega), List.getElem?_map, hy]; rfl
  have hfin : ((l.map Sag.c).set k y.c).set (k + 1) x.c = (swapS l k).map Sag.c := by rw [hsS, List.map_set, List.map_set]
  simp only [Sag.c] at u1 hfin
  refine snd_ic hm low (by simp) ?_
  unfold ic_potbankref03_Swap
  simp -dsimp -implicitDefEqProofs only [qq, Nat.reduceBEq, reduceIte, Nat.reduceAdd, Nat.reduceSub, Nat.reduceLeDiff, Nat.reduceLT, Nat.reduceMul, Nat.reduceEqDiff, Int.reduceEq, Int.reduceBEq, Int.reduceBNe, Int.reduceLT, Int.reduceLE, Int.reduceGT, Int.reduceGE, Int.reduceNeg, Int.reduceAdd, Int.reduceSub, reduceCtorEq, List.reduceReplicate, ← List.map_take, ← List.map_drop]
  refine callI_pure h0' rfl rfl ?_
  simp -dsimp -implicitDefEqProofs only [hwl, qq, Nat.reduceBEq, reduceIte, Nat.reduceAdd, Nat.reduceSub, Nat.reduceLeDiff, Nat.reduceLT, Nat.reduceMul, Nat.reduceEqDiff, Int.reduceEq, Int.reduceBEq, Int.reduceBNe, Int.reduceLT, Int.reduceLE, Int.reduceGT, Int.reduceGE, Int.reduceNeg, Int.reduceAdd, Int.reduceSub, reduceCtorEq, List.reduceReplicate, ← List.map_take, ← List.map_drop]
  refine callI_pure h1' rfl rfl ?_
  simp -dsimp -implicitDefEqProofs only [qq, Nat.reduceBEq, reduceIte, Nat.reduceAdd, Nat.reduceSub, Nat.reduceLeDiff, Nat.reduceLT, Nat.reduceMul, Nat.reduceEqDiff, Int.reduceEq, Int.reduceBEq, Int.reduceBNe, Int.reduceLT, Int.reduceLE, Int.reduceGT, Int.reduceGE, Int.reduceNeg, Int.reduceAdd, Int.reduceSub, reduceCtorEq, List.reduceReplicate, ← List.map_take, ← List.map_drop]
  refine app_newZ (ys := l.map Sag.c) (newZ_lit (H0 := [.row 3 [bungC w l], .row 3 [[.i .i64 0, .i .i64 0, .nsl]]]) rfl rfl) (by decide) (by decide) rfl sag_rows (by simp; omega) fun v1 H1 hn1 => ?_
  rw [List.nil_append] at hn1
  obtain ⟨p, c, e, hv1, hp⟩ := hn1.own.pos (by intro h; have h2 := congrArg List.length h; rw [List.length_map, List.length_nil] at h2; omega)
  subst hv1
  rw [List.length_map]
  have hfr := hn1.fresh _ _ _ _ _ _ rfl
  simp only [List.length_cons, List.length_nil] at hfr
  have k0 := hn1.keep 0 _ rfl
  have k1 := hn1.keep 1 _ rfl
  have u2 : ∀ b, (H1.set p b)[p]? = some b := fun b => get_setsame hp
  have u3 : ∀ b, (H1.set p b)[0]? = some (.row 3 [bungC w l]) := fun b => get_setne k0 (by omega)
  have u4 : ∀ b, (H1.set p b)[1]? = some (.row 3 [[.i .i64 0, .i .i64 0, .nsl]]) := fun b => get_setne k1 (by omega)
  simp -dsimp -implicitDefEqProofs only [hwk, z0, z1, z2, z3, hx, hy, Sag.c, u1, u2, u3, u4, hp, k0, k1, List.set_set, qq, Nat.reduceBEq, reduceIte, Nat.reduceAdd, Nat.reduceSub, Nat.reduceLeDiff, Nat.reduceLT, Nat.reduceMul, Nat.reduceEqDiff, Int.reduceEq, Int.reduceBEq, Int.reduceBNe, Int.reduceLT, Int.reduceLE, Int.reduceGT, Int.reduceGE, Int.reduceNeg, Int.reduceAdd, Int.reduceSub, reduceCtorEq, List.reduceReplicate, ← List.map_take, ← List.map_drop]
  rw [hfin, hsE, if_pos rfl]
  have g1 := get_setsame (b' := .row 3 [[.i .i64 w.lo, .i .i64 w.hi, .rsl p 8 0 l.length c e]]) (u4 (.row 8 ((swapS l k).map Sag.c)))
  have gp : ((H1.set p (.row 8 ((swapS l k).map Sag.c))).set 1 (.row 3 [[.i .i64 w.lo, .i .i64 w.hi, .rsl p 8 0 l.length c e]]))[p]? = some (.row 8 ((swapS l k).map Sag.c)) := get_setne (u2 _) (by omega)
  exact Ends.ret (res_cell45 g1) (frz_tup_bung (.inr ⟨p, c, e, by rw [List.length_map, hsS]; simp, gp⟩))
end Go.Sh.C3
end
section
namespace Go.Sh.C3
open Go.Sh
set_option maxRecDepth 10000
set_option linter.unusedVariables false
set_option linter.unusedSimpArgs false
variable {P : Program}
def ic_potbankref01_Has : IC := .seq (.reg [⟨some 4, none, .mov (.c (.b false))⟩] [0, 1]) (.seq (.seq (.reg [⟨some 5, none, .mov (.c (.i .i64 (0)))⟩] [0, 1, 5]) (.block 0 (.loop (.seq (.seq (.reg [⟨some 6, none, .mov (.t 5)⟩, ⟨some 7, none, .mov (.t 0)⟩, ⟨some 8, none, .len false (.t 7)⟩, ⟨some 9, none, .bin .lss (.t 6) (.t 8)⟩] [0, 1, 5, 9]) (.cond (.t 9) (.skip) (.exit 0))) (.seq (.block 1 (.seq (.reg [⟨some 12, none, .mov (.t 0)⟩, ⟨some 13, none, .mov (.t 5)⟩, ⟨some 14, none, .ixs 1 (.t 12) (.t 13)⟩, ⟨some 15, none, .ld none (.t 14)⟩, ⟨some 16, none, .mov (.t 1)⟩, ⟨some 17, none, .bin .eql (.t 15) (.t 16)⟩] [0, 1, 5, 17]) (.cond (.t 17) (.seq (.reg [⟨some 4, none, .mov (.c (.b true))⟩] [4]) (.ret)) (.skip)))) (.reg [⟨some 10, none, .mov (.t 5)⟩, ⟨some 11, none, .bin .add (.t 10) (.c (.i .i64 (1)))⟩, ⟨some 5, none, .mov (.t 11)⟩] [0, 1, 5])))))) (.seq (.reg [⟨some 4, none, .mov (.c (.b false))⟩] [4]) (.ret)))
abbrev Low_potbankref01_Has (P : Program) (f : Nat) : Prop := lowF P f = some (18, [.tmp 4], (ic_potbankref01_Has).erase)

def C_Has (P : Program) (f : Nat) : Prop := ∀ (l : List Int) (n : Int), l.length ≤ 1000000000000000 → Snd P f [.fsl (l.map intC), .i .i64 n] [] (.b (decide (n ∈ l))) []
theorem ok_Has (hm : P.follows .mixedOrders = true) {f : Nat} (low : Low_potbankref01_Has P f) : C_Has P f := by
  intro l n hl
  refine snd_ic hm low (by simp) ?_
  unfold ic_potbankref01_Has
  simp -dsimp -implicitDefEqProofs only [qq, Nat.reduceBEq, reduceIte, Nat.reduceAdd, Nat.reduceSub, Nat.reduceLeDiff, Nat.reduceLT, Nat.reduceMul, Nat.reduceEqDiff, Int.reduceEq, Int.reduceBEq, Int.reduceBNe, Int.reduceLT, Int.reduceLE, Int.reduceGT, Int.reduceGE, Int.reduceNeg, Int.reduceAdd, Int.reduceSub, reduceCtorEq, List.reduceReplicate, ← List.map_take, ← List.map_drop]
  refine loopI_st (fun k : Nat => l.length - k) (fun k E H => k ≤ l.length ∧ E = [(0, .fsl (l.map intC)), (1, .i .i64 n), (5, .i .i64 k)] ∧ (∀ x ∈ l.take k, x ≠ n)) 0 ⟨by omega, rfl, by simp⟩ ?_
  rintro k _ H ⟨hk, rfl, hn⟩
  rcases Nat.lt_or_ge k l.length with hkl | hkl
  · have hc : decide ((k : Int) < (l.length : Int)) = true := by simpa using hkl
    obtain ⟨x, hx, hxm, htk, _⟩ := next_of hkl
    have hwk : IntKind.i64.wrap ((k : Int) + 1) = ((k + 1 : Nat) : Int) := wrap_succ (by omega)
    simp -dsimp -implicitDefEqProofs only [hc, hx, intC, qq, Nat.reduceBEq, reduceIte, Nat.reduceAdd, Nat.reduceSub, Nat.reduceLeDiff, Nat.reduceLT, Nat.reduceMul, Nat.reduceEqDiff, Int.reduceEq, Int.reduceBEq, Int.reduceBNe, Int.reduceLT, Int.reduceLE, Int.reduceGT, Int.reduceGE, Int.reduceNeg, Int.reduceAdd, Int.reduceSub, reduceCtorEq, List.reduceReplicate, ← List.map_take, ← List.map_drop]
    refine brG_of (fun he => ?_) (fun he => ?_)
    · simp -dsimp -implicitDefEqProofs only [qq, Nat.reduceBEq, reduceIte, Nat.reduceAdd, Nat.reduceSub, Nat.reduceLeDiff, Nat.reduceLT, Nat.reduceMul, Nat.reduceEqDiff, Int.reduceEq, Int.reduceBEq, Int.reduceBNe, Int.reduceLT, Int.reduceLE, Int.reduceGT, Int.reduceGE, Int.reduceNeg, Int.reduceAdd, Int.reduceSub, reduceCtorEq, List.reduceReplicate, ← List.map_take, ← List.map_drop]
      refine Ends.plain rfl rfl ?_
      have : n ∈ l := by simp at he; rw [← he]; exact hxm
      simp [resV, this]
    · simp -dsimp -implicitDefEqProofs only [hwk, qq, Nat.reduceBEq, reduceIte, Nat.reduceAdd, Nat.reduceSub, Nat.reduceLeDiff, Nat.reduceLT, Nat.reduceMul, Nat.reduceEqDiff, Int.reduceEq, Int.reduceBEq, Int.reduceBNe, Int.reduceLT, Int.reduceLE, Int.reduceGT, Int.reduceGE, Int.reduceNeg, Int.reduceAdd, Int.reduceSub, reduceCtorEq, List.reduceReplicate, ← List.map_take, ← List.map_drop]
      refine ⟨k + 1, by omega, by omega, rfl, fun y hy => ?_⟩
      rw [htk] at hy
      rcases List.mem_append.1 hy with h | h
      · exact hn y h
      · simp at h; subst h; simpa using he
  · have hc : decide ((k : Int) < (l.length : Int)) = false := by simp; omega
    rw [List.take_of_length_le hkl] at hn
    simp -dsimp -implicitDefEqProofs only [hc, qq, Nat.reduceBEq, reduceIte, Nat.reduceAdd, Nat.reduceSub, Nat.reduceLeDiff, Nat.reduceLT, Nat.reduceMul, Nat.reduceEqDiff, Int.reduceEq, Int.reduceBEq, Int.reduceBNe, Int.reduceLT, Int.reduceLE, Int.reduceGT, Int.reduceGE, Int.reduceNeg, Int.reduceAdd, Int.reduceSub, reduceCtorEq, List.reduceReplicate, ← List.map_take, ← List.map_drop]
    exact Ends.plain rfl rfl (by have : n ∉ l := fun h => hn n h rfl; simp [resV, this])

end Go.Sh.C3
end
section
namespace Go.Sh.C3
open Go.Sh
set_option maxRecDepth 10000
set_option linter.unusedVariables false
set_option linter.unusedSimpArgs false
variable {P : Program}
end Go.Sh.C3
end
section
namespace Go.Sh.C3
open Go.Sh
set_option maxRecDepth 10000
set_option linter.unusedVariables false
set_option linter.unusedSimpArgs false
variable {P : Program}
end Go.Sh.C3
end
section
namespace Go.Sh.C3
open Go.Sh
set_option maxRecDepth 10000
set_option linter.unusedVariables false
set_option linter.unusedSimpArgs false
variable {P : Program}
def ic_bung_Top_s1 (f0 f1 f2 f3 f4 : Nat) : IC := .seq (.reg [⟨some 2, none, .box (.t 0)⟩, ⟨some 3, none, .box (.t 1)⟩, ⟨some 4, none, .alloc [.i .i64 (0), .i .i64 (0), .nsl]⟩, ⟨some 5, none, .mov (.c (.i .i64 (0)))⟩] [2, 3, 4]) (.seq (.block 0 (.seq (.reg [⟨some 7, none, .ld (some 3) (.t 2)⟩, ⟨some 8, none, .calv (.c (.fn (.func f0) [] [])) [.t 7]⟩, ⟨some 9, none, .un .not (.t 8)⟩, ⟨some 6, none, .mov (.t 9)⟩] [2, 3, 4, 6]) (.cond (.t 6) (.seq (.reg [⟨some 10, none, .bld [.i .i64 (0), .i .i64 (0), .nsl] []⟩, ⟨none, none, .st 3 (.t 4) (.t 10)⟩, ⟨some 5, none, .mov (.c (.i .i64 (31)))⟩] [4, 5]) (.ret)) (.seq (.reg [⟨some 12, none, .ld (some 8) (.t 3)⟩, ⟨some 13, none, .calv (.c (.fn (.func f1) [] [])) [.t 12]⟩, ⟨some 14, none, .un .not (.t 13)⟩, ⟨some 11, none, .mov (.t 14)⟩] [2, 3, 4, 11]) (.cond (.t 11) (.seq (.reg [⟨some 15, none, .bld [.i .i64 (0), .i .i64 (0), .nsl] []⟩, ⟨none, none, .st 3 (.t 4) (.t 15)⟩, ⟨some 5, none, .mov (.c (.i .i64 (30)))⟩] [4, 5]) (.ret)) (.seq (.reg [⟨some 17, none, .fad 2 (.t 2)⟩, ⟨some 18, none, .ld none (.t 17)⟩, ⟨some 19, none, .len false (.t 18)⟩, ⟨some 20, none, .bin .eql (.t 19) (.c (.i .i64 (30)))⟩, ⟨some 16, none, .mov (.t 20)⟩] [2, 3, 4, 16]) (.cond (.t 16) (.seq (.reg [⟨some 21, none, .bld [.i .i64 (0), .i .i64 (0), .nsl] []⟩, ⟨none, none, .st 3 (.t 4) (.t 21)⟩, ⟨some 5, none, .mov (.c (.i .i64 (2)))⟩] [4, 5]) (.ret)) (.seq (.reg [⟨some 23, none, .fad 2 (.t 2)⟩, ⟨some 24, none, .ld none (.t 23)⟩, ⟨some 25, none, .mkf (.func f2) [] [.t 3]⟩, ⟨some 26, none, .calv (.c (.fn (.func f3) [] [])) [.t 24, .t 25]⟩, ⟨some 22, none, .mov (.t 26)⟩] [2, 3, 4, 22]) (.cond (.t 22) (.seq (.reg [⟨some 27, none, .bld [.i .i64 (0), .i .i64 (0), .nsl] []⟩, ⟨none, none, .st 3 (.t 4) (.t 27)⟩, ⟨some 5, none, .mov (.c (.i .i64 (30)))⟩] [4, 5]) (.ret)) (.skip)))))))))) (.seq (.drg [(0, ⟨some 28, none, .fad 0 (.t 2)⟩), (0, ⟨some 29, none, .ld (some 2) (.t 28)⟩), (0, ⟨some 30, none, .fad 2 (.t 2)⟩), (0, ⟨some 31, none, .ld none (.t 30)⟩), (1, ⟨some 32, none, .calv (.c (.fn (.func f4) [] [])) [.t 31]⟩), (0, ⟨some 33, none, .ld (some 8) (.t 3)⟩), (0, ⟨some 34, none, .bsl true 8 1 [.i .i64 (0), .i .i64 (0), .i .i64 (0), .i .i64 (0), .i .i64 (0), .i .i64 (0), .i .i64 (0), .i .i64 (0)] [(0, (.t 33))]⟩), (1, ⟨some 35, none, .app 8 64 (.t 32) (.t 34)⟩), (0, ⟨some 36, none, .bld [.i .i64 (0), .i .i64 (0), .nsl] [(0, 2, (.t 29)), (2, 1, (.t 35))]⟩), (1, ⟨none, none, .st 3 (.t 4) (.t 36)⟩), (0, ⟨some 5, none, .mov (.c (.i .i64 (0)))⟩)] 8 [4, 5]) (.ret)))
abbrev Low_bung_Top_s1 (P : Program) (f f0 f1 f2 f3 f4 : Nat) : Prop := lowF P f 1 = some (37, [.cell 4 (some 3), .tmp 5], (ic_bung_Top_s1 f0 f1 f2 f3 f4).erase)
def ic_potbankref03_Top (f0 f1 f2 : Nat) : IC := .seq (.reg [⟨some 2, none, .box (.t 0)⟩, ⟨some 3, none, .box (.t 1)⟩, ⟨some 4, none, .alloc [.i .i64 (0), .i .i64 (0), .nsl]⟩, ⟨some 5, none, .mov (.c (.i .i64 (0)))⟩] [2, 3, 4]) (.seq (.seq (.reg [⟨some 6, none, .ld (some 3) (.t 2)⟩, ⟨some 7, none, .calv (.c (.fn (.func f0) [] [])) [.t 6]⟩, ⟨some 8, none, .bin .neq (.t 7) (.c (.i .i64 (0)))⟩] [2, 3, 4, 8]) (.cond (.t 8) (.seq (.reg [⟨some 9, none, .bld [.i .i64 (0), .i .i64 (0), .nsl] []⟩, ⟨none, none, .st 3 (.t 4) (.t 9)⟩, ⟨some 5, none, .mov (.c (.i .i64 (31)))⟩] [4, 5]) (.ret)) (.skip))) (.seq (.seq (.reg [⟨some 10, none, .ld (some 8) (.t 3)⟩, ⟨some 11, none, .calv (.c (.fn (.func f1) [] [])) [.t 10]⟩, ⟨some 12, none, .bin .neq (.t 11) (.c (.i .i64 (0)))⟩] [2, 3, 4, 12]) (.cond (.t 12) (.seq (.reg [⟨some 13, none, .bld [.i .i64 (0), .i .i64 (0), .nsl] []⟩, ⟨none, none, .st 3 (.t 4) (.t 13)⟩, ⟨some 5, none, .mov (.c (.i .i64 (30)))⟩] [4, 5]) (.ret)) (.skip))) (.seq (.seq (.reg [⟨some 14, none, .fad 2 (.t 2)⟩, ⟨some 15, none, .ld none (.t 14)⟩, ⟨some 16, none, .len false (.t 15)⟩, ⟨some 17, none, .bin .eql (.t 16) (.c (.i .i64 (30)))⟩] [2, 3, 4, 17]) (.cond (.t 17) (.seq (.reg [⟨some 18, none, .bld [.i .i64 (0), .i .i64 (0), .nsl] []⟩, ⟨none, none, .st 3 (.t 4) (.t 18)⟩, ⟨some 5, none, .mov (.c (.i .i64 (2)))⟩] [4, 5]) (.ret)) (.skip))) (.seq (.seq (.reg [⟨some 19, none, .fad 2 (.t 2)⟩, ⟨some 20, none, .ld none (.t 19)⟩, ⟨some 21, none, .fad 0 (.t 3)⟩, ⟨some 22, none, .ld none (.t 21)⟩, ⟨some 23, none, .calv (.c (.fn (.func f2) [] [])) [.t 20, .t 22]⟩] [2, 3, 4, 23]) (.cond (.t 23) (.seq (.reg [⟨some 24, none, .bld [.i .i64 (0), .i .i64 (0), .nsl] []⟩, ⟨none, none, .st 3 (.t 4) (.t 24)⟩, ⟨some 5, none, .mov (.c (.i .i64 (30)))⟩] [4, 5]) (.ret)) (.skip))) (.seq (.drg [(0, ⟨some 25, none, .fad 0 (.t 2)⟩), (0, ⟨some 26, none, .ld (some 2) (.t 25)⟩), (0, ⟨some 27, none, .bsl true 8 0 [.i .i64 (0), .i .i64 (0), .i .i64 (0), .i .i64 (0), .i .i64 (0), .i .i64 (0), .i .i64 (0), .i .i64 (0)] []⟩), (0, ⟨some 28, none, .fad 2 (.t 2)⟩), (0, ⟨some 29, none, .ld none (.t 28)⟩), (1, ⟨some 30, none, .app 8 64 (.t 27) (.t 29)⟩), (0, ⟨some 31, none, .ld (some 8) (.t 3)⟩), (0, ⟨some 32, none, .bsl true 8 1 [.i .i64 (0), .i .i64 (0), .i .i64 (0), .i .i64 (0), .i .i64 (0), .i .i64 (0), .i .i64 (0), .i .i64 (0)] [(0, (.t 31))]⟩), (1, ⟨some 33, none, .app 8 64 (.t 30) (.t 32)⟩), (0, ⟨some 34, none, .bld [.i .i64 (0), .i .i64 (0), .nsl] [(0, 2, (.t 26)), (2, 1, (.t 33))]⟩), (1, ⟨none, none, .st 3 (.t 4) (.t 34)⟩), (0, ⟨some 5, none, .mov (.c (.i .i64 (0)))⟩)] 9 [4, 5]) (.ret))))))
abbrev Low_potbankref03_Top (P : Program) (f f0 f1 f2 : Nat) : Prop := lowF P f = some (35, [.cell 4 (some 3), .tmp 5], (ic_potbankref03_Top f0 f1 f2).erase)
def ic_potbankref03_Set (f0 f1 f2 f3 f4 : Nat) : IC := .seq (.reg [⟨some 2, none, .box (.t 0)⟩, ⟨some 4, none, .alloc [.i .i64 (0), .i .i64 (0), .nsl]⟩, ⟨some 5, none, .mov (.c (.i .i64 (0)))⟩] [1, 2, 4]) (.seq (.seq (.reg [⟨some 7, none, .fad 0 (.t 2)⟩, ⟨some 8, none, .ld (some 2) (.t 7)⟩, ⟨some 9, none, .calv (.c (.fn (.func f0) [] [])) [.t 8]⟩, ⟨some 10, none, .un .not (.t 9)⟩] [1, 2, 4, 10]) (.cond (.t 10) (.seq (.reg [⟨some 11, none, .bld [.i .i64 (0), .i .i64 (0), .nsl] []⟩, ⟨none, none, .st 3 (.t 4) (.t 11)⟩, ⟨some 5, none, .mov (.c (.i .i64 (32)))⟩] [4, 5]) (.ret)) (.skip))) (.seq (.seq (.reg [⟨some 12, none, .mov (.t 1)⟩, ⟨some 13, none, .calv (.c (.fn (.func f1) [] [])) [.t 12]⟩, ⟨some 14, none, .bin .neq (.t 13) (.c (.i .i64 (0)))⟩] [1, 2, 4, 14]) (.cond (.t 14) (.seq (.reg [⟨some 15, none, .bld [.i .i64 (0), .i .i64 (0), .nsl] []⟩, ⟨none, none, .st 3 (.t 4) (.t 15)⟩, ⟨some 5, none, .mov (.c (.i .i64 (30)))⟩] [4, 5]) (.ret)) (.skip))) (.seq (.seq (.reg [⟨some 6, none, .mov (.c (.i .i64 (0)))⟩] [1, 2, 4, 6]) (.block 0 (.loop (.seq (.seq (.reg [⟨some 16, none, .mov (.t 6)⟩, ⟨some 17, none, .fad 2 (.t 2)⟩, ⟨some 18, none, .ld none (.t 17)⟩, ⟨some 19, none, .len false (.t 18)⟩, ⟨some 20, none, .bin .lss (.t 16) (.t 19)⟩] [1, 2, 4, 6, 20]) (.cond (.t 20) (.skip) (.exit 0))) (.seq (.block 1 (.seq (.drg [(0, ⟨some 23, none, .fad 2 (.t 2)⟩), (0, ⟨some 24, none, .ld none (.t 23)⟩), (0, ⟨some 25, none, .mov (.t 6)⟩), (0, ⟨some 26, none, .ixs 1 (.t 24) (.t 25)⟩), (0, ⟨some 27, none, .ld none (.t 26)⟩), (0, ⟨some 28, none, .mov (.t 1)⟩), (0, ⟨some 29, none, .len false (.t 28)⟩), (0, ⟨some 30, none, .bin .sub (.t 29) (.c (.i .i64 (1)))⟩), (0, ⟨some 31, none, .calv (.c (.fn (.func f2) [] [])) [.t 27, .c (.i .i64 (0)), .t 30]⟩), (0, ⟨some 32, none, .un .not (.t 31)⟩), (0, ⟨some 33, none, .mov (.t 32)⟩), (0, ⟨some 34, some (33, false), .fad 2 (.t 2)⟩), (0, ⟨some 35, some (33, false), .ld none (.t 34)⟩), (0, ⟨some 36, some (33, false), .mov (.t 6)⟩), (0, ⟨some 37, some (33, false), .slc 1 (.t 35) none (some (.t 36)) none⟩), (0, ⟨some 38, some (33, false), .fad 2 (.t 2)⟩), (0, ⟨some 39, some (33, false), .ld none (.t 38)⟩), (0, ⟨some 40, some (33, false), .mov (.t 6)⟩), (0, ⟨some 41, some (33, false), .ixs 1 (.t 39) (.t 40)⟩), (0, ⟨some 42, some (33, false), .ld none (.t 41)⟩), (0, ⟨some 43, some (33, false), .calv (.c (.fn (.func f3) [] [])) [.t 37, .t 42]⟩), (0, ⟨some 44, none, .pick (.t 33) (.c (.b true)) (.t 43)⟩)] 20 [1, 2, 4, 6, 44]) (.cond (.t 44) (.seq (.reg [⟨some 45, none, .bld [.i .i64 (0), .i .i64 (0), .nsl] []⟩, ⟨none, none, .st 3 (.t 4) (.t 45)⟩, ⟨some 5, none, .mov (.c (.i .i64 (1)))⟩] [4, 5]) (.ret)) (.skip)))) (.reg [⟨some 21, none, .mov (.t 6)⟩, ⟨some 22, none, .bin .add (.t 21) (.c (.i .i64 (1)))⟩, ⟨some 6, none, .mov (.t 22)⟩] [1, 2, 4, 6])))))) (.seq (.seq (.reg [⟨some 46, none, .fad 2 (.t 2)⟩, ⟨some 47, none, .ld none (.t 46)⟩, ⟨some 48, none, .len false (.t 47)⟩, ⟨some 49, none, .bin .eql (.t 48) (.c (.i .i64 (0)))⟩] [1, 2, 4, 49]) (.cond (.t 49) (.seq (.reg [⟨some 50, none, .bld [.i .i64 (0), .i .i64 (0), .nsl] []⟩, ⟨none, none, .st 3 (.t 4) (.t 50)⟩, ⟨some 5, none, .mov (.c (.i .i64 (1)))⟩] [4, 5]) (.ret)) (.skip))) (.seq (.drg [(0, ⟨some 51, none, .fad 0 (.t 2)⟩), (0, ⟨some 52, none, .ld (some 2) (.t 51)⟩), (0, ⟨some 53, none, .mov (.t 1)⟩), (0, ⟨some 54, none, .fad 2 (.t 2)⟩), (0, ⟨some 55, none, .ld none (.t 54)⟩), (0, ⟨some 56, none, .calv (.c (.fn (.func f4) [] [])) [.t 53, .t 55]⟩), (0, ⟨some 57, none, .bld [.i .i64 (0), .i .i64 (0), .nsl] [(0, 2, (.t 52)), (2, 1, (.t 56))]⟩), (1, ⟨none, none, .st 3 (.t 4) (.t 57)⟩), (0, ⟨some 5, none, .mov (.c (.i .i64 (0)))⟩)] 6 [4, 5]) (.ret))))))
abbrev Low_potbankref03_Set (P : Program) (f f0 f1 f2 f3 f4 : Nat) : Prop := lowF P f = some (58, [.cell 4 (some 3), .tmp 5], (ic_potbankref03_Set f0 f1 f2 f3 f4).erase)
def ic_potbankref03_SameBung (f0 : Nat) : IC := .seq (.reg [⟨some 2, none, .box (.t 0)⟩, ⟨some 3, none, .box (.t 1)⟩, ⟨some 4, none, .mov (.c (.b false))⟩] [2, 3]) (.seq (.reg [⟨some 6, none, .fad 2 (.t 2)⟩, ⟨some 7, none, .ld none (.t 6)⟩, ⟨some 8, none, .fad 2 (.t 3)⟩, ⟨some 9, none, .ld none (.t 8)⟩, ⟨some 10, none, .calv (.c (.fn (.func f0) [] [])) [.t 7, .t 9]⟩, ⟨some 5, none, .mov (.t 10)⟩] [2, 3, 5]) (.seq (.reg [⟨some 11, none, .mov (.t 5)⟩, ⟨some 12, none, .mov (.t 11)⟩, ⟨some 13, some (12, true), .fad 0 (.t 2)⟩, ⟨some 14, some (12, true), .ld (some 2) (.t 13)⟩, ⟨some 15, some (12, true), .fad 0 (.t 3)⟩, ⟨some 16, some (12, true), .ld (some 2) (.t 15)⟩, ⟨some 17, some (12, true), .eqs false [(0, 0), (1, 0)] (.t 14) (.t 16)⟩, ⟨some 18, none, .pick (.t 12) (.t 17) (.c (.b false))⟩, ⟨some 4, none, .mov (.t 18)⟩] [4]) (.ret)))
abbrev Low_potbankref03_SameBung (P : Program) (f f0 : Nat) : Prop := lowF P f = some (19, [.tmp 4], (ic_potbankref03_SameBung f0).erase)
def ic_potbankref03_SameList : IC := .seq (.reg [⟨some 4, none, .mov (.c (.b false))⟩] [0, 1]) (.seq (.reg [⟨some 7, none, .mov (.t 0)⟩, ⟨some 8, none, .len false (.t 7)⟩, ⟨some 9, none, .mov (.t 1)⟩, ⟨some 10, none, .len false (.t 9)⟩, ⟨some 11, none, .bin .eql (.t 8) (.t 10)⟩, ⟨some 5, none, .mov (.t 11)⟩] [0, 1, 5]) (.seq (.seq (.reg [⟨some 6, none, .mov (.c (.i .i64 (0)))⟩] [0, 1, 5, 6]) (.block 0 (.loop (.seq (.seq (.reg [⟨some 12, none, .mov (.t 6)⟩, ⟨some 13, none, .mov (.t 0)⟩, ⟨some 14, none, .len false (.t 13)⟩, ⟨some 15, none, .bin .lss (.t 12) (.t 14)⟩, ⟨some 16, none, .mov (.t 15)⟩, ⟨some 17, some (16, true), .mov (.t 5)⟩, ⟨some 18, none, .pick (.t 16) (.t 17) (.c (.b false))⟩] [0, 1, 5, 6, 18]) (.cond (.t 18) (.skip) (.exit 0))) (.seq (.block 1 (.drg [(0, ⟨some 21, none, .mov (.t 0)⟩), (0, ⟨some 22, none, .mov (.t 6)⟩), (0, ⟨some 23, none, .ixs 8 (.t 21) (.t 22)⟩), (0, ⟨some 24, none, .ld (some 8) (.t 23)⟩), (0, ⟨some 25, none, .mov (.t 1)⟩), (0, ⟨some 26, none, .mov (.t 6)⟩), (0, ⟨some 27, none, .ixs 8 (.t 25) (.t 26)⟩), (0, ⟨some 28, none, .ld (some 8) (.t 27)⟩), (0, ⟨some 29, none, .eqs false [(0, 0), (1, 0), (2, 0), (3, 0), (4, 0), (5, 0), (6, 0), (7, 0)] (.t 24) (.t 28)⟩), (0, ⟨some 5, none, .mov (.t 29)⟩)] 8 [0, 1, 5, 6])) (.reg [⟨some 19, none, .mov (.t 6)⟩, ⟨some 20, none, .bin .add (.t 19) (.c (.i .i64 (1)))⟩, ⟨some 6, none, .mov (.t 20)⟩] [0, 1, 5, 6])))))) (.seq (.reg [⟨some 30, none, .mov (.t 5)⟩, ⟨some 4, none, .mov (.t 30)⟩] [4]) (.ret))))
abbrev Low_potbankref03_SameList (P : Program) (f : Nat) : Prop := lowF P f = some (31, [.tmp 4], (ic_potbankref03_SameList).erase)
def ic_potbanklaw03_BungSets (f0 f1 f2 f3 f4 f5 f6 f7 : Nat) : IC := .seq (.reg [⟨some 3, none, .box (.t 0)⟩, ⟨some 5, none, .box (.t 2)⟩, ⟨some 6, none, .mov (.c (.b false))⟩] [1, 3, 5]) (.seq (.reg [⟨some 23, none, .calv (.c (.fn (.func f0) [] [])) []⟩, ⟨some 7, none, .mov (.t 23)⟩] [1, 3, 5, 7]) (.seq (.reg [⟨some 25, none, .fad 0 (.t 3)⟩, ⟨some 26, none, .ld (some 2) (.t 25)⟩, ⟨some 27, none, .mov (.t 1)⟩, ⟨some 28, none, .fad 2 (.t 3)⟩, ⟨some 29, none, .ld none (.t 28)⟩, ⟨some 30, none, .calv (.c (.fn (.func f1) [] [])) [.t 26, .t 27, .t 29]⟩, ⟨some 24, none, .mov (.t 30)⟩, ⟨some 31, none, .ext (.t 24) 0⟩, ⟨some 32, none, .ext (.t 24) 1⟩, ⟨some 8, none, .alloc [.i .i64 (0), .i .i64 (0), .nsl]⟩, ⟨none, none, .st 3 (.t 8) (.t 31)⟩, ⟨some 9, none, .mov (.t 32)⟩] [1, 3, 5, 7, 8, 9]) (.seq (.reg [⟨some 34, none, .ld (some 3) (.t 3)⟩, ⟨some 35, none, .mov (.t 1)⟩, ⟨some 36, none, .calv (.c (.fn (.func f2) [] [])) [.t 34, .t 35]⟩, ⟨some 33, none, .mov (.t 36)⟩, ⟨some 37, none, .ext (.t 33) 0⟩, ⟨some 38, none, .ext (.t 33) 1⟩, ⟨some 10, none, .alloc [.i .i64 (0), .i .i64 (0), .nsl]⟩, ⟨none, none, .st 3 (.t 10) (.t 37)⟩, ⟨some 11, none, .mov (.t 38)⟩] [5, 7, 8, 9, 10, 11]) (.seq (.reg [⟨some 40, none, .fad 0 (.t 5)⟩, ⟨some 41, none, .ld (some 3) (.t 40)⟩, ⟨some 42, none, .fad 3 (.t 5)⟩, ⟨some 43, none, .ld none (.t 42)⟩, ⟨some 44, none, .calv (.c (.fn (.func f3) [] [])) [.t 41, .t 43]⟩, ⟨some 39, none, .mov (.t 44)⟩, ⟨some 45, none, .ext (.t 39) 0⟩, ⟨some 46, none, .ext (.t 39) 1⟩, ⟨some 12, none, .alloc [.i .i64 (0), .i .i64 (0), .nsl]⟩, ⟨none, none, .st 3 (.t 12) (.t 45)⟩, ⟨some 13, none, .mov (.t 46)⟩] [5, 7, 8, 9, 10, 11, 12, 13]) (.seq (.reg [⟨some 48, none, .fad 0 (.t 5)⟩, ⟨some 49, none, .ld (some 3) (.t 48)⟩, ⟨some 50, none, .fad 3 (.t 5)⟩, ⟨some 51, none, .ld none (.t 50)⟩, ⟨some 52, none, .calv (.c (.fn (.func f4) [] [])) [.t 49, .t 51]⟩, ⟨some 47, none, .mov (.t 52)⟩, ⟨some 53, none, .ext (.t 47) 0⟩, ⟨some 54, none, .ext (.t 47) 1⟩, ⟨some 14, none, .alloc [.i .i64 (0), .i .i64 (0), .nsl]⟩, ⟨none, none, .st 3 (.t 14) (.t 53)⟩, ⟨some 15, none, .mov (.t 54)⟩] [5, 7, 8, 9, 10, 11, 12, 13, 14, 15]) (.seq (.reg [⟨some 56, none, .fad 0 (.t 5)⟩, ⟨some 57, none, .ld (some 3) (.t 56)⟩, ⟨some 58, none, .fad 4 (.t 5)⟩, ⟨some 59, none, .ld (some 8) (.t 58)⟩, ⟨some 60, none, .calv (.c (.fn (.func f5) [] [])) [.t 57, .t 59]⟩, ⟨some 55, none, .mov (.t 60)⟩, ⟨some 61, none, .ext (.t 55) 0⟩, ⟨some 62, none, .ext (.t 55) 1⟩, ⟨some 16, none, .alloc [.i .i64 (0), .i .i64 (0), .nsl]⟩, ⟨none, none, .st 3 (.t 16) (.t 61)⟩, ⟨some 17, none, .mov (.t 62)⟩] [5, 7, 8, 9, 10, 11, 12, 13, 14, 15, 16, 17]) (.seq (.reg [⟨some 64, none, .fad 0 (.t 5)⟩, ⟨some 65, none, .ld (some 3) (.t 64)⟩, ⟨some 66, none, .fad 4 (.t 5)⟩, ⟨some 67, none, .ld (some 8) (.t 66)⟩, ⟨some 68, none, .calv (.c (.fn (.func f6) [] [])) [.t 65, .t 67]⟩, ⟨some 63, none, .mov (.t 68)⟩, ⟨some 69, none, .ext (.t 63) 0⟩, ⟨some 70, none, .ext (.t 63) 1⟩, ⟨some 18, none, .alloc [.i .i64 (0), .i .i64 (0), .nsl]⟩, ⟨none, none, .st 3 (.t 18) (.t 69)⟩, ⟨some 19, none, .mov (.t 70)⟩] [7, 8, 9, 10, 11, 12, 13, 14, 15, 16, 17, 18, 19]) (.seq (.reg [⟨some 71, none, .ld (some 3) (.t 8)⟩, ⟨some 72, none, .ld (some 3) (.t 10)⟩, ⟨some 73, none, .calv (.c (.fn (.func f7) [] [])) [.t 71, .t 72]⟩, ⟨some 20, none, .mov (.t 73)⟩] [7, 9, 11, 12, 13, 14, 15, 16, 17, 18, 19, 20]) (.seq (.reg [⟨some 74, none, .ld (some 3) (.t 12)⟩, ⟨some 75, none, .ld (some 3) (.t 14)⟩, ⟨some 76, none, .calv (.c (.fn (.func f7) [] [])) [.t 74, .t 75]⟩, ⟨some 21, none, .mov (.t 76)⟩] [7, 9, 11, 13, 15, 16, 17, 18, 19, 20, 21]) (.seq (.reg [⟨some 77, none, .ld (some 3) (.t 16)⟩, ⟨some 78, none, .ld (some 3) (.t 18)⟩, ⟨some 79, none, .calv (.c (.fn (.func f7) [] [])) [.t 77, .t 78]⟩, ⟨some 22, none, .mov (.t 79)⟩] [7, 9, 11, 13, 15, 17, 19, 20, 21, 22]) (.seq (.reg [⟨some 80, none, .mov (.t 7)⟩, ⟨some 81, none, .mov (.t 80)⟩, ⟨some 82, some (81, true), .mov (.t 20)⟩, ⟨some 83, none, .pick (.t 81) (.t 82) (.c (.b false))⟩, ⟨some 84, none, .mov (.t 83)⟩, ⟨some 85, some (84, true), .mov (.t 9)⟩, ⟨some 86, some (84, true), .mov (.t 11)⟩, ⟨some 87, some (84, true), .bin .eql (.t 85) (.t 86)⟩, ⟨some 88, none, .pick (.t 84) (.t 87) (.c (.b false))⟩, ⟨some 89, none, .mov (.t 88)⟩, ⟨some 90, some (89, true), .mov (.t 21)⟩, ⟨some 91, none, .pick (.t 89) (.t 90) (.c (.b false))⟩, ⟨some 92, none, .mov (.t 91)⟩, ⟨some 93, some (92, true), .mov (.t 13)⟩, ⟨some 94, some (92, true), .mov (.t 15)⟩, ⟨some 95, some (92, true), .bin .eql (.t 93) (.t 94)⟩, ⟨some 96, none, .pick (.t 92) (.t 95) (.c (.b false))⟩, ⟨some 97, none, .mov (.t 96)⟩, ⟨some 98, some (97, true), .mov (.t 22)⟩, ⟨some 99, none, .pick (.t 97) (.t 98) (.c (.b false))⟩, ⟨some 100, none, .mov (.t 99)⟩, ⟨some 101, some (100, true), .mov (.t 17)⟩, ⟨some 102, some (100, true), .mov (.t 19)⟩, ⟨some 103, some (100, true), .bin .eql (.t 101) (.t 102)⟩, ⟨some 104, none, .pick (.t 100) (.t 103) (.c (.b false))⟩, ⟨some 6, none, .mov (.t 104)⟩] [6]) (.ret))))))))))))
abbrev Low_potbanklaw03_BungSets (P : Program) (f f0 f1 f2 f3 f4 f5 f6 f7 : Nat) : Prop := lowF P f = some (105, [.tmp 6], (ic_potbanklaw03_BungSets f0 f1 f2 f3 f4 f5 f6 f7).erase)

def topE (w : Rg) (l : List Sag) (s : Sag) : Int := if bungB w l then (if sagB s then (if l.length = 30 then 2 else if s.id ∈ l.map (·.id) then 30 else 0) else 30) else 31
def C_Top (P : Program) (f : Nat) : Prop := ∀ (w : Rg) (l : List Sag) (s : Sag), Snd P f [.agg (bungC w l), .agg s.c] []
  (.tup [.agg (if topE w l s = 0 then bungC w (l ++ [s]) else bungC ⟨0, 0⟩ []), .i .i64 (topE w l s)]) []
theorem top_zero {H : List Blk} {w : Rg} {l : List Sag} {s : Sag} (e : Int) (he : topE w l s = e) (h0 : e ≠ 0) : Frz 0 H (resV [.agg [.i .i64 0, .i .i64 0, .nsl], .i .i64 e]) (.tup [.agg (if topE w l s = 0 then bungC w (l ++ [s]) else bungC ⟨0, 0⟩ []), .i .i64 (topE w l s)]) := by
  rw [he, if_neg h0]; exact frz2 frz_bung0 (.keep _ rfl)
theorem top_some {H : List Blk} {w : Rg} {l : List Sag} {s : Sag} {v : V} (he : topE w l s = 0) (h : OwnZ H 8 ((l ++ [s]).map Sag.c) v) : Frz 0 H (resV [.agg [.i .i64 w.lo, .i .i64 w.hi, v], .i .i64 0]) (.tup [.agg (if topE w l s = 0 then bungC w (l ++ [s]) else bungC ⟨0, 0⟩ []), .i .i64 (topE w l s)]) := by
  rw [he, if_pos rfl]; exact frz_tup_bung h
theorem ok_rTop (hm : P.follows .mixedOrders = true) {f f0 f1 f2 : Nat} (low : Low_potbankref03_Top P f f0 f1 f2) (h0 : C_Check P f0) (h1 : C_CheckSaggar P f1) (h2 : C_has P f2) : C_Top P f := by
  intro w l s
  have h0' := h0 w l
  have h1' := h1 s
  cases hb : bungB w l
  · rw [hb] at h0'
    refine snd_ic hm low (by simp) ?_
    unfold ic_potbankref03_Top
    simp -dsimp -implicitDefEqProofs only [qq, Nat.reduceBEq, reduceIte, Nat.reduceAdd, Nat.reduceSub, Nat.reduceLeDiff, Nat.reduceLT, Nat.reduceMul, Nat.reduceEqDiff, Int.reduceEq, Int.reduceBEq, Int.reduceBNe, Int.reduceLT, Int.reduceLE, Int.reduceGT, Int.reduceGE, Int.reduceNeg, Int.reduceAdd, Int.reduceSub, reduceCtorEq, List.reduceReplicate, ← List.map_take, ← List.map_drop]
    refine callI_pure h0' rfl rfl ?_
    simp -dsimp -implicitDefEqProofs only [qq, Nat.reduceBEq, reduceIte, Nat.reduceAdd, Nat.reduceSub, Nat.reduceLeDiff, Nat.reduceLT, Nat.reduceMul, Nat.reduceEqDiff, Int.reduceEq, Int.reduceBEq, Int.reduceBNe, Int.reduceLT, Int.reduceLE, Int.reduceGT, Int.reduceGE, Int.reduceNeg, Int.reduceAdd, Int.reduceSub, reduceCtorEq, List.reduceReplicate, ← List.map_take, ← List.map_drop]
    exact Ends.ret rfl (top_zero 31 (by rw [topE, hb]; rfl) (by decide))
  rw [hb] at h0'
  have hv := bung_list hb
  have hlen := list_len hv
  cases hs : sagB s
  · rw [hs] at h1'
    refine snd_ic hm low (by simp) ?_
    unfold ic_potbankref03_Top
    simp -dsimp -implicitDefEqProofs only [qq, Nat.reduceBEq, reduceIte, Nat.reduceAdd, Nat.reduceSub, Nat.reduceLeDiff, Nat.reduceLT, Nat.reduceMul, Nat.reduceEqDiff, Int.reduceEq, Int.reduceBEq, Int.reduceBNe, Int.reduceLT, Int.reduceLE, Int.reduceGT, Int.reduceGE, Int.reduceNeg, Int.reduceAdd, Int.reduceSub, reduceCtorEq, List.reduceReplicate, ← List.map_take, ← List.map_drop]
    refine callI_pure h0' rfl rfl ?_
    simp -dsimp -implicitDefEqProofs only [qq, Nat.reduceBEq, reduceIte, Nat.reduceAdd, Nat.reduceSub, Nat.reduceLeDiff, Nat.reduceLT, Nat.reduceMul, Nat.reduceEqDiff, Int.reduceEq, Int.reduceBEq, Int.reduceBNe, Int.reduceLT, Int.reduceLE, Int.reduceGT, Int.reduceGE, Int.reduceNeg, Int.reduceAdd, Int.reduceSub, reduceCtorEq, List.reduceReplicate, ← List.map_take, ← List.map_drop]
    refine callI_pure h1' rfl rfl ?_
    simp -dsimp -implicitDefEqProofs only [qq, Nat.reduceBEq, reduceIte, Nat.reduceAdd, Nat.reduceSub, Nat.reduceLeDiff, Nat.reduceLT, Nat.reduceMul, Nat.reduceEqDiff, Int.reduceEq, Int.reduceBEq, Int.reduceBNe, Int.reduceLT, Int.reduceLE, Int.reduceGT, Int.reduceGE, Int.reduceNeg, Int.reduceAdd, Int.reduceSub, reduceCtorEq, List.reduceReplicate, ← List.map_take, ← List.map_drop]
    exact Ends.ret rfl (top_zero 30 (by rw [topE, hb, hs]; rfl) (by decide))
  rw [hs] at h1'
  rcases Nat.lt_or_ge l.length 30 with hl | hl
  case' inr =>
    have q : ((l.length : Int) == 30) = true := by simp; omega
    refine snd_ic hm low (by simp) ?_
    unfold ic_potbankref03_Top
    simp -dsimp -implicitDefEqProofs only [qq, Nat.reduceBEq, reduceIte, Nat.reduceAdd, Nat.reduceSub, Nat.reduceLeDiff, Nat.reduceLT, Nat.reduceMul, Nat.reduceEqDiff, Int.reduceEq, Int.reduceBEq, Int.reduceBNe, Int.reduceLT, Int.reduceLE, Int.reduceGT, Int.reduceGE, Int.reduceNeg, Int.reduceAdd, Int.reduceSub, reduceCtorEq, List.reduceReplicate, ← List.map_take, ← List.map_drop]
    refine callI_pure h0' rfl rfl ?_
    simp -dsimp -implicitDefEqProofs only [qq, Nat.reduceBEq, reduceIte, Nat.reduceAdd, Nat.reduceSub, Nat.reduceLeDiff, Nat.reduceLT, Nat.reduceMul, Nat.reduceEqDiff, Int.reduceEq, Int.reduceBEq, Int.reduceBNe, Int.reduceLT, Int.reduceLE, Int.reduceGT, Int.reduceGE, Int.reduceNeg, Int.reduceAdd, Int.reduceSub, reduceCtorEq, List.reduceReplicate, ← List.map_take, ← List.map_drop]
    refine callI_pure h1' rfl rfl ?_
    simp -dsimp -implicitDefEqProofs only [q, qq, Nat.reduceBEq, reduceIte, Nat.reduceAdd, Nat.reduceSub, Nat.reduceLeDiff, Nat.reduceLT, Nat.reduceMul, Nat.reduceEqDiff, Int.reduceEq, Int.reduceBEq, Int.reduceBNe, Int.reduceLT, Int.reduceLE, Int.reduceGT, Int.reduceGE, Int.reduceNeg, Int.reduceAdd, Int.reduceSub, reduceCtorEq, List.reduceReplicate, ← List.map_take, ← List.map_drop]
    exact Ends.ret rfl (top_zero 2 (by rw [topE, hb, hs, if_pos rfl, if_pos rfl, if_pos (by omega)]) (by decide))
  have q : ((l.length : Int) == 30) = false := beq_eq_false_iff_ne.2 (by omega)
  have h2' := h2 l s.id (by omega)
  by_cases hm2 : s.id ∈ l.map (·.id)
  · rw [decide_eq_true hm2] at h2'
    refine snd_ic hm low (by simp) ?_
    unfold ic_potbankref03_Top
    simp -dsimp -implicitDefEqProofs only [qq, Nat.reduceBEq, reduceIte, Nat.reduceAdd, Nat.reduceSub, Nat.reduceLeDiff, Nat.reduceLT, Nat.reduceMul, Nat.reduceEqDiff, Int.reduceEq, Int.reduceBEq, Int.reduceBNe, Int.reduceLT, Int.reduceLE, Int.reduceGT, Int.reduceGE, Int.reduceNeg, Int.reduceAdd, Int.reduceSub, reduceCtorEq, List.reduceReplicate, ← List.map_take, ← List.map_drop]
    refine callI_pure h0' rfl rfl ?_
    simp -dsimp -implicitDefEqProofs only [qq, Nat.reduceBEq, reduceIte, Nat.reduceAdd, Nat.reduceSub, Nat.reduceLeDiff, Nat.reduceLT, Nat.reduceMul, Nat.reduceEqDiff, Int.reduceEq, Int.reduceBEq, Int.reduceBNe, Int.reduceLT, Int.reduceLE, Int.reduceGT, Int.reduceGE, Int.reduceNeg, Int.reduceAdd, Int.reduceSub, reduceCtorEq, List.reduceReplicate, ← List.map_take, ← List.map_drop]
    refine callI_pure h1' rfl rfl ?_
    simp -dsimp -implicitDefEqProofs only [q, Sag.c, qq, Nat.reduceBEq, reduceIte, Nat.reduceAdd, Nat.reduceSub, Nat.reduceLeDiff, Nat.reduceLT, Nat.reduceMul, Nat.reduceEqDiff, Int.reduceEq, Int.reduceBEq, Int.reduceBNe, Int.reduceLT, Int.reduceLE, Int.reduceGT, Int.reduceGE, Int.reduceNeg, Int.reduceAdd, Int.reduceSub, reduceCtorEq, List.reduceReplicate, ← List.map_take, ← List.map_drop]
    refine callI_pure h2' rfl rfl ?_
    simp -dsimp -implicitDefEqProofs only [qq, Nat.reduceBEq, reduceIte, Nat.reduceAdd, Nat.reduceSub, Nat.reduceLeDiff, Nat.reduceLT, Nat.reduceMul, Nat.reduceEqDiff, Int.reduceEq, Int.reduceBEq, Int.reduceBNe, Int.reduceLT, Int.reduceLE, Int.reduceGT, Int.reduceGE, Int.reduceNeg, Int.reduceAdd, Int.reduceSub, reduceCtorEq, List.reduceReplicate, ← List.map_take, ← List.map_drop]
    exact Ends.ret rfl (top_zero 30 (by rw [topE, hb, hs, if_pos rfl, if_pos rfl, if_neg (by omega), if_pos hm2]) (by decide))
  rw [decide_eq_false hm2] at h2'
  have hE : topE w l s = 0 := by rw [topE, hb, hs, if_pos rfl, if_pos rfl, if_neg (by omega), if_neg hm2]
  refine snd_ic hm low (by simp) ?_
  unfold ic_potbankref03_Top
  simp -dsimp -implicitDefEqProofs only [qq, Nat.reduceBEq, reduceIte, Nat.reduceAdd, Nat.reduceSub, Nat.reduceLeDiff, Nat.reduceLT, Nat.reduceMul, Nat.reduceEqDiff, Int.reduceEq, Int.reduceBEq, Int.reduceBNe, Int.reduceLT, Int.reduceLE, Int.reduceGT, Int.reduceGE, Int.reduceNeg, Int.reduceAdd, Int.reduceSub, reduceCtorEq, List.reduceReplicate, ← List.map_take, ← List.map_drop]
  refine callI_pure h0' rfl rfl ?_
  simp -dsimp -implicitDefEqProofs only [qq, Nat.reduceBEq, reduceIte, Nat.reduceAdd, Nat.reduceSub, Nat.reduceLeDiff, Nat.reduceLT, Nat.reduceMul, Nat.reduceEqDiff, Int.reduceEq, Int.reduceBEq, Int.reduceBNe, Int.reduceLT, Int.reduceLE, Int.reduceGT, Int.reduceGE, Int.reduceNeg, Int.reduceAdd, Int.reduceSub, reduceCtorEq, List.reduceReplicate, ← List.map_take, ← List.map_drop]
  refine callI_pure h1' rfl rfl ?_
  simp -dsimp -implicitDefEqProofs only [q, Sag.c, qq, Nat.reduceBEq, reduceIte, Nat.reduceAdd, Nat.reduceSub, Nat.reduceLeDiff, Nat.reduceLT, Nat.reduceMul, Nat.reduceEqDiff, Int.reduceEq, Int.reduceBEq, Int.reduceBNe, Int.reduceLT, Int.reduceLE, Int.reduceGT, Int.reduceGE, Int.reduceNeg, Int.reduceAdd, Int.reduceSub, reduceCtorEq, List.reduceReplicate, ← List.map_take, ← List.map_drop]
  refine callI_pure h2' rfl rfl ?_
  simp -dsimp -implicitDefEqProofs only [qq, Nat.reduceBEq, reduceIte, Nat.reduceAdd, Nat.reduceSub, Nat.reduceLeDiff, Nat.reduceLT, Nat.reduceMul, Nat.reduceEqDiff, Int.reduceEq, Int.reduceBEq, Int.reduceBNe, Int.reduceLT, Int.reduceLE, Int.reduceGT, Int.reduceGE, Int.reduceNeg, Int.reduceAdd, Int.reduceSub, reduceCtorEq, List.reduceReplicate, ← List.map_take, ← List.map_drop]
  refine ⟨by simp, app_newZ (ys := l.map Sag.c) (NewZ.emp _ 8) (by decide) (by decide) rfl sag_rows (by simp; omega) fun v1 H1 hn1 => ⟨hn1.take, ?_⟩⟩
  rw [List.nil_append] at hn1
  have k0 := hn1.keep 0 _ rfl
  have k1 := hn1.keep 1 _ rfl
  have k2 := hn1.keep 2 _ rfl
  simp -dsimp -implicitDefEqProofs only [k0, k1, Sag.c, qq, Nat.reduceBEq, reduceIte, Nat.reduceAdd, Nat.reduceSub, Nat.reduceLeDiff, Nat.reduceLT, Nat.reduceMul, Nat.reduceEqDiff, Int.reduceEq, Int.reduceBEq, Int.reduceBNe, Int.reduceLT, Int.reduceLE, Int.reduceGT, Int.reduceGE, Int.reduceNeg, Int.reduceAdd, Int.reduceSub, reduceCtorEq, List.reduceReplicate, ← List.map_take, ← List.map_drop]
  refine ⟨by simp [belL, V.bel], app_newZ (ys := [s.c]) hn1 (by decide) (by decide) rfl (by simp [V.one]) (by simp; omega) fun v2 H2 hn2 => ?_⟩
  have k0' := hn2.keep 0 _ rfl
  have k1' := hn2.keep 1 _ rfl
  have k2' := hn2.keep 2 _ rfl
  have hc2 := ownZ_cell hn2.own
  simp -dsimp -implicitDefEqProofs only [k0', k1', k2', hc2.1, hc2.2, qq, Nat.reduceBEq, reduceIte, Nat.reduceAdd, Nat.reduceSub, Nat.reduceLeDiff, Nat.reduceLT, Nat.reduceMul, Nat.reduceEqDiff, Int.reduceEq, Int.reduceBEq, Int.reduceBNe, Int.reduceLT, Int.reduceLE, Int.reduceGT, Int.reduceGE, Int.reduceNeg, Int.reduceAdd, Int.reduceSub, reduceCtorEq, List.reduceReplicate, ← List.map_take, ← List.map_drop]
  have g1 := get_setsame (b' := .row 3 [[.i .i64 w.lo, .i .i64 w.hi, v2]]) k2'
  refine ⟨hn2.take, Ends.ret (res_cell45 g1) (top_some hE ?_)⟩
  rw [List.map_append]
  exact hn2.own.move fun p b c e hp hv2 => get_setne hp fun e2 => by
    have := hn2.fresh _ _ _ _ _ _ hv2
    simp at this
    omega
theorem ok_Top (hm : P.follows .mixedOrders = true) {f f0 f1 f2 f3 f4 : Nat} (low : Low_bung_Top_s1 P f f0 f1 f2 f3 f4) (h0 : C_isBung P f0) (h1 : C_isSaggar P f1) (h2 : C_Tp1 P f2) (h3 : C_ConF P f3) (h4 : C_CloneG P f4) : C_Top P f := by
  intro w l s
  have h0' := h0 w l
  have h1' := h1 s
  cases hb : bungB w l
  · rw [hb] at h0'
    refine snd_ic hm low (by simp) ?_
    unfold ic_bung_Top_s1
    simp -dsimp -implicitDefEqProofs only [qq, Nat.reduceBEq, reduceIte, Nat.reduceAdd, Nat.reduceSub, Nat.reduceLeDiff, Nat.reduceLT, Nat.reduceMul, Nat.reduceEqDiff, Int.reduceEq, Int.reduceBEq, Int.reduceBNe, Int.reduceLT, Int.reduceLE, Int.reduceGT, Int.reduceGE, Int.reduceNeg, Int.reduceAdd, Int.reduceSub, reduceCtorEq, List.reduceReplicate, ← List.map_take, ← List.map_drop]
    refine callI_pure h0' rfl rfl ?_
    simp -dsimp -implicitDefEqProofs only [qq, Nat.reduceBEq, reduceIte, Nat.reduceAdd, Nat.reduceSub, Nat.reduceLeDiff, Nat.reduceLT, Nat.reduceMul, Nat.reduceEqDiff, Int.reduceEq, Int.reduceBEq, Int.reduceBNe, Int.reduceLT, Int.reduceLE, Int.reduceGT, Int.reduceGE, Int.reduceNeg, Int.reduceAdd, Int.reduceSub, reduceCtorEq, List.reduceReplicate, ← List.map_take, ← List.map_drop]
    exact Ends.ret rfl (top_zero 31 (by rw [topE, hb]; rfl) (by decide))
  rw [hb] at h0'
  have hv := bung_list hb
  have hlen := list_len hv
  have hpos := bung_pos hb
  cases hs : sagB s
  · rw [hs] at h1'
    refine snd_ic hm low (by simp) ?_
    unfold ic_bung_Top_s1
    simp -dsimp -implicitDefEqProofs only [qq, Nat.reduceBEq, reduceIte, Nat.reduceAdd, Nat.reduceSub, Nat.reduceLeDiff, Nat.reduceLT, Nat.reduceMul, Nat.reduceEqDiff, Int.reduceEq, Int.reduceBEq, Int.reduceBNe, Int.reduceLT, Int.reduceLE, Int.reduceGT, Int.reduceGE, Int.reduceNeg, Int.reduceAdd, Int.reduceSub, reduceCtorEq, List.reduceReplicate, ← List.map_take, ← List.map_drop]
    refine callI_pure h0' rfl rfl ?_
    simp -dsimp -implicitDefEqProofs only [qq, Nat.reduceBEq, reduceIte, Nat.reduceAdd, Nat.reduceSub, Nat.reduceLeDiff, Nat.reduceLT, Nat.reduceMul, Nat.reduceEqDiff, Int.reduceEq, Int.reduceBEq, Int.reduceBNe, Int.reduceLT, Int.reduceLE, Int.reduceGT, Int.reduceGE, Int.reduceNeg, Int.reduceAdd, Int.reduceSub, reduceCtorEq, List.reduceReplicate, ← List.map_take, ← List.map_drop]
    refine callI_pure h1' rfl rfl ?_
    simp -dsimp -implicitDefEqProofs only [qq, Nat.reduceBEq, reduceIte, Nat.reduceAdd, Nat.reduceSub, Nat.reduceLeDiff, Nat.reduceLT, Nat.reduceMul, Nat.reduceEqDiff, Int.reduceEq, Int.reduceBEq, Int.reduceBNe, Int.reduceLT, Int.reduceLE, Int.reduceGT, Int.reduceGE, Int.reduceNeg, Int.reduceAdd, Int.reduceSub, reduceCtorEq, List.reduceReplicate, ← List.map_take, ← List.map_drop]
    exact Ends.ret rfl (top_zero 30 (by rw [topE, hb, hs]; rfl) (by decide))
  rw [hs] at h1'
  rcases Nat.lt_or_ge l.length 30 with hl | hl
  case' inr =>
    have q : ((l.length : Int) == 30) = true := by simp; omega
    refine snd_ic hm low (by simp) ?_
    unfold ic_bung_Top_s1
    simp -dsimp -implicitDefEqProofs only [qq, Nat.reduceBEq, reduceIte, Nat.reduceAdd, Nat.reduceSub, Nat.reduceLeDiff, Nat.reduceLT, Nat.reduceMul, Nat.reduceEqDiff, Int.reduceEq, Int.reduceBEq, Int.reduceBNe, Int.reduceLT, Int.reduceLE, Int.reduceGT, Int.reduceGE, Int.reduceNeg, Int.reduceAdd, Int.reduceSub, reduceCtorEq, List.reduceReplicate, ← List.map_take, ← List.map_drop]
    refine callI_pure h0' rfl rfl ?_
    simp -dsimp -implicitDefEqProofs only [qq, Nat.reduceBEq, reduceIte, Nat.reduceAdd, Nat.reduceSub, Nat.reduceLeDiff, Nat.reduceLT, Nat.reduceMul, Nat.reduceEqDiff, Int.reduceEq, Int.reduceBEq, Int.reduceBNe, Int.reduceLT, Int.reduceLE, Int.reduceGT, Int.reduceGE, Int.reduceNeg, Int.reduceAdd, Int.reduceSub, reduceCtorEq, List.reduceReplicate, ← List.map_take, ← List.map_drop]
    refine callI_pure h1' rfl rfl ?_
    simp -dsimp -implicitDefEqProofs only [q, qq, Nat.reduceBEq, reduceIte, Nat.reduceAdd, Nat.reduceSub, Nat.reduceLeDiff, Nat.reduceLT, Nat.reduceMul, Nat.reduceEqDiff, Int.reduceEq, Int.reduceBEq, Int.reduceBNe, Int.reduceLT, Int.reduceLE, Int.reduceGT, Int.reduceGE, Int.reduceNeg, Int.reduceAdd, Int.reduceSub, reduceCtorEq, List.reduceReplicate, ← List.map_take, ← List.map_drop]
    exact Ends.ret rfl (top_zero 2 (by rw [topE, hb, hs, if_pos rfl, if_pos rfl, if_pos (by omega)]) (by decide))
  have q : ((l.length : Int) == 30) = false := beq_eq_false_iff_ne.2 (by omega)
  have h3' := h3 l (.fn (.func f2) [] [.fpt s.c 0]) (fun x => x.id == s.id) (by omega) rfl (fun x _ => snd_fn (h2 x s))
  have hfz : ∀ H : List Blk, H[1]? = some (.row 8 [s.c]) → Frz 0 H (.fn (.func f2) [] [.rpt 1 8 0 0]) (.fn (.func f2) [] [.fpt s.c 0]) := fun H hH => .fn _ _ _ _ _ rfl rfl (fun j v v' e => by simp at e) (fun j v v' e1 e2 => by
    cases j with
    | zero =>
      simp at e1 e2; subst e1 e2
      exact .pt 1 8 0 0 _ _ _ (Nat.zero_le _) hH rfl rfl rfl (fun j v v' e1 e2 => by rw [e1] at e2; cases e2; exact .keep _ (belL_get (l := s.c) rfl e1))
    | succ j => simp at e1)
  have hany : l.any (fun x => x.id == s.id) = decide (s.id ∈ l.map (·.id)) := by
    rw [Bool.eq_iff_iff]
    simp only [List.any_eq_true, beq_iff_eq, decide_eq_true_eq, List.mem_map]
  rw [hany] at h3'
  by_cases hm2 : s.id ∈ l.map (·.id)
  · rw [decide_eq_true hm2] at h3'
    refine snd_ic hm low (by simp) ?_
    unfold ic_bung_Top_s1
    simp -dsimp -implicitDefEqProofs only [qq, Nat.reduceBEq, reduceIte, Nat.reduceAdd, Nat.reduceSub, Nat.reduceLeDiff, Nat.reduceLT, Nat.reduceMul, Nat.reduceEqDiff, Int.reduceEq, Int.reduceBEq, Int.reduceBNe, Int.reduceLT, Int.reduceLE, Int.reduceGT, Int.reduceGE, Int.reduceNeg, Int.reduceAdd, Int.reduceSub, reduceCtorEq, List.reduceReplicate, ← List.map_take, ← List.map_drop]
    refine callI_pure h0' rfl rfl ?_
    simp -dsimp -implicitDefEqProofs only [qq, Nat.reduceBEq, reduceIte, Nat.reduceAdd, Nat.reduceSub, Nat.reduceLeDiff, Nat.reduceLT, Nat.reduceMul, Nat.reduceEqDiff, Int.reduceEq, Int.reduceBEq, Int.reduceBNe, Int.reduceLT, Int.reduceLE, Int.reduceGT, Int.reduceGE, Int.reduceNeg, Int.reduceAdd, Int.reduceSub, reduceCtorEq, List.reduceReplicate, ← List.map_take, ← List.map_drop]
    refine callI_pure h1' rfl rfl ?_
    simp -dsimp -implicitDefEqProofs only [q, qq, Nat.reduceBEq, reduceIte, Nat.reduceAdd, Nat.reduceSub, Nat.reduceLeDiff, Nat.reduceLT, Nat.reduceMul, Nat.reduceEqDiff, Int.reduceEq, Int.reduceBEq, Int.reduceBNe, Int.reduceLT, Int.reduceLE, Int.reduceGT, Int.reduceGE, Int.reduceNeg, Int.reduceAdd, Int.reduceSub, reduceCtorEq, List.reduceReplicate, ← List.map_take, ← List.map_drop]
    refine callI_lend2 h3' (.keep _ rfl) (hfz _ rfl) rfl ?_
    simp -dsimp -implicitDefEqProofs only [qq, Nat.reduceBEq, reduceIte, Nat.reduceAdd, Nat.reduceSub, Nat.reduceLeDiff, Nat.reduceLT, Nat.reduceMul, Nat.reduceEqDiff, Int.reduceEq, Int.reduceBEq, Int.reduceBNe, Int.reduceLT, Int.reduceLE, Int.reduceGT, Int.reduceGE, Int.reduceNeg, Int.reduceAdd, Int.reduceSub, reduceCtorEq, List.reduceReplicate, ← List.map_take, ← List.map_drop]
    exact Ends.ret rfl (top_zero 30 (by rw [topE, hb, hs, if_pos rfl, if_pos rfl, if_neg (by omega), if_pos hm2]) (by decide))
  rw [decide_eq_false hm2] at h3'
  have hE : topE w l s = 0 := by rw [topE, hb, hs, if_pos rfl, if_pos rfl, if_neg (by omega), if_neg hm2]
  obtain ⟨x0, l0, hl0⟩ : ∃ x0 l0, l = x0 :: l0 := by cases l with
    | nil => simp at hpos
    | cons a b => exact ⟨a, b, rfl⟩
  have h4' := fun H => h4 H x0 l0 (by rw [hl0] at hlen; simp at hlen; omega)
  rw [← hl0, show l0.length + 1 = l.length by rw [hl0]; rfl] at h4'
  refine snd_ic hm low (by simp) ?_
  unfold ic_bung_Top_s1
  simp -dsimp -implicitDefEqProofs only [qq, Nat.reduceBEq, reduceIte, Nat.reduceAdd, Nat.reduceSub, Nat.reduceLeDiff, Nat.reduceLT, Nat.reduceMul, Nat.reduceEqDiff, Int.reduceEq, Int.reduceBEq, Int.reduceBNe, Int.reduceLT, Int.reduceLE, Int.reduceGT, Int.reduceGE, Int.reduceNeg, Int.reduceAdd, Int.reduceSub, reduceCtorEq, List.reduceReplicate, ← List.map_take, ← List.map_drop]
  refine callI_pure h0' rfl rfl ?_
  simp -dsimp -implicitDefEqProofs only [qq, Nat.reduceBEq, reduceIte, Nat.reduceAdd, Nat.reduceSub, Nat.reduceLeDiff, Nat.reduceLT, Nat.reduceMul, Nat.reduceEqDiff, Int.reduceEq, Int.reduceBEq, Int.reduceBNe, Int.reduceLT, Int.reduceLE, Int.reduceGT, Int.reduceGE, Int.reduceNeg, Int.reduceAdd, Int.reduceSub, reduceCtorEq, List.reduceReplicate, ← List.map_take, ← List.map_drop]
  refine callI_pure h1' rfl rfl ?_
  simp -dsimp -implicitDefEqProofs only [q, qq, Nat.reduceBEq, reduceIte, Nat.reduceAdd, Nat.reduceSub, Nat.reduceLeDiff, Nat.reduceLT, Nat.reduceMul, Nat.reduceEqDiff, Int.reduceEq, Int.reduceBEq, Int.reduceBNe, Int.reduceLT, Int.reduceLE, Int.reduceGT, Int.reduceGE, Int.reduceNeg, Int.reduceAdd, Int.reduceSub, reduceCtorEq, List.reduceReplicate, ← List.map_take, ← List.map_drop]
  refine callI_lend2 h3' (.keep _ rfl) (hfz _ rfl) rfl ?_
  simp -dsimp -implicitDefEqProofs only [qq, Nat.reduceBEq, reduceIte, Nat.reduceAdd, Nat.reduceSub, Nat.reduceLeDiff, Nat.reduceLT, Nat.reduceMul, Nat.reduceEqDiff, Int.reduceEq, Int.reduceBEq, Int.reduceBNe, Int.reduceLT, Int.reduceLE, Int.reduceGT, Int.reduceGE, Int.reduceNeg, Int.reduceAdd, Int.reduceSub, reduceCtorEq, List.reduceReplicate, ← List.map_take, ← List.map_drop]
  refine callI_by (h4' _) ?_
  simp -dsimp -implicitDefEqProofs only [qq, Nat.reduceBEq, reduceIte, Nat.reduceAdd, Nat.reduceSub, Nat.reduceLeDiff, Nat.reduceLT, Nat.reduceMul, Nat.reduceEqDiff, Int.reduceEq, Int.reduceBEq, Int.reduceBNe, Int.reduceLT, Int.reduceLE, Int.reduceGT, Int.reduceGE, Int.reduceNeg, Int.reduceAdd, Int.reduceSub, reduceCtorEq, List.reduceReplicate, ← List.map_take, ← List.map_drop]
  have ho : OwnS [Blk.row 3 [bungC w l], .row 8 [s.c], .row 3 [[.i .i64 0, .i .i64 0, .nsl]], .row 8 [], .row 8 (l.map Sag.c)] 8 (l.map Sag.c) (.rsl 4 8 0 l.length l.length false) := .inr ⟨4, l.length, false, by simp, rfl⟩
  refine ⟨by simp [belL, V.bel], app_own (ys := [s.c]) ho (by decide) (by decide) rfl (by simp [V.one]) (by simp; omega) fun v' H' hv' ha hf => ?_⟩
  obtain ⟨p, c, e, rfl, hp⟩ := hv'.pos (by simp)
  have hne : ∀ i : Nat, i < 4 → ∀ k o l2 c e, V.rsl 4 8 0 l.length l.length false ≠ .rsl i k o l2 c e := fun i hi k o l2 c e he => by cases he; omega
  have k0 := ha.keep 0 _ rfl (hne 0 (by omega))
  have k1 := ha.keep 1 _ rfl (hne 1 (by omega))
  have k2 := ha.keep 2 _ rfl (hne 2 (by omega))
  refine ⟨take_keep (by have := ha.len; simp at this ⊢; omega) (fun i b hb => by
    match i with
    | 0 => simp at hb; subst hb; exact k0
    | 1 => simp at hb; subst hb; exact k1
    | 2 => simp at hb; subst hb; exact k2
    | i + 3 => simp at hb), ?_⟩
  have hp4 : p ≠ 2 := by
    rcases hf p _ _ _ _ _ rfl with g | g
    · injection g with g1; omega
    · simp at g; omega
  simp -dsimp -implicitDefEqProofs only [k2, k0, k1, qq, Nat.reduceBEq, reduceIte, Nat.reduceAdd, Nat.reduceSub, Nat.reduceLeDiff, Nat.reduceLT, Nat.reduceMul, Nat.reduceEqDiff, Int.reduceEq, Int.reduceBEq, Int.reduceBNe, Int.reduceLT, Int.reduceLE, Int.reduceGT, Int.reduceGE, Int.reduceNeg, Int.reduceAdd, Int.reduceSub, reduceCtorEq, List.reduceReplicate, ← List.map_take, ← List.map_drop]
  have g1 := get_setsame (b' := .row 3 [[.i .i64 w.lo, .i .i64 w.hi, .rsl p 8 0 (l.length + 1) c e]]) k2
  refine Ends.ret (res_cell45 g1) (top_some hE ?_)
  rw [List.map_append]
  exact .inr ⟨p, c, e, by simp, get_setne hp (by omega)⟩
def C_rSet (P : Program) (f : Nat) : Prop := ∀ (w : Rg) (l : List Sag) (o : List Int), o.length ≤ 1000000000000000 → Snd P f [.agg [.i .i64 w.lo, .i .i64 w.hi, .fsl (o.map intC)], .fsl (l.map Sag.c)] []
  (.tup [.agg (if setE w l o = 0 then bungC w (pickS l o) else bungC ⟨0, 0⟩ []), .i .i64 (setE w l o)]) []
theorem ok_rSet (hm : P.follows .mixedOrders = true) {f f0 f1 f2 f3 f4 : Nat} (low : Low_potbankref03_Set P f f0 f1 f2 f3 f4) (h0 : C_isWad P f0) (h1 : C_CheckList P f1) (h2 : C_within P f2) (h3 : C_Has P f3) (h4 : C_stacked P f4) : C_rSet P f := by
  intro w l o hol
  refine snd_ic hm low (by simp) ?_
  unfold ic_potbankref03_Set
  simp -dsimp -implicitDefEqProofs only [qq, Nat.reduceBEq, reduceIte, Nat.reduceAdd, Nat.reduceSub, Nat.reduceLeDiff, Nat.reduceLT, Nat.reduceMul, Nat.reduceEqDiff, Int.reduceEq, Int.reduceBEq, Int.reduceBNe, Int.reduceLT, Int.reduceLE, Int.reduceGT, Int.reduceGE, Int.reduceNeg, Int.reduceAdd, Int.reduceSub, reduceCtorEq, List.reduceReplicate, ← List.map_take, ← List.map_drop]
  have hz : ∀ (H : List Blk) (e : Int), setE w l o = e → e ≠ 0 → (Frz 0 H (resV [.agg [.i .i64 0, .i .i64 0, .nsl], .i .i64 e]) (.tup [.agg (if setE w l o = 0 then bungC w (pickS l o) else bungC ⟨0, 0⟩ []), .i .i64 (setE w l o)])) := fun H e h h' => by rw [if_neg (by rw [h]; exact h'), h]; exact frz2 frz_bung0 (.keep _ rfl)
  refine callI_pure (h0 w) rfl rfl ?_
  cases hw : rgB w 0 200 <;> simp -dsimp -implicitDefEqProofs only [qq, Nat.reduceBEq, reduceIte, Nat.reduceAdd, Nat.reduceSub, Nat.reduceLeDiff, Nat.reduceLT, Nat.reduceMul, Nat.reduceEqDiff, Int.reduceEq, Int.reduceBEq, Int.reduceBNe, Int.reduceLT, Int.reduceLE, Int.reduceGT, Int.reduceGE, Int.reduceNeg, Int.reduceAdd, Int.reduceSub, reduceCtorEq, List.reduceReplicate, ← List.map_take, ← List.map_drop]
  · exact Ends.ret rfl (hz _ 32 (by simp [setE, hw]) (by decide))
  refine callI_pure (h1 l) rfl rfl ?_
  cases hl : listB l <;> simp -dsimp -implicitDefEqProofs only [qq, Nat.reduceBEq, reduceIte, Nat.reduceAdd, Nat.reduceSub, Nat.reduceLeDiff, Nat.reduceLT, Nat.reduceMul, Nat.reduceEqDiff, Int.reduceEq, Int.reduceBEq, Int.reduceBNe, Int.reduceLT, Int.reduceLE, Int.reduceGT, Int.reduceGE, Int.reduceNeg, Int.reduceAdd, Int.reduceSub, reduceCtorEq, List.reduceReplicate, ← List.map_take, ← List.map_drop]
  · exact Ends.ret rfl (hz _ 30 (by simp [setE, hw, hl]) (by decide))
  have hlen := list_len hl
  have w0 : IntKind.i64.wrap ((l.length : Int) - 1) = (l.length : Int) - 1 := wrap_id (by omega) (by omega)
  have hbad : orderB l.length o = false → setE w l o = 1 := fun h => by simp [setE, hw, hl, h]
  refine loopI_st (fun k : Nat => o.length - k) (fun k E H => k ≤ o.length ∧ E = [(1, .fsl (l.map Sag.c)), (2, .rpt 0 3 0 0), (4, .rpt 1 3 0 0), (6, .i .i64 k)] ∧ H = [.row 3 [[.i .i64 w.lo, .i .i64 w.hi, .fsl (o.map intC)]], .row 3 [[.i .i64 0, .i .i64 0, .nsl]]] ∧ (∀ i ∈ o.take k, inR i 0 (l.length - 1) = true) ∧ (o.take k).Nodup) 0 ⟨by omega, rfl, rfl, by simp, by simp⟩ ?_
  rintro k _ _ ⟨hk, rfl, rfl, hin, hnd⟩
  rcases Nat.lt_or_ge k o.length with hkl | hkl
  · have hc : decide ((k : Int) < (o.length : Int)) = true := decide_eq_true (by omega)
    obtain ⟨i, hi, him, htk, _⟩ := next_of hkl
    have hwk : IntKind.i64.wrap ((k : Int) + 1) = ((k + 1 : Nat) : Int) := wrap_succ (by omega)
    have h2' := h2 i 0 ((l.length : Int) - 1)
    have h3' := h3 (o.take k) i (by rw [List.length_take]; omega)
    cases hr : inR i 0 (l.length - 1)
    · rw [hr] at h2'
      simp -dsimp -implicitDefEqProofs only [hc, hi, intC, w0, qq, Nat.reduceBEq, reduceIte, Nat.reduceAdd, Nat.reduceSub, Nat.reduceLeDiff, Nat.reduceLT, Nat.reduceMul, Nat.reduceEqDiff, Int.reduceEq, Int.reduceBEq, Int.reduceBNe, Int.reduceLT, Int.reduceLE, Int.reduceGT, Int.reduceGE, Int.reduceNeg, Int.reduceAdd, Int.reduceSub, reduceCtorEq, List.reduceReplicate, ← List.map_take, ← List.map_drop]
      refine callI_pure h2' rfl rfl ?_
      simp -dsimp -implicitDefEqProofs only [qq, Nat.reduceBEq, reduceIte, Nat.reduceAdd, Nat.reduceSub, Nat.reduceLeDiff, Nat.reduceLT, Nat.reduceMul, Nat.reduceEqDiff, Int.reduceEq, Int.reduceBEq, Int.reduceBNe, Int.reduceLT, Int.reduceLE, Int.reduceGT, Int.reduceGE, Int.reduceNeg, Int.reduceAdd, Int.reduceSub, reduceCtorEq, List.reduceReplicate, ← List.map_take, ← List.map_drop]
      exact Ends.ret rfl (hz _ 1 (hbad (by
        simp only [orderB]
        rw [show o.all (fun i => inR i 0 (l.length - 1)) = false from by simp; exact ⟨i, him, hr⟩]
        simp)) (by decide))
    rw [hr] at h2'
    by_cases hid : i ∈ o.take k
    · rw [decide_eq_true hid] at h3'
      simp -dsimp -implicitDefEqProofs only [hc, hi, intC, w0, qq, Nat.reduceBEq, reduceIte, Nat.reduceAdd, Nat.reduceSub, Nat.reduceLeDiff, Nat.reduceLT, Nat.reduceMul, Nat.reduceEqDiff, Int.reduceEq, Int.reduceBEq, Int.reduceBNe, Int.reduceLT, Int.reduceLE, Int.reduceGT, Int.reduceGE, Int.reduceNeg, Int.reduceAdd, Int.reduceSub, reduceCtorEq, List.reduceReplicate, ← List.map_take, ← List.map_drop]
      refine callI_pure h2' rfl rfl ?_
      simp -dsimp -implicitDefEqProofs only [hi, intC, qq, Nat.reduceBEq, reduceIte, Nat.reduceAdd, Nat.reduceSub, Nat.reduceLeDiff, Nat.reduceLT, Nat.reduceMul, Nat.reduceEqDiff, Int.reduceEq, Int.reduceBEq, Int.reduceBNe, Int.reduceLT, Int.reduceLE, Int.reduceGT, Int.reduceGE, Int.reduceNeg, Int.reduceAdd, Int.reduceSub, reduceCtorEq, List.reduceReplicate, ← List.map_take, ← List.map_drop]
      refine ⟨fun r hr => by obtain ⟨x, _, rfl⟩ := List.mem_map.1 hr; rfl, by omega, by omega, by omega, callI_pure h3' rfl rfl ?_⟩
      simp -dsimp -implicitDefEqProofs only [qq, Nat.reduceBEq, reduceIte, Nat.reduceAdd, Nat.reduceSub, Nat.reduceLeDiff, Nat.reduceLT, Nat.reduceMul, Nat.reduceEqDiff, Int.reduceEq, Int.reduceBEq, Int.reduceBNe, Int.reduceLT, Int.reduceLE, Int.reduceGT, Int.reduceGE, Int.reduceNeg, Int.reduceAdd, Int.reduceSub, reduceCtorEq, List.reduceReplicate, ← List.map_take, ← List.map_drop]
      refine Ends.ret rfl (hz _ 1 (hbad ?_) (by decide))
      simp only [orderB]
      rw [show decide o.Nodup = false from ?_]
      · simp
      · rw [decide_eq_false_iff_not]
        intro hnd
        rw [← List.take_append_drop k o, List.nodup_append] at hnd
        exact hnd.2.2 _ hid i (List.mem_of_getElem? (i := 0) (by rw [List.getElem?_drop]; simpa using hi)) rfl
    · rw [decide_eq_false hid] at h3'
      simp -dsimp -implicitDefEqProofs only [hc, hi, intC, w0, qq, Nat.reduceBEq, reduceIte, Nat.reduceAdd, Nat.reduceSub, Nat.reduceLeDiff, Nat.reduceLT, Nat.reduceMul, Nat.reduceEqDiff, Int.reduceEq, Int.reduceBEq, Int.reduceBNe, Int.reduceLT, Int.reduceLE, Int.reduceGT, Int.reduceGE, Int.reduceNeg, Int.reduceAdd, Int.reduceSub, reduceCtorEq, List.reduceReplicate, ← List.map_take, ← List.map_drop]
      refine callI_pure h2' rfl rfl ?_
      simp -dsimp -implicitDefEqProofs only [hi, intC, qq, Nat.reduceBEq, reduceIte, Nat.reduceAdd, Nat.reduceSub, Nat.reduceLeDiff, Nat.reduceLT, Nat.reduceMul, Nat.reduceEqDiff, Int.reduceEq, Int.reduceBEq, Int.reduceBNe, Int.reduceLT, Int.reduceLE, Int.reduceGT, Int.reduceGE, Int.reduceNeg, Int.reduceAdd, Int.reduceSub, reduceCtorEq, List.reduceReplicate, ← List.map_take, ← List.map_drop]
      refine ⟨fun r hr => by obtain ⟨x, _, rfl⟩ := List.mem_map.1 hr; rfl, by omega, by omega, by omega, callI_pure h3' rfl rfl ?_⟩
      simp -dsimp -implicitDefEqProofs only [hwk, qq, Nat.reduceBEq, reduceIte, Nat.reduceAdd, Nat.reduceSub, Nat.reduceLeDiff, Nat.reduceLT, Nat.reduceMul, Nat.reduceEqDiff, Int.reduceEq, Int.reduceBEq, Int.reduceBNe, Int.reduceLT, Int.reduceLE, Int.reduceGT, Int.reduceGE, Int.reduceNeg, Int.reduceAdd, Int.reduceSub, reduceCtorEq, List.reduceReplicate, ← List.map_take, ← List.map_drop]
      refine ⟨k + 1, by omega, by omega, rfl, ?_, ?_⟩
      · rw [htk]; intro j hj
        rcases List.mem_append.1 hj with h | h
        · exact hin j h
        · simp at h; subst h; exact hr
      · rw [htk, List.nodup_append]
        exact ⟨hnd, by simp, fun a ha b hb e => by simp at hb; subst hb; subst e; exact hid ha⟩
  · obtain rfl : k = o.length := by omega
    have hc : decide ((o.length : Int) < (o.length : Int)) = false := by simp
    rw [List.take_length] at hin hnd
    cases he : ((o.length : Int) == 0) <;> simp -dsimp -implicitDefEqProofs only [hc, he, qq, Nat.reduceBEq, reduceIte, Nat.reduceAdd, Nat.reduceSub, Nat.reduceLeDiff, Nat.reduceLT, Nat.reduceMul, Nat.reduceEqDiff, Int.reduceEq, Int.reduceBEq, Int.reduceBNe, Int.reduceLT, Int.reduceLE, Int.reduceGT, Int.reduceGE, Int.reduceNeg, Int.reduceAdd, Int.reduceSub, reduceCtorEq, List.reduceReplicate, ← List.map_take, ← List.map_drop]
    rotate_left
    · have : o = [] := by simp at he; exact he
      exact Ends.ret rfl (hz _ 1 (hbad (by simp [orderB, this])) (by decide))
    have hne : o ≠ [] := fun e => by simp [e] at he
    have hok : orderB l.length o = true := by simp only [orderB, hnd]; simp; exact ⟨hne, hin⟩
    have hset : setE w l o = 0 := by simp [setE, hw, hl, hok]
    have hix : okIx l.length o := fun i hi => by have := hin i hi; simp [inR] at this; omega
    have hshort : o.length ≤ 1000 := by have := nodup_bound l.length o hnd hix; omega
    refine callI_pure (h4 l o hshort hix) rfl rfl ?_
    simp -dsimp -implicitDefEqProofs only [Rg.c, qq, Nat.reduceBEq, reduceIte, Nat.reduceAdd, Nat.reduceSub, Nat.reduceLeDiff, Nat.reduceLT, Nat.reduceMul, Nat.reduceEqDiff, Int.reduceEq, Int.reduceBEq, Int.reduceBNe, Int.reduceLT, Int.reduceLE, Int.reduceGT, Int.reduceGE, Int.reduceNeg, Int.reduceAdd, Int.reduceSub, reduceCtorEq, List.reduceReplicate, ← List.map_take, ← List.map_drop]
    rw [hset]
    exact Ends.ret rfl (frz_keep2 rfl rfl)
def C_SameList (P : Program) (f : Nat) : Prop := ∀ (a b : List Sag), a.length ≤ 1000000 → Snd P f [.fsl (a.map Sag.c), .fsl (b.map Sag.c)] [] (.b (decide (a = b))) []
theorem sag_eq {x y : Sag} : eqS x.c y.c [(0, 0), (1, 0), (2, 0), (3, 0), (4, 0), (5, 0), (6, 0), (7, 0)] = some (decide (x = y)) := by
  obtain ⟨i, ⟨a, b⟩, ⟨c, d⟩, ⟨e, f⟩, g⟩ := x
  obtain ⟨i', ⟨a', b'⟩, ⟨c', d'⟩, ⟨e', f'⟩, g'⟩ := y
  simp [eqS, eq1, Sag.c]
  rw [Bool.eq_iff_iff]
  simp [and_assoc]
theorem ok_SameList (hm : P.follows .mixedOrders = true) {f : Nat} (low : Low_potbankref03_SameList P f) : C_SameList P f := by
  intro a b hal
  refine snd_ic hm low (by simp) ?_
  unfold ic_potbankref03_SameList
  simp -dsimp -implicitDefEqProofs only [qq, Nat.reduceBEq, reduceIte, Nat.reduceAdd, Nat.reduceSub, Nat.reduceLeDiff, Nat.reduceLT, Nat.reduceMul, Nat.reduceEqDiff, Int.reduceEq, Int.reduceBEq, Int.reduceBNe, Int.reduceLT, Int.reduceLE, Int.reduceGT, Int.reduceGE, Int.reduceNeg, Int.reduceAdd, Int.reduceSub, reduceCtorEq, List.reduceReplicate, ← List.map_take, ← List.map_drop]
  refine loopI_st (fun k : Nat => a.length + 1 - k) (fun k E H => k ≤ a.length ∧ ∃ t : Bool, E = [(0, .fsl (a.map Sag.c)), (1, .fsl (b.map Sag.c)), (5, .b t), (6, .i .i64 k)] ∧ (t = true → a.length = b.length ∧ a.take k = b.take k) ∧ (t = false → a ≠ b)) 0 ⟨by omega, _, rfl, fun h => ⟨by have := eq_of_beq h; omega, rfl⟩, fun h e => by rw [e] at h; simp at h⟩ ?_
  rintro k _ H ⟨hk, t, rfl, ht1, ht0⟩
  cases t
  · have hne := ht0 rfl
    have q : ∀ x : Bool, (x && false) = false := fun x => by cases x <;> rfl
    cases hc : decide ((k : Int) < (a.length : Int)) <;> simp -dsimp -implicitDefEqProofs only [hc, qq, Nat.reduceBEq, reduceIte, Nat.reduceAdd, Nat.reduceSub, Nat.reduceLeDiff, Nat.reduceLT, Nat.reduceMul, Nat.reduceEqDiff, Int.reduceEq, Int.reduceBEq, Int.reduceBNe, Int.reduceLT, Int.reduceLE, Int.reduceGT, Int.reduceGE, Int.reduceNeg, Int.reduceAdd, Int.reduceSub, reduceCtorEq, List.reduceReplicate, ← List.map_take, ← List.map_drop]
    all_goals exact Ends.plain rfl rfl (by simp [resV, hne])
  obtain ⟨hl, htk⟩ := ht1 rfl
  rcases Nat.lt_or_ge k a.length with hkl | hkl
  · have hc : decide ((k : Int) < (a.length : Int)) = true := decide_eq_true (by omega)
    have hwk : IntKind.i64.wrap ((k : Int) + 1) = ((k + 1 : Nat) : Int) := wrap_succ (by omega)
    obtain ⟨x, hx, _, _, _⟩ := next_of hkl
    obtain ⟨y, hy, _, _, _⟩ := next_of (show k < b.length by omega)
    have hts := take_same htk hx hy
    simp -dsimp -implicitDefEqProofs only [hc, hx, hy, sag_eq, hwk, qq, Nat.reduceBEq, reduceIte, Nat.reduceAdd, Nat.reduceSub, Nat.reduceLeDiff, Nat.reduceLT, Nat.reduceMul, Nat.reduceEqDiff, Int.reduceEq, Int.reduceBEq, Int.reduceBNe, Int.reduceLT, Int.reduceLE, Int.reduceGT, Int.reduceGE, Int.reduceNeg, Int.reduceAdd, Int.reduceSub, reduceCtorEq, List.reduceReplicate, ← List.map_take, ← List.map_drop]
    refine ⟨k + 1, by omega, by omega, _, rfl, fun h => ⟨hl, hts.2 (by simpa using h)⟩, fun h => ?_⟩
    intro e
    subst e
    rw [hx] at hy; cases hy
    simp at h
  · have hc : decide ((k : Int) < (a.length : Int)) = false := decide_eq_false (by omega)
    have hab : a = b := by rw [List.take_of_length_le (by omega), List.take_of_length_le (by omega)] at htk; exact htk
    simp -dsimp -implicitDefEqProofs only [hc, qq, Nat.reduceBEq, reduceIte, Nat.reduceAdd, Nat.reduceSub, Nat.reduceLeDiff, Nat.reduceLT, Nat.reduceMul, Nat.reduceEqDiff, Int.reduceEq, Int.reduceBEq, Int.reduceBNe, Int.reduceLT, Int.reduceLE, Int.reduceGT, Int.reduceGE, Int.reduceNeg, Int.reduceAdd, Int.reduceSub, reduceCtorEq, List.reduceReplicate, ← List.map_take, ← List.map_drop]
    exact Ends.plain rfl rfl (by simp [resV, hab])
def C_SameBung (P : Program) (f : Nat) : Prop := ∀ (w w' : Rg) (a b : List Sag), a.length ≤ 1000000 → Snd P f [.agg (bungC w a), .agg (bungC w' b)] [] (.b (decide (a = b ∧ w = w'))) []
theorem ok_SameBung (hm : P.follows .mixedOrders = true) {f f0 : Nat} (low : Low_potbankref03_SameBung P f f0) (h0 : C_SameList P f0) : C_SameBung P f := by
  intro w w' a b hal
  have h0' := h0 a b hal
  have hw : (decide (w = w')) = ((w.lo == w'.lo) && (w.hi == w'.hi)) := by
    rw [Bool.eq_iff_iff]; cases w; cases w'; simp
  by_cases hab : a = b
  case' pos => rw [decide_eq_true hab] at h0'
  case' neg => rw [decide_eq_false hab] at h0'
  all_goals
    refine snd_ic hm low (by simp) ?_
    unfold ic_potbankref03_SameBung
    simp -dsimp -implicitDefEqProofs only [qq, Nat.reduceBEq, reduceIte, Nat.reduceAdd, Nat.reduceSub, Nat.reduceLeDiff, Nat.reduceLT, Nat.reduceMul, Nat.reduceEqDiff, Int.reduceEq, Int.reduceBEq, Int.reduceBNe, Int.reduceLT, Int.reduceLE, Int.reduceGT, Int.reduceGE, Int.reduceNeg, Int.reduceAdd, Int.reduceSub, reduceCtorEq, List.reduceReplicate, ← List.map_take, ← List.map_drop]
    refine callI_pure h0' rfl rfl ?_
    simp -dsimp -implicitDefEqProofs only [eqS, eq1, qq, Nat.reduceBEq, reduceIte, Nat.reduceAdd, Nat.reduceSub, Nat.reduceLeDiff, Nat.reduceLT, Nat.reduceMul, Nat.reduceEqDiff, Int.reduceEq, Int.reduceBEq, Int.reduceBNe, Int.reduceLT, Int.reduceLE, Int.reduceGT, Int.reduceGE, Int.reduceNeg, Int.reduceAdd, Int.reduceSub, reduceCtorEq, List.reduceReplicate, ← List.map_take, ← List.map_drop]
    exact Ends.plain rfl rfl (by first | (simp [resV, hab, hw, Bool.decide_and]; done) | (simp [resV, hab]; done))

abbrev chC (w : Rg) (l : List Sag) (a : Int) (s : Sag) : List V := [.i .i64 w.lo, .i .i64 w.hi, .fsl (l.map Sag.c), .i .i64 a, .i .i64 s.id, .i .i64 s.w.lo, .i .i64 s.w.hi, .i .i64 s.b.lo, .i .i64 s.b.hi, .i .i64 s.h.lo, .i .i64 s.h.hi, .i .i64 s.tilt]
def L_BungSets (P : Program) (f : Nat) : Prop := ∀ (w0 : Rg) (o : List Int) (l : List Sag) (w : Rg) (m : List Sag) (a : Int) (s : Sag), o.length ≤ 1000000000000000 → Snd P f [.agg [.i .i64 w0.lo, .i .i64 w0.hi, .fsl (o.map intC)], .fsl (l.map Sag.c), .agg (chC w m a s)] [] (.b true) []
set_option maxHeartbeats 4000000 in
theorem ok_BungSets (hm : P.follows .mixedOrders = true) {f f0 f1 f2 f3 f4 f5 f6 f7 : Nat} (low : Low_potbanklaw03_BungSets P f f0 f1 f2 f3 f4 f5 f6 f7) (h0 : C_sane P f0) (h1 : C_Set P f1) (h2 : C_rSet P f2) (h3 : C_Swap P f3) (h4 : C_Swap P f4) (h5 : C_Top P f5) (h6 : C_Top P f6) (h7 : C_SameBung P f7) : L_BungSets P f := by
  intro w0 o l w m a s hol
  have h1' := h1 w0 l o hol
  have h2' := h2 w0 l o (by omega)
  have h3' := h3 w m a
  have h4' := h4 w m a
  have h5' := h5 w m s
  have h6' := h6 w m s
  have e1 : ∃ wa la, (if setE w0 l o = 0 then bungC w0 (pickS l o) else bungC ⟨0, 0⟩ []) = bungC wa la ∧ la.length ≤ 1000000 := by
    by_cases h : setE w0 l o = 0
    · refine ⟨w0, pickS l o, if_pos h, ?_⟩
      have hl : listB l = true := by
        unfold setE at h
        split at h
        · split at h
          · assumption
          · cases h
        · cases h
      have ho : orderB l.length o = true := by
        unfold setE at h
        rw [if_pos hl] at h
        split at h
        · split at h
          · assumption
          · cases h
        · cases h
      simp only [orderB, Bool.and_eq_true, decide_eq_true_eq, List.all_eq_true] at ho
      have := nodup_bound l.length o ho.2 (fun i hi => by have := ho.1.2 i hi; simp [inR] at this; omega)
      have := pickS_length l o
      have := list_len hl
      omega
    · exact ⟨⟨0, 0⟩, [], if_neg h, by simp⟩
  have e2 : ∃ wa la, (if swapE w m a = 0 then bungC w (swapS m a.toNat) else bungC ⟨0, 0⟩ []) = bungC wa la ∧ la.length ≤ 1000000 := by
    by_cases h : swapE w m a = 0
    · refine ⟨w, swapS m a.toNat, if_pos h, ?_⟩
      have hb : bungB w m = true := by
        unfold swapE at h
        split at h
        · assumption
        · cases h
      have := list_len (bung_list hb)
      have hl : (swapS m a.toNat).length = m.length := by unfold swapS; split <;> simp
      omega
    · exact ⟨⟨0, 0⟩, [], if_neg h, by simp⟩
  have e3 : ∃ wa la, (if topE w m s = 0 then bungC w (m ++ [s]) else bungC ⟨0, 0⟩ []) = bungC wa la ∧ la.length ≤ 1000000 := by
    by_cases h : topE w m s = 0
    · refine ⟨w, m ++ [s], if_pos h, ?_⟩
      have hb : bungB w m = true := by
        unfold topE at h
        split at h
        · assumption
        · cases h
      have := list_len (bung_list hb)
      simp; omega
    · exact ⟨⟨0, 0⟩, [], if_neg h, by simp⟩
  obtain ⟨wa, la, e1, l1⟩ := e1
  obtain ⟨wb, lb, e2, l2⟩ := e2
  obtain ⟨wc, lc, e3, l3⟩ := e3
  rw [e1] at h1' h2'
  rw [e2] at h3' h4'
  rw [e3] at h5' h6'
  have s1 := h7 wa wa la la l1
  have s2 := h7 wb wb lb lb l2
  have s3 := h7 wc wc lc lc l3
  simp only [and_self, decide_true] at s1 s2 s3
  refine snd_ic hm low (by simp) ?_
  unfold ic_potbanklaw03_BungSets
  simp -dsimp -implicitDefEqProofs only [qq, Nat.reduceBEq, reduceIte, Nat.reduceAdd, Nat.reduceSub, Nat.reduceLeDiff, Nat.reduceLT, Nat.reduceMul, Nat.reduceEqDiff, Int.reduceEq, Int.reduceBEq, Int.reduceBNe, Int.reduceLT, Int.reduceLE, Int.reduceGT, Int.reduceGE, Int.reduceNeg, Int.reduceAdd, Int.reduceSub, reduceCtorEq, List.reduceReplicate, ← List.map_take, ← List.map_drop]
  refine callI_pure h0 rfl rfl ?_
  simp -dsimp -implicitDefEqProofs only [qq, Nat.reduceBEq, reduceIte, Nat.reduceAdd, Nat.reduceSub, Nat.reduceLeDiff, Nat.reduceLT, Nat.reduceMul, Nat.reduceEqDiff, Int.reduceEq, Int.reduceBEq, Int.reduceBNe, Int.reduceLT, Int.reduceLE, Int.reduceGT, Int.reduceGE, Int.reduceNeg, Int.reduceAdd, Int.reduceSub, reduceCtorEq, List.reduceReplicate, ← List.map_take, ← List.map_drop]
  refine callI_pure h1' rfl rfl ?_
  simp -dsimp -implicitDefEqProofs only [qq, Nat.reduceBEq, reduceIte, Nat.reduceAdd, Nat.reduceSub, Nat.reduceLeDiff, Nat.reduceLT, Nat.reduceMul, Nat.reduceEqDiff, Int.reduceEq, Int.reduceBEq, Int.reduceBNe, Int.reduceLT, Int.reduceLE, Int.reduceGT, Int.reduceGE, Int.reduceNeg, Int.reduceAdd, Int.reduceSub, reduceCtorEq, List.reduceReplicate, ← List.map_take, ← List.map_drop]
  refine callI_pure h2' rfl rfl ?_
  simp -dsimp -implicitDefEqProofs only [qq, Nat.reduceBEq, reduceIte, Nat.reduceAdd, Nat.reduceSub, Nat.reduceLeDiff, Nat.reduceLT, Nat.reduceMul, Nat.reduceEqDiff, Int.reduceEq, Int.reduceBEq, Int.reduceBNe, Int.reduceLT, Int.reduceLE, Int.reduceGT, Int.reduceGE, Int.reduceNeg, Int.reduceAdd, Int.reduceSub, reduceCtorEq, List.reduceReplicate, ← List.map_take, ← List.map_drop]
  refine callI_pure h3' rfl rfl ?_
  simp -dsimp -implicitDefEqProofs only [qq, Nat.reduceBEq, reduceIte, Nat.reduceAdd, Nat.reduceSub, Nat.reduceLeDiff, Nat.reduceLT, Nat.reduceMul, Nat.reduceEqDiff, Int.reduceEq, Int.reduceBEq, Int.reduceBNe, Int.reduceLT, Int.reduceLE, Int.reduceGT, Int.reduceGE, Int.reduceNeg, Int.reduceAdd, Int.reduceSub, reduceCtorEq, List.reduceReplicate, ← List.map_take, ← List.map_drop]
  refine callI_pure h4' rfl rfl ?_
  simp -dsimp -implicitDefEqProofs only [qq, Nat.reduceBEq, reduceIte, Nat.reduceAdd, Nat.reduceSub, Nat.reduceLeDiff, Nat.reduceLT, Nat.reduceMul, Nat.reduceEqDiff, Int.reduceEq, Int.reduceBEq, Int.reduceBNe, Int.reduceLT, Int.reduceLE, Int.reduceGT, Int.reduceGE, Int.reduceNeg, Int.reduceAdd, Int.reduceSub, reduceCtorEq, List.reduceReplicate, ← List.map_take, ← List.map_drop]
  refine callI_pure h5' rfl rfl ?_
  simp -dsimp -implicitDefEqProofs only [qq, Nat.reduceBEq, reduceIte, Nat.reduceAdd, Nat.reduceSub, Nat.reduceLeDiff, Nat.reduceLT, Nat.reduceMul, Nat.reduceEqDiff, Int.reduceEq, Int.reduceBEq, Int.reduceBNe, Int.reduceLT, Int.reduceLE, Int.reduceGT, Int.reduceGE, Int.reduceNeg, Int.reduceAdd, Int.reduceSub, reduceCtorEq, List.reduceReplicate, ← List.map_take, ← List.map_drop]
  refine callI_pure h6' rfl rfl ?_
  simp -dsimp -implicitDefEqProofs only [qq, Nat.reduceBEq, reduceIte, Nat.reduceAdd, Nat.reduceSub, Nat.reduceLeDiff, Nat.reduceLT, Nat.reduceMul, Nat.reduceEqDiff, Int.reduceEq, Int.reduceBEq, Int.reduceBNe, Int.reduceLT, Int.reduceLE, Int.reduceGT, Int.reduceGE, Int.reduceNeg, Int.reduceAdd, Int.reduceSub, reduceCtorEq, List.reduceReplicate, ← List.map_take, ← List.map_drop]
  refine callI_pure s1 rfl rfl ?_
  simp -dsimp -implicitDefEqProofs only [qq, Nat.reduceBEq, reduceIte, Nat.reduceAdd, Nat.reduceSub, Nat.reduceLeDiff, Nat.reduceLT, Nat.reduceMul, Nat.reduceEqDiff, Int.reduceEq, Int.reduceBEq, Int.reduceBNe, Int.reduceLT, Int.reduceLE, Int.reduceGT, Int.reduceGE, Int.reduceNeg, Int.reduceAdd, Int.reduceSub, reduceCtorEq, List.reduceReplicate, ← List.map_take, ← List.map_drop]
  refine callI_pure s2 rfl rfl ?_
  simp -dsimp -implicitDefEqProofs only [qq, Nat.reduceBEq, reduceIte, Nat.reduceAdd, Nat.reduceSub, Nat.reduceLeDiff, Nat.reduceLT, Nat.reduceMul, Nat.reduceEqDiff, Int.reduceEq, Int.reduceBEq, Int.reduceBNe, Int.reduceLT, Int.reduceLE, Int.reduceGT, Int.reduceGE, Int.reduceNeg, Int.reduceAdd, Int.reduceSub, reduceCtorEq, List.reduceReplicate, ← List.map_take, ← List.map_drop]
  refine callI_pure s3 rfl rfl ?_
  simp -dsimp -implicitDefEqProofs only [qq, Nat.reduceBEq, reduceIte, Nat.reduceAdd, Nat.reduceSub, Nat.reduceLeDiff, Nat.reduceLT, Nat.reduceMul, Nat.reduceEqDiff, Int.reduceEq, Int.reduceBEq, Int.reduceBNe, Int.reduceLT, Int.reduceLE, Int.reduceGT, Int.reduceGE, Int.reduceNeg, Int.reduceAdd, Int.reduceSub, reduceCtorEq, List.reduceReplicate, ← List.map_take, ← List.map_drop]
  exact Ends.plain rfl rfl rfl
end Go.Sh.C3
end
section
namespace Go.Sh
open Go.Proofs Go.Sort Go.Shelf Go.RowKit Go.Lib
variable {P : Program} {ρ : Ren}
theorem sortsI_of (L : SlLaysF.n6 P ρ) (hf : isFn P (ρ.f 6)) : SortsI P (ρ.f 6) :=
  ⟨hf, fun p cap fv w => AnyF.slices_SortFunc_none { L with } p cap fv w, fun enc h1 cf hO g cb blk off cap d w eg hcmp hH hblk hsz hT => Any.slices_SortFunc_total L enc h1 cf hO g cb blk off cap d w eg hcmp hH hblk hsz hT⟩
end Go.Sh
end
section
namespace Go.Proofs
open Go.Shelf
def Try.sortInt_ren : Go.Shelf.Ren := ⟨fun | 6 => 133 | 15 => 148 | 14 => 147 | 28 => 158 | 29 => 159 | 20 => 150 | 21 => 151 | 22 => 152 | 23 => 153 | 24 => 154 | 25 => 155 | 26 => 156 | 27 => 157 | 46 => 160 | 47 => 161 | 48 => 162 | 49 => 163 | 50 => 164 | 57 => 165 | n => n, fun | 22 => 38 | 24 => 3 | 25 => 49 | 3 => 3 | 39 => 172 | 0 => 0 | 53 => 183 | 55 => 185 | 4 => 4 | 46 => 176 | 45 => 175 | 50 => 180 | 5 => 5 | 9 => 9 | 66 => 186 | 70 => 190 | 76 => 192 | 77 => 193 | n => n, fun | n => n⟩
theorem Try.sortInt : Go.Proofs.SlLaysF.n6 Try.prog Try.sortInt_ren := {
  mixed := by kernel_rfl
  f6 := ⟨Try.f133.name, by decide, Try.func133.trans (congrArg some (by kernel_rfl))⟩
  f14 := ⟨Try.f147.name, by decide, Try.func147.trans (congrArg some (by kernel_rfl))⟩
  f15 := Try.func148.trans (congrArg some (by kernel_rfl))
  f20 := ⟨Try.f150.name, by decide, Try.func150.trans (congrArg some (by kernel_rfl))⟩
  f21 := ⟨Try.f151.name, by decide, Try.func151.trans (congrArg some (by kernel_rfl))⟩
  f22 := ⟨Try.f152.name, by decide, Try.func152.trans (congrArg some (by kernel_rfl))⟩
  f23 := ⟨Try.f153.name, by decide, Try.func153.trans (congrArg some (by kernel_rfl))⟩
  f24 := ⟨Try.f154.name, by decide, Try.func154.trans (congrArg some (by kernel_rfl))⟩
  f25 := ⟨Try.f155.name, by decide, Try.func155.trans (congrArg some (by kernel_rfl))⟩
  f26 := ⟨Try.f156.name, by decide, Try.func156.trans (congrArg some (by kernel_rfl))⟩
  f27 := ⟨Try.f157.name, by decide, Try.func157.trans (congrArg some (by kernel_rfl))⟩
  f28 := Try.func158.trans (congrArg some (by kernel_rfl))
  f29 := Try.func159.trans (congrArg some (by kernel_rfl))
  f46 := ⟨Try.f160.name, by decide, Try.func160.trans (congrArg some (by kernel_rfl))⟩
  f47 := Try.func161.trans (congrArg some (by kernel_rfl))
  f48 := Try.func162.trans (congrArg some (by kernel_rfl))
  f49 := ⟨Try.f163.name, by decide, Try.func163.trans (congrArg some (by kernel_rfl))⟩
  f50 := ⟨Try.f164.name, by decide, Try.func164.trans (congrArg some (by kernel_rfl))⟩
  f57 := ⟨Try.f165.name, by decide, Try.func165.trans (congrArg some (by kernel_rfl))⟩
  t0 := Try.underlying0
  a0 := Try.isAgg0
  z0 := Try.sizeOf0
  v0 := Try.zeroValue0
  t3 := Try.underlying3
  a3 := Try.isAgg3
  z3 := Try.sizeOf3
  v3 := Try.zeroValue3
  t4 := Try.underlying4
  a4 := Try.isAgg4
  z4 := Try.sizeOf4
  v4 := Try.zeroValue4
  t5 := Try.underlying5
  a5 := Try.isAgg5
  z5 := Try.sizeOf5
  v5 := Try.zeroValue5
  t9 := Try.underlying9
  a9 := Try.isAgg9
  z9 := Try.sizeOf9
  v9 := Try.zeroValue9
  t22 := Try.underlying38
  a22 := Try.isAgg38
  z22 := Try.sizeOf38
  v22 := Try.zeroValue38
  a24 := Try.isAgg3
  z24 := Try.sizeOf3
  t25 := Try.underlying49
  a25 := Try.isAgg49
  z25 := Try.sizeOf49
  v25 := Try.zeroValue49
  t39 := Try.underlying172
  a39 := Try.isAgg172
  z39 := Try.sizeOf172
  v39 := Try.zeroValue172
  t45 := Try.underlying175
  a45 := Try.isAgg175
  z45 := Try.sizeOf175
  v45 := Try.zeroValue175
  t46 := Try.underlying176
  a46 := Try.isAgg176
  z46 := Try.sizeOf176
  v46 := Try.zeroValue176
  t50 := Try.underlying180
  a50 := Try.isAgg180
  z50 := Try.sizeOf180
  v50 := Try.zeroValue180
  t53 := Try.underlying183
  a53 := Try.isAgg183
  z53 := Try.sizeOf183
  v53 := Try.zeroValue183
  t55 := Try.underlying185
  a55 := Try.isAgg185
  z55 := Try.sizeOf185
  v55 := Try.zeroValue185
  t66 := Try.underlying186
  a66 := Try.isAgg186
  z66 := Try.sizeOf186
  v66 := Try.zeroValue186
  t70 := Try.underlying190
  a70 := Try.isAgg190
  z70 := Try.sizeOf190
  v70 := Try.zeroValue190
  t76 := Try.underlying192
  a76 := Try.isAgg192
  z76 := Try.sizeOf192
  v76 := Try.zeroValue192
  t77 := Try.underlying193
  a77 := Try.isAgg193
  z77 := Try.sizeOf193
  v77 := Try.zeroValue193 }
end Go.Proofs
end
section
namespace Go.Sh.C3
open Go.Sh Go.Proofs
set_option maxRecDepth 100000
set_option linter.unusedVariables false
theorem mixed : Try.prog.follows .mixedOrders = true := by kernel_rfl
theorem low_14 : lowF Try.prog 14 = some (105, [.tmp 6], (ic_potbanklaw03_BungSets 19 59 64 60 65 66 67 68).erase) := by kernel_rfl
theorem low_19 : lowF Try.prog 19 = some (146, [.tmp 0], (ic_potbanklaw03_sane 75 59 32 24 26 53 20 39 22 40).erase) := by kernel_rfl
theorem low_75 : lowF Try.prog 75 = some (14, [.tmp 0], (ic_potbanklaw03_example).erase) := by kernel_rfl
theorem c_C_example_75 : C_example Try.prog 75 := ok_example mixed low_75
theorem low_59 : lowF Try.prog 59 = some (53, [.cell 6 (some 3), .tmp 7], (ic_bung_Set 110 94 111 112).erase) := by kernel_rfl
theorem low_110 : lowF Try.prog 110 = some (5, [.tmp 2], (ic_bung_isWad 139).erase) := by kernel_rfl
theorem low_139 : lowF Try.prog 139 = some (24, [.tmp 6], (ic_bung_isRange).erase) := by kernel_rfl
theorem c_C_isRange_139 : C_isRange Try.prog 139 := ok_isRange mixed low_139
theorem c_C_isWad_110 : C_isWad Try.prog 110 := ok_isWad mixed low_110 c_C_isRange_139
theorem low_94 : lowF Try.prog 94 = some (29, [.tmp 2], (ic_bung_isList 100).erase) := by kernel_rfl
theorem low_100 : lowF Try.prog 100 = some (26, [.tmp 2], (ic_bung_isSaggar 111 139).erase) := by kernel_rfl
theorem low_111 : lowF Try.prog 111 = some (15, [.tmp 6], (ic_bung_within).erase) := by kernel_rfl
theorem c_C_within_111 : C_within Try.prog 111 := ok_within mixed low_111
theorem c_C_isSaggar_100 : C_isSaggar Try.prog 100 := ok_isSaggar mixed low_100 c_C_within_111 c_C_isRange_139
theorem c_C_isList_94 : C_isList Try.prog 94 := ok_isList mixed low_94 c_C_isSaggar_100
theorem low_112 : lowF Try.prog 112 = some (23, [.tmp 4], (ic_bung_stacked).erase) := by kernel_rfl
theorem c_C_stacked_112 : C_stacked Try.prog 112 := ok_stacked mixed low_112
theorem c_C_Set_59 : C_Set Try.prog 59 := ok_Set mixed low_59 c_C_isWad_110 c_C_isList_94 c_C_within_111 c_C_stacked_112
theorem low_32 : lowF Try.prog 32 = some (10, [.tmp 2, .tmp 3], (ic_bung_Loads 80 88).erase) := by kernel_rfl
theorem low_80 : lowF Try.prog 80 = some (17, [.tmp 2], (ic_bung_isBung 110 94).erase) := by kernel_rfl
theorem c_C_isBung_80 : C_isBung Try.prog 80 := ok_isBung mixed low_80 c_C_isWad_110 c_C_isList_94
theorem low_88 : lowF Try.prog 88 = some (18, [.tmp 2], (ic_bung_loads 130).erase) := by kernel_rfl
theorem low_130 : lowF Try.prog 130 = some (4, [.tmp 2], (ic_bung_down 145).erase) := by kernel_rfl
theorem low_145 : lowF Try.prog 145 = some (25, [], (ic_bung_down_1 129).erase) := by kernel_rfl
theorem low_129 : lowF Try.prog 129 = some (26, [.cell 2 (some 2)], (ic_bung_sum).erase) := by kernel_rfl
theorem c_C_sum_129 : C_sum Try.prog 129 := ok_sum mixed low_129
theorem c_C_down_130 : C_down Try.prog 130 := ok_down mixed low_130 low_145 c_C_sum_129
theorem c_C_loads_88 : C_loads Try.prog 88 := ok_loads mixed low_88 c_C_down_130
theorem c_C_Loads_32 : C_Loads Try.prog 32 := ok_Loads mixed low_32 c_C_isBung_80 c_C_loads_88
theorem low_24 : lowF Try.prog 24 = some (11, [.tmp 2, .tmp 3], (ic_bung_Stands 80 82 81).erase) := by kernel_rfl
theorem low_82 : lowF Try.prog 82 = some (26, [.tmp 2], (ic_bung_courses 88 128).erase) := by kernel_rfl
theorem low_128 : lowF Try.prog 128 = some (17, [.tmp 4], (ic_bung_answer).erase) := by kernel_rfl
theorem c_C_answer_128 : C_answer Try.prog 128 := ok_answer mixed low_128
theorem c_C_courses_82 : C_courses Try.prog 82 := ok_courses mixed low_82 c_C_loads_88 c_C_answer_128
theorem low_81 : lowF Try.prog 81 = some (9, [.tmp 2], (ic_bung_all 127).erase) := by kernel_rfl
theorem low_127 : lowF Try.prog 127 = some (9, [.tmp 4], (ic_slices_Contains_Sint_int 144).erase) := by kernel_rfl
theorem low_144 : lowF Try.prog 144 = some (19, [.tmp 4], (ic_slices_Index_Sint_int).erase) := by kernel_rfl
theorem c_C_Index_144 : C_Index Try.prog 144 := ok_Index mixed low_144
theorem c_C_Contains_127 : C_Contains Try.prog 127 := ok_Contains mixed low_127 c_C_Index_144
theorem c_C_all_81 : C_all Try.prog 81 := ok_all mixed low_81 c_C_Contains_127
theorem c_C_Stands_24 : C_Stands Try.prog 24 := ok_Stands mixed low_24 c_C_isBung_80 c_C_courses_82 c_C_all_81
theorem low_26 : lowF Try.prog 26 = some (9, [.tmp 2, .tmp 3], (ic_bung_Lean 80 84).erase) := by kernel_rfl
theorem low_84 : lowF Try.prog 84 = some (41, [.tmp 2], (ic_bung_lean).erase) := by kernel_rfl
theorem c_C_lean_84 : C_lean Try.prog 84 := ok_lean mixed low_84
theorem c_C_Lean_26 : C_Lean Try.prog 26 := ok_Lean mixed low_26 c_C_isBung_80 c_C_lean_84
theorem low_53 : lowF Try.prog 53 = some (55, [.cell 2 (some 3), .tmp 3], (ic_bung_Breaks 80 82).erase) := by kernel_rfl
theorem c_C_Breaks_53 : C_Breaks Try.prog 53 := ok_Breaks mixed low_53 c_C_isBung_80 c_C_courses_82
theorem low_20 : lowF Try.prog 20 = some (45, [.tmp 6, .tmp 7], (ic_bung_Fewest 76 77).erase) := by kernel_rfl
theorem low_76 : lowF Try.prog 76 = some (19, [.tmp 6], (ic_bung_asked 110 94 85).erase) := by kernel_rfl
theorem low_85 : lowF Try.prog 85 = some (11, [.tmp 2], (ic_bung_isSpot 111).erase) := by kernel_rfl
theorem c_C_isSpot_85 : C_isSpot Try.prog 85 := ok_isSpot mixed low_85 c_C_within_111
theorem c_C_asked_76 : C_asked Try.prog 76 := ok_asked mixed low_76 c_C_isWad_110 c_C_isList_94 c_C_isSpot_85
theorem low_77 : lowF Try.prog 77 = some (69, [.tmp 8], (ic_bung_packer_pack 124 125 126 77).erase) := by kernel_rfl
theorem low_124 : lowF Try.prog 124 = some (8, [.tmp 2], (ic_slices_Clone_SSint_Sint).erase) := by kernel_rfl
theorem c_C_CloneR_124 : C_CloneR Try.prog 124 := ok_CloneR mixed low_124
theorem low_125 : lowF Try.prog 125 = some (8, [.tmp 2], (ic_slices_Clone_Sint_int).erase) := by kernel_rfl
theorem c_C_CloneI_125 : C_CloneI Try.prog 125 := ok_CloneI mixed low_125
theorem low_126 : lowF Try.prog 126 = some (36, [.tmp 4], (ic_bung_packer_known 107).erase) := by kernel_rfl
theorem low_107 : lowF Try.prog 107 = some (19, [.tmp 4], (ic_bung_packer_do 95 112 86).erase) := by kernel_rfl
theorem low_95 : lowF Try.prog 95 = some (14, [.tmp 4], (ic_bung_rule 132 125 134 133).erase) := by kernel_rfl
theorem isFn_134 : isFn Try.prog 134 := ⟨_, Try.func134, by kernel_rfl, by kernel_rfl⟩
theorem low_132 : lowF Try.prog 132 = some (17, [.tmp 3], (ic_bung_rule_1).erase) := by kernel_rfl
theorem c_C_strong_132 : C_strong Try.prog 132 := ok_strong mixed low_132
theorem low_134 : lowF Try.prog 134 = some (27, [.tmp 6], (ic_bung_rule_2 136 135).erase) := by kernel_rfl
theorem low_136 : lowF Try.prog 136 = some (20, [.tmp 4], (ic_cmp_Compare_int 149).erase) := by kernel_rfl
theorem low_149 : lowF Try.prog 149 = some (6, [.tmp 2], (ic_cmp_isNaN_int).erase) := by kernel_rfl
theorem c_C_isNaN_149 : C_isNaN Try.prog 149 := ok_isNaN mixed low_149
theorem c_C_Compare_136 : C_Compare Try.prog 136 := ok_Compare mixed low_136 c_C_isNaN_149
theorem low_135 : lowF Try.prog 135 = some (18, [.tmp 2], (ic_cmp_Or_int).erase) := by kernel_rfl
theorem c_C_Or_135 : C_Or Try.prog 135 := ok_Or mixed low_135
theorem c_C_order_134_132 : C_order Try.prog 134 132 := ok_order mixed low_134 c_C_Compare_136 c_C_Or_135 c_C_strong_132
theorem isFn_133 : isFn Try.prog 133 := ⟨_, Try.func133, by kernel_rfl, by kernel_rfl⟩
theorem c_C_rule_95 : C_rule Try.prog 95 := ok_rule mixed low_95 isFn_134 c_C_strong_132 c_C_CloneI_125 c_C_order_134_132 (sortsI_of Try.sortInt isFn_133)
theorem low_86 : lowF Try.prog 86 = some (40, [.tmp 4], (ic_bung_fits 83 82 81 84).erase) := by kernel_rfl
theorem low_83 : lowF Try.prog 83 = some (29, [.cell 2 (some 2)], (ic_bung_height 129).erase) := by kernel_rfl
theorem c_C_height_83 : C_height Try.prog 83 := ok_height mixed low_83 c_C_sum_129
theorem c_C_fits_86 : C_fits Try.prog 86 := ok_fits mixed low_86 c_C_height_83 c_C_courses_82 c_C_all_81 c_C_lean_84
theorem c_C_do_107 : C_do Try.prog 107 := ok_do mixed low_107 c_C_rule_95 c_C_stacked_112 c_C_fits_86
theorem c_C_known_126 : C_known Try.prog 126 := ok_known' mixed low_126 c_C_do_107
theorem c_C_pack_77 : C_pack Try.prog 77 := ok_pack mixed low_77 c_C_CloneR_124 c_C_CloneI_125 c_C_known_126
theorem c_C_Fewest_20 : C_Fewest Try.prog 20 := ok_Fewest mixed low_20 c_C_asked_76 c_C_pack_77
theorem low_39 : lowF Try.prog 39 = some (31, [.tmp 4], (ic_potbankref03_SameRanges).erase) := by kernel_rfl
theorem c_C_SameRanges_39 : C_SameRanges Try.prog 39 := ok_SameRanges mixed low_39
theorem low_22 : lowF Try.prog 22 = some (31, [.tmp 4], (ic_potbankref03_SameParts 40).erase) := by kernel_rfl
theorem low_40 : lowF Try.prog 40 = some (26, [.tmp 4], (ic_potbankref01_Same).erase) := by kernel_rfl
theorem c_C_Same_40 : C_Same Try.prog 40 := ok_Same mixed low_40
theorem c_C_SameParts_22 : C_SameParts Try.prog 22 := ok_SameParts mixed low_22 c_C_Same_40
theorem c_C_sane_19 : C_sane Try.prog 19 := ok_sane mixed low_19 c_C_example_75 c_C_Set_59 c_C_Loads_32 c_C_Stands_24 c_C_Lean_26 c_C_Breaks_53 c_C_Fewest_20 c_C_SameRanges_39 c_C_SameParts_22 c_C_Same_40
theorem low_64 : lowF Try.prog 64 = some (58, [.cell 4 (some 3), .tmp 5], (ic_potbankref03_Set 103 50 101 73 115).erase) := by kernel_rfl
theorem low_103 : lowF Try.prog 103 = some (5, [.tmp 2], (ic_potbankref03_isWad 102).erase) := by kernel_rfl
theorem low_102 : lowF Try.prog 102 = some (24, [.tmp 6], (ic_potbankref03_part).erase) := by kernel_rfl
theorem c_C_isRange_102 : C_isRange Try.prog 102 := ok_rpart mixed low_102
theorem c_C_isWad_103 : C_isWad Try.prog 103 := ok_risWad mixed low_103 c_C_isRange_102
theorem low_50 : lowF Try.prog 50 = some (30, [.tmp 2], (ic_potbankref03_CheckList 46 104).erase) := by kernel_rfl
theorem low_46 : lowF Try.prog 46 = some (31, [.tmp 2], (ic_potbankref03_CheckSaggar 101 102).erase) := by kernel_rfl
theorem low_101 : lowF Try.prog 101 = some (15, [.tmp 6], (ic_potbankref03_In).erase) := by kernel_rfl
theorem c_C_within_101 : C_within Try.prog 101 := ok_rIn mixed low_101
theorem c_C_CheckSaggar_46 : C_CheckSaggar Try.prog 46 := ok_rCheckSaggar mixed low_46 c_C_within_101 c_C_isRange_102
theorem low_104 : lowF Try.prog 104 = some (19, [.tmp 4], (ic_potbankref03_has).erase) := by kernel_rfl
theorem c_C_has_104 : C_has Try.prog 104 := ok_has mixed low_104
theorem c_C_CheckList_50 : C_CheckList Try.prog 50 := ok_rCheckList mixed low_50 c_C_CheckSaggar_46 c_C_has_104
theorem low_73 : lowF Try.prog 73 = some (18, [.tmp 4], (ic_potbankref01_Has).erase) := by kernel_rfl
theorem c_C_Has_73 : C_Has Try.prog 73 := ok_Has mixed low_73
theorem low_115 : lowF Try.prog 115 = some (24, [.tmp 4], (ic_potbankref03_some).erase) := by kernel_rfl
theorem c_C_stacked_115 : C_stacked Try.prog 115 := ok_some mixed low_115
theorem c_C_rSet_64 : C_rSet Try.prog 64 := ok_rSet mixed low_64 c_C_isWad_103 c_C_CheckList_50 c_C_within_101 c_C_Has_73 c_C_stacked_115
theorem low_60_s2 : lowF Try.prog 60 2 = some (44, [.cell 4 (some 3), .tmp 5], (ic_bung_Swap_s2 80 111 113).erase) := by kernel_rfl
theorem low_113 : lowF Try.prog 113 = some (8, [.tmp 2], (ic_slices_Clone_Sapi_Saggar_api_Saggar).erase) := by kernel_rfl
theorem c_C_CloneG_113 : C_CloneG Try.prog 113 := ok_CloneG mixed low_113
theorem c_C_Swap_60 : C_Swap Try.prog 60 := ok_Swap mixed low_60_s2 c_C_isBung_80 c_C_within_111 c_C_CloneG_113
theorem low_65 : lowF Try.prog 65 = some (45, [.cell 4 (some 3), .tmp 5], (ic_potbankref03_Swap 48 101).erase) := by kernel_rfl
theorem low_48 : lowF Try.prog 48 = some (19, [.tmp 2], (ic_potbankref03_Check 103 50).erase) := by kernel_rfl
theorem c_C_Check_48 : C_Check Try.prog 48 := ok_rCheck mixed low_48 c_C_isWad_103 c_C_CheckList_50
theorem c_C_Swap_65 : C_Swap Try.prog 65 := ok_rSwap mixed low_65 c_C_Check_48 c_C_within_101
theorem low_66_s1 : lowF Try.prog 66 1 = some (37, [.cell 4 (some 3), .tmp 5], (ic_bung_Top_s1 80 100 117 116 113).erase) := by kernel_rfl
theorem low_117 : lowF Try.prog 117 = some (9, [.tmp 3], (ic_bung_Top_1).erase) := by kernel_rfl
theorem c_C_Tp1_117 : C_Tp1 Try.prog 117 := ok_Tp1 mixed low_117
theorem low_116 : lowF Try.prog 116 = some (9, [.tmp 4], (ic_slices_ContainsFunc_Sapi_Saggar_api_Saggar 141).erase) := by kernel_rfl
theorem low_141 : lowF Try.prog 141 = some (19, [.tmp 4], (ic_slices_IndexFunc_Sapi_Saggar_api_Saggar).erase) := by kernel_rfl
theorem c_C_IdxF_141 : C_IdxF Try.prog 141 := ok_IdxF mixed low_141
theorem c_C_ConF_116 : C_ConF Try.prog 116 := ok_ConF mixed low_116 c_C_IdxF_141
theorem c_C_Top_66 : C_Top Try.prog 66 := ok_Top mixed low_66_s1 c_C_isBung_80 c_C_isSaggar_100 c_C_Tp1_117 c_C_ConF_116 c_C_CloneG_113
theorem low_67 : lowF Try.prog 67 = some (35, [.cell 4 (some 3), .tmp 5], (ic_potbankref03_Top 48 46 104).erase) := by kernel_rfl
theorem c_C_Top_67 : C_Top Try.prog 67 := ok_rTop mixed low_67 c_C_Check_48 c_C_CheckSaggar_46 c_C_has_104
theorem low_68 : lowF Try.prog 68 = some (19, [.tmp 4], (ic_potbankref03_SameBung 118).erase) := by kernel_rfl
theorem low_118 : lowF Try.prog 118 = some (31, [.tmp 4], (ic_potbankref03_SameList).erase) := by kernel_rfl
theorem c_C_SameList_118 : C_SameList Try.prog 118 := ok_SameList mixed low_118
theorem c_C_SameBung_68 : C_SameBung Try.prog 68 := ok_SameBung mixed low_68 c_C_SameList_118
theorem c_L_BungSets_14 : L_BungSets Try.prog 14 := ok_BungSets mixed low_14 c_C_sane_19 c_C_Set_59 c_C_rSet_64 c_C_Swap_60 c_C_Swap_65 c_C_Top_66 c_C_Top_67 c_C_SameBung_68
theorem isFn_14 : isFn Try.prog 14 := ⟨_, Try.func14, by kernel_rfl, by kernel_rfl⟩
end Go.Sh.C3
end
