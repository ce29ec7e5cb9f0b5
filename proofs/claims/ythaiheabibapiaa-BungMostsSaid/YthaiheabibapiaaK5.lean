/- The calculus over shadows, and contracts: B5J, B6A, B6B, B6C, B4C, B4L, B6D, B6E, B6F, ShSp, TryShelfP, S3BungMosts. -/
import Derived.Test.YthaiheabibapiaaK4
import Derived.Shelf.SlSortCmp.NoneTotal
import Derived.Shelf.SlLaysF
import Derived.Shelf.SlGeneric
import Derived.Ground.SlsfProg
import Derived.Test.YthaiheabibapiaaProg
set_option linter.all false
section
namespace Go.Sh.C3
open Go.Sh
set_option maxRecDepth 10000
set_option linter.unusedVariables false
set_option linter.unusedSimpArgs false
variable {P : Program}
def ic_potbankref03_given : IC := .seq (.reg [⟨some 6, none, .mov (.c (.nsl))⟩] [0, 1, 2]) (.seq (.reg [⟨some 7, none, .mov (.c (.nsl))⟩] [0, 1, 2, 7]) (.seq (.seq (.reg [⟨some 8, none, .mov (.c (.i .i64 (0)))⟩] [0, 1, 2, 7, 8]) (.block 0 (.loop (.seq (.seq (.reg [⟨some 9, none, .mov (.t 8)⟩, ⟨some 10, none, .mov (.t 0)⟩, ⟨some 11, none, .len false (.t 10)⟩, ⟨some 12, none, .bin .lss (.t 9) (.t 11)⟩] [0, 1, 2, 7, 8, 12]) (.cond (.t 12) (.skip) (.exit 0))) (.seq (.block 1 (.reg [⟨some 15, none, .mov (.t 7)⟩, ⟨some 16, none, .bsl false 1 0 [.i .i64 (0)] []⟩, ⟨some 17, none, .mov (.t 0)⟩, ⟨some 18, none, .mov (.t 8)⟩, ⟨some 19, none, .ixs 1 (.t 17) (.t 18)⟩, ⟨some 20, none, .ld none (.t 19)⟩, ⟨some 21, none, .app 1 8 (.t 16) (.t 20)⟩, ⟨some 22, none, .bsl false 1 1 [.nsl] [(0, (.t 21))]⟩, ⟨some 23, none, .app 1 24 (.t 15) (.t 22)⟩, ⟨some 7, none, .mov (.t 23)⟩] [0, 1, 2, 7, 8])) (.reg [⟨some 13, none, .mov (.t 8)⟩, ⟨some 14, none, .bin .add (.t 13) (.c (.i .i64 (1)))⟩, ⟨some 8, none, .mov (.t 14)⟩] [0, 1, 2, 7, 8])))))) (.seq (.seq (.reg [⟨some 24, none, .mov (.t 1)⟩, ⟨some 25, none, .mov (.t 7)⟩, ⟨some 26, none, .len false (.t 25)⟩, ⟨some 27, none, .bin .eql (.t 24) (.t 26)⟩] [1, 2, 7, 27]) (.cond (.t 27) (.reg [⟨some 28, none, .mov (.t 7)⟩, ⟨some 29, none, .bsl false 1 1 [.nsl] [(0, (.c (.nsl)))]⟩, ⟨some 30, none, .app 1 24 (.t 28) (.t 29)⟩, ⟨some 7, none, .mov (.t 30)⟩] [1, 2, 7]) (.skip))) (.seq (.reg [⟨some 31, none, .mov (.t 7)⟩, ⟨some 32, none, .mov (.t 1)⟩, ⟨some 33, none, .mov (.t 7)⟩, ⟨some 34, none, .mov (.t 1)⟩, ⟨some 35, none, .ixs 1 (.t 33) (.t 34)⟩, ⟨some 36, none, .ld none (.t 35)⟩, ⟨some 37, none, .mov (.t 2)⟩, ⟨some 38, none, .bsl false 1 1 [.i .i64 (0)] [(0, (.t 37))]⟩, ⟨some 39, none, .app 1 8 (.t 36) (.t 38)⟩, ⟨some 40, none, .ixs 1 (.t 31) (.t 32)⟩, ⟨none, none, .st 1 (.t 40) (.t 39)⟩] [7]) (.seq (.reg [⟨some 41, none, .mov (.t 7)⟩, ⟨some 6, none, .mov (.t 41)⟩] [6]) (.ret))))))
abbrev Low_potbankref03_given (P : Program) (f : Nat) : Prop := lowF P f = some (42, [.tmp 6], (ic_potbankref03_given).erase)
def ic_potbankref03_parted (f0 f1 f2 : Nat) : IC := .seq (.reg [⟨some 3, none, .box (.t 0)⟩, ⟨some 6, none, .mov (.c (.nsl))⟩, ⟨some 7, none, .mov (.c (.b false))⟩] [1, 2, 3]) (.seq (.reg [⟨some 8, none, .mov (.c (.i .i64 (0)))⟩] [1, 2, 3, 8]) (.seq (.seq (.reg [⟨some 9, none, .mov (.c (.i .i64 (0)))⟩] [1, 2, 3, 8, 9]) (.block 0 (.loop (.seq (.seq (.reg [⟨some 13, none, .mov (.t 9)⟩, ⟨some 14, none, .mov (.t 1)⟩, ⟨some 15, none, .len false (.t 14)⟩, ⟨some 16, none, .bin .lss (.t 13) (.t 15)⟩] [1, 2, 3, 8, 9, 16]) (.cond (.t 16) (.skip) (.exit 0))) (.seq (.block 1 (.reg [⟨some 19, none, .mov (.t 8)⟩, ⟨some 20, none, .mov (.t 1)⟩, ⟨some 21, none, .mov (.t 9)⟩, ⟨some 22, none, .ixs 1 (.t 20) (.t 21)⟩, ⟨some 23, none, .ld none (.t 22)⟩, ⟨some 24, none, .len false (.t 23)⟩, ⟨some 25, none, .bin .add (.t 19) (.t 24)⟩, ⟨some 8, none, .mov (.t 25)⟩] [1, 2, 3, 8, 9])) (.reg [⟨some 17, none, .mov (.t 9)⟩, ⟨some 18, none, .bin .add (.t 17) (.c (.i .i64 (1)))⟩, ⟨some 9, none, .mov (.t 18)⟩] [1, 2, 3, 8, 9])))))) (.seq (.seq (.reg [⟨some 26, none, .mov (.t 8)⟩, ⟨some 27, none, .fad 2 (.t 3)⟩, ⟨some 28, none, .ld none (.t 27)⟩, ⟨some 29, none, .len false (.t 28)⟩, ⟨some 30, none, .bin .eql (.t 26) (.t 29)⟩] [1, 2, 3, 8, 30]) (.cond (.t 30) (.seq (.reg [⟨some 31, none, .mov (.t 1)⟩, ⟨some 32, none, .ld (some 5) (.t 3)⟩, ⟨some 33, none, .mov (.t 1)⟩, ⟨some 34, none, .calv (.c (.fn (.func f0) [] [])) [.t 32, .t 33]⟩, ⟨some 6, none, .mov (.t 31)⟩, ⟨some 7, none, .mov (.t 34)⟩] [6, 7]) (.ret)) (.skip))) (.seq (.seq (.reg [⟨some 10, none, .mov (.c (.i .i64 (0)))⟩] [1, 2, 3, 8, 10]) (.block 2 (.loop (.seq (.seq (.reg [⟨some 35, none, .mov (.t 10)⟩, ⟨some 36, none, .mov (.t 1)⟩, ⟨some 37, none, .len false (.t 36)⟩, ⟨some 38, none, .bin .leq (.t 35) (.t 37)⟩, ⟨some 39, none, .mov (.t 38)⟩, ⟨some 40, some (39, true), .mov (.t 10)⟩, ⟨some 41, some (39, true), .mov (.t 2)⟩, ⟨some 42, some (39, true), .bin .lss (.t 40) (.t 41)⟩, ⟨some 43, none, .pick (.t 39) (.t 42) (.c (.b false))⟩] [1, 2, 3, 8, 10, 43]) (.cond (.t 43) (.skip) (.exit 2))) (.seq (.block 3 (.seq (.drg [(0, ⟨some 47, none, .ld (some 5) (.t 3)⟩), (0, ⟨some 48, none, .mov (.t 1)⟩), (0, ⟨some 49, none, .mov (.t 10)⟩), (0, ⟨some 50, none, .mov (.t 8)⟩), (0, ⟨some 51, none, .calv (.c (.fn (.func f1) [] [])) [.t 48, .t 49, .t 50]⟩), (0, ⟨some 52, none, .mov (.t 2)⟩), (0, ⟨some 53, none, .calv (.c (.fn (.func f2) [] [])) [.t 47, .t 51, .t 52]⟩), (0, ⟨some 46, none, .mov (.t 53)⟩), (0, ⟨some 54, none, .ext (.t 46) 0⟩), (0, ⟨some 55, none, .ext (.t 46) 1⟩), (0, ⟨some 11, none, .mov (.t 54)⟩), (0, ⟨some 12, none, .mov (.t 55)⟩)] 11 [1, 2, 3, 8, 10, 11, 12]) (.seq (.reg [⟨some 56, none, .mov (.t 12)⟩] [1, 2, 3, 8, 10, 11, 56]) (.cond (.t 56) (.seq (.reg [⟨some 57, none, .mov (.t 11)⟩, ⟨some 6, none, .mov (.t 57)⟩, ⟨some 7, none, .mov (.c (.b true))⟩] [6, 7]) (.ret)) (.skip))))) (.reg [⟨some 44, none, .mov (.t 10)⟩, ⟨some 45, none, .bin .add (.t 44) (.c (.i .i64 (1)))⟩, ⟨some 10, none, .mov (.t 45)⟩] [1, 2, 3, 8, 10])))))) (.seq (.reg [⟨some 6, none, .mov (.c (.nsl))⟩, ⟨some 7, none, .mov (.c (.b false))⟩] [6, 7]) (.ret))))))
abbrev Low_potbankref03_parted (P : Program) (f f0 f1 f2 : Nat) : Prop := lowF P f = some (58, [.tmp 6, .tmp 7], (ic_potbankref03_parted f0 f1 f2).erase)
def ic_potbankref03_Fewest (f0 f1 : Nat) : IC := .seq (.reg [⟨some 1, none, .box (.t 0)⟩, ⟨some 2, none, .mov (.c (.nsl))⟩, ⟨some 3, none, .mov (.c (.i .i64 (0)))⟩] [1]) (.seq (.reg [⟨some 8, none, .ld (some 5) (.t 1)⟩, ⟨some 9, none, .calv (.c (.fn (.func f0) [] [])) [.t 8]⟩, ⟨some 4, none, .mov (.t 9)⟩] [1, 4]) (.seq (.seq (.reg [⟨some 10, none, .mov (.t 4)⟩, ⟨some 11, none, .bin .neq (.t 10) (.c (.i .i64 (0)))⟩] [1, 4, 11]) (.cond (.t 11) (.seq (.reg [⟨some 12, none, .mov (.t 4)⟩, ⟨some 2, none, .mov (.c (.nsl))⟩, ⟨some 3, none, .mov (.t 12)⟩] [2, 3]) (.ret)) (.skip))) (.seq (.seq (.reg [⟨some 13, none, .fad 2 (.t 1)⟩, ⟨some 14, none, .ld none (.t 13)⟩, ⟨some 15, none, .len false (.t 14)⟩, ⟨some 16, none, .bin .gtr (.t 15) (.c (.i .i64 (9)))⟩] [1, 16]) (.cond (.t 16) (.seq (.reg [⟨some 2, none, .mov (.c (.nsl))⟩, ⟨some 3, none, .mov (.c (.i .i64 (36)))⟩] [2, 3]) (.ret)) (.skip))) (.seq (.seq (.reg [⟨some 5, none, .mov (.c (.i .i64 (0)))⟩] [1, 5]) (.block 0 (.loop (.seq (.seq (.reg [⟨some 17, none, .mov (.t 5)⟩, ⟨some 18, none, .fad 2 (.t 1)⟩, ⟨some 19, none, .ld none (.t 18)⟩, ⟨some 20, none, .len false (.t 19)⟩, ⟨some 21, none, .bin .leq (.t 17) (.t 20)⟩] [1, 5, 21]) (.cond (.t 21) (.skip) (.exit 0))) (.seq (.block 1 (.seq (.reg [⟨some 25, none, .ld (some 5) (.t 1)⟩, ⟨some 26, none, .mov (.t 5)⟩, ⟨some 27, none, .calv (.c (.fn (.func f1) [] [])) [.t 25, .c (.nsl), .t 26]⟩, ⟨some 24, none, .mov (.t 27)⟩, ⟨some 28, none, .ext (.t 24) 0⟩, ⟨some 29, none, .ext (.t 24) 1⟩, ⟨some 6, none, .mov (.t 28)⟩, ⟨some 7, none, .mov (.t 29)⟩] [1, 5, 6, 7]) (.seq (.reg [⟨some 30, none, .mov (.t 7)⟩] [1, 5, 6, 30]) (.cond (.t 30) (.seq (.reg [⟨some 31, none, .mov (.t 6)⟩, ⟨some 2, none, .mov (.t 31)⟩, ⟨some 3, none, .mov (.c (.i .i64 (0)))⟩] [2, 3]) (.ret)) (.skip))))) (.reg [⟨some 22, none, .mov (.t 5)⟩, ⟨some 23, none, .bin .add (.t 22) (.c (.i .i64 (1)))⟩, ⟨some 5, none, .mov (.t 23)⟩] [1, 5])))))) (.seq (.reg [⟨some 2, none, .mov (.c (.nsl))⟩, ⟨some 3, none, .mov (.c (.i .i64 (3)))⟩] [2, 3]) (.ret))))))
abbrev Low_potbankref03_Fewest (P : Program) (f f0 f1 : Nat) : Prop := lowF P f = some (32, [.tmp 2, .tmp 3], (ic_potbankref03_Fewest f0 f1).erase)

/-- An append that leaves all other slices as they were. -/
theorem app_ownA {k bytes : Nat} {x y : V} {H l : List Blk} {rows ys : List (List V)} {K : V → List Blk → Prop} (hx : OwnS H k rows x) (h0 : 0 < k) (hb : bytes ≤ 1000000) (hy : Sh.shown (H ++ l) y = some ys) (hys : ∀ r ∈ ys, r.length = k ∧ r.all V.one = true)
    (hl : rows.length + ys.length ≤ 1000000) (hK : ∀ x' H', OwnS H' k (rows ++ ys) x' → (∀ kv rv v, OwnS H kv rv v → Dis x v → OwnS H' kv rv v ∧ Dis x' v) → K x' H') : appI k bytes x y (H ++ l) K :=
  app_own (hx.app l) h0 hb hy hys hl fun x' H' h1 h2 h3 => hK x' H' h1 fun kv rv v hv hd =>
    ⟨hv.move fun p b c e hp hve => h2.keep p b (get_app hp l) fun k o l c e hxe => hd _ _ _ _ _ _ _ _ _ _ _ hxe hve,
    fun p k o l' c e k' o' l'' c' e' he hve => by
      rcases h3 p k o l' c e he with g | g
      · exact hd _ _ _ _ _ _ _ _ _ _ _ g hve
      · have := hv.lt hve; simp at g; omega⟩
theorem frz_set {H : List Blk} {p i n c : Nat} {e : Bool} {rows z : List (List V)} {u : V} (h : H[p]? = some (.row 1 (rows.set i [u]))) (hn : rows.length = n) (hb : ∀ row ∈ rows.set i [.fsl z], belL 0 row = true) (hu : Frz 0 H u (.fsl z)) : Frz 0 H (.rsl p 1 0 n c e) (.fsl (rows.set i [.fsl z])) := by
  subst hn
  refine .sl p 1 0 rows.length c e _ _ (Nat.zero_le _) h (by simp) (by simp) hb ?_ ?_
  · intro j row row' h1 h3
    rw [List.drop_zero, List.take_of_length_le (by simp)] at h1
    rw [List.getElem?_set] at h1 h3
    split at h1
    · rename_i hij
      rw [if_pos hij] at h3
      split at h1
      · rename_i hl
        rw [if_pos hl] at h3
        cases h1; cases h3; rfl
      · cases h1
    · rename_i hij
      rw [if_neg hij] at h3
      rw [h1] at h3; cases h3; rfl
  · intro j row row' q x x' h1 h3 e1 e2
    rw [List.drop_zero, List.take_of_length_le (by simp)] at h1
    have hmem := List.mem_of_getElem? h3
    rw [List.getElem?_set] at h1 h3
    split at h1
    · rename_i hij
      rw [if_pos hij] at h3
      split at h1
      · rename_i hl
        rw [if_pos hl] at h3
        cases h1; cases h3
        cases q with
        | zero => simp at e1 e2; subst e1 e2; exact hu
        | succ q => simp at e1
      · cases h1
    · rename_i hij
      rw [if_neg hij] at h3
      rw [h1] at h3; cases h3
      rw [e1] at e2; cases e2; exact .keep _ (belL_get (hb _ hmem) e1)

def C_given (P : Program) (f : Nat) : Prop := ∀ (bs : List (List Int)) (k : Nat) (i : Int), k ≤ bs.length → bs.length ≤ 1000 → (∀ b ∈ bs, b ≠ [] ∧ b.length ≤ 1000) → Snd P f [.fsl (bs.map rowC), .i .i64 k, .i .i64 i] [] (.fsl ((addS bs k i).map rowC)) []
/-- The rows that were laid, the k-th one a slice of one's own. -/
def Rows (bs : List (List Int)) (k n : Nat) (H : List Blk) (v : V) : Prop := ∃ rows, OwnS H 1 rows v ∧ rows.length = n ∧ ((n ≤ k ∧ rows = (bs.take n).map rowC) ∨ (k < n ∧ ∃ u b, bs[k]? = some b ∧ rows = ((bs.take n).map rowC).set k [u] ∧ OwnS H 1 (b.map intC) u ∧ Dis v u))
theorem rows_next {bs : List (List Int)} {k n : Nat} {H H' : List Blk} {v v' x : V} {rows : List (List V)} {b : List Int} (hb : bs[n]? = some b) (ho : OwnS H 1 rows v) (hn : rows.length = n) (hs : (n ≤ k ∧ rows = (bs.take n).map rowC) ∨ (k < n ∧ ∃ u b, bs[k]? = some b ∧ rows = ((bs.take n).map rowC).set k [u] ∧ OwnS H 1 (b.map intC) u ∧ Dis v u))
    (hv' : OwnS H' 1 (rows ++ [[x]]) v') (hx' : OwnS H' 1 (b.map intC) x) (hd' : Dis v' x) (hmv : ∀ kv rv w, OwnS H kv rv w → Dis v w → OwnS H' kv rv w ∧ Dis v' w ∧ Dis x w) : ∃ H2, (∀ E : Env, Shift E H' E H2) ∧ Rows bs k (n + 1) H2 v' := by
  have hlt := (List.getElem?_eq_some_iff.1 hb).1
  have htk : bs.take (n + 1) = bs.take n ++ [b] := by rw [List.take_add_one, hb]; rfl
  have hbel : ∀ r ∈ b.map intC, belL 0 r = true := bel_ints b
  rcases Nat.lt_trichotomy n k with h | h | h
  · obtain ⟨H2, hs2, hv2, _, _⟩ := shift_last hv' hx' hd' hbel
    have hr : rows = (bs.take n).map rowC := by rcases hs with ⟨_, g⟩ | ⟨g, _⟩ <;> first | exact g | omega
    exact ⟨H2, hs2, _, hv2, by simp [hn], .inl ⟨by omega, by rw [htk, List.map_append, hr]; rfl⟩⟩
  · subst h
    have hr : rows = (bs.take n).map rowC := by rcases hs with ⟨_, g⟩ | ⟨g, _⟩ <;> first | exact g | omega
    refine ⟨H', fun E => .refl _ _, _, hv', by simp [hn], .inr ⟨by omega, x, b, hb, ?_, hx', hd'⟩⟩
    rw [htk, List.map_append, hr, List.set_append_right _ _ (by simp; omega)]
    simp [Nat.min_eq_left (show n ≤ bs.length by omega)]
  · obtain ⟨u, bk, hbk, hr, hu, hdu⟩ : ∃ u bk, bs[k]? = some bk ∧ rows = ((bs.take n).map rowC).set k [u] ∧ OwnS H 1 (bk.map intC) u ∧ Dis v u := by rcases hs with ⟨g, _⟩ | ⟨_, g⟩ <;> first | exact g | omega
    obtain ⟨H2, hs2, hv2, _, hkeep⟩ := shift_last hv' hx' hd' hbel
    obtain ⟨m1, m2, m3⟩ := hmv _ _ _ hu hdu
    refine ⟨H2, hs2, _, hv2, by simp [hn], .inr ⟨by omega, u, bk, hbk, ?_, m1.move fun p b c e hp hue => hkeep p b hp (fun k o l c e he => m2 _ _ _ _ _ _ _ _ _ _ _ he hue) (fun k o l c e he => m3 _ _ _ _ _ _ _ _ _ _ _ he hue), m2⟩⟩
    rw [htk, List.map_append, hr, List.set_append_left _ _ (by simp; omega)]
    rfl
theorem ok_given (hm : P.follows .mixedOrders = true) {f : Nat} (low : Low_potbankref03_given P f) : C_given P f := by
  intro bs k i hk hl hbs
  refine snd_ic hm low (by simp) ?_
  unfold ic_potbankref03_given
  simp -dsimp -implicitDefEqProofs only [qq, Nat.reduceBEq, reduceIte, Nat.reduceAdd, Nat.reduceSub, Nat.reduceLeDiff, Nat.reduceLT, Nat.reduceMul, Nat.reduceEqDiff, Int.reduceEq, Int.reduceBEq, Int.reduceBNe, Int.reduceLT, Int.reduceLE, Int.reduceGT, Int.reduceGE, Int.reduceNeg, Int.reduceAdd, Int.reduceSub, reduceCtorEq, List.reduceReplicate, ← List.map_take, ← List.map_drop]
  refine loopI_sh (fun n : Nat => bs.length - n) (fun n E H => n ≤ bs.length ∧ ∃ v, E = [(0, .fsl (bs.map rowC)), (1, .i .i64 k), (2, .i .i64 i), (7, v), (8, .i .i64 n)] ∧ Rows bs k n H v) 0 (.refl _ _) ⟨by omega, _, rfl, [], .nil _ _, rfl, .inl ⟨by omega, rfl⟩⟩ ?_
  rintro n _ H ⟨hn, v, rfl, rows, ho, hrl, hs⟩
  rcases Nat.lt_or_ge n bs.length with hkl | hkl
  · have hc : decide ((n : Int) < (bs.length : Int)) = true := by simpa using hkl
    obtain ⟨b, hb, hbm, _, _⟩ := next_of hkl
    obtain ⟨hbne, hbl⟩ := hbs b hbm
    have hwn : IntKind.i64.wrap ((n : Int) + 1) = ((n + 1 : Nat) : Int) := wrap_succ (by omega)
    simp -dsimp -implicitDefEqProofs only [hc, hb, rowC, qq, Nat.reduceBEq, reduceIte, Nat.reduceAdd, Nat.reduceSub, Nat.reduceLeDiff, Nat.reduceLT, Nat.reduceMul, Nat.reduceEqDiff, Int.reduceEq, Int.reduceBEq, Int.reduceBNe, Int.reduceLT, Int.reduceLE, Int.reduceGT, Int.reduceGE, Int.reduceNeg, Int.reduceAdd, Int.reduceSub, reduceCtorEq, List.reduceReplicate, ← List.map_take, ← List.map_drop]
    refine app_emp (ys := b.map intC) (by decide) (by decide) rfl (fun r hr => by obtain ⟨x, _, rfl⟩ := List.mem_map.1 hr; exact ⟨rfl, rfl⟩) (by simp; omega) fun x H' hx => ?_
    have hxo : OwnS H' 1 (b.map intC) x := hx.own
    obtain ⟨px, cx, ex, rfl, hpx⟩ := hxo.pos (by simpa using hbne)
    have hfx := hx.fresh _ _ _ _ _ _ rfl
    have hov : OwnS H' 1 rows v := ho.move fun p b c e hp _ => hx.keep p b hp
    have hdv : Dis v (.rsl px 1 0 (b.map intC).length cx ex) := fun p k o l c e k' o' l' c' e' h1 h2 => by have := ho.lt h1; cases h2; omega
    simp -dsimp -implicitDefEqProofs only [qq, Nat.reduceBEq, reduceIte, Nat.reduceAdd, Nat.reduceSub, Nat.reduceLeDiff, Nat.reduceLT, Nat.reduceMul, Nat.reduceEqDiff, Int.reduceEq, Int.reduceBEq, Int.reduceBNe, Int.reduceLT, Int.reduceLE, Int.reduceGT, Int.reduceGE, Int.reduceNeg, Int.reduceAdd, Int.reduceSub, reduceCtorEq, List.reduceReplicate, ← List.map_take, ← List.map_drop]
    refine app_ownA (ys := [[.rsl px 1 0 (b.map intC).length cx ex]]) hov (by decide) (by decide) (by simp [Sh.shown, gapp]) (by simp [V.one]) (by simp; omega) fun v' H3 hv' hA => ?_
    obtain ⟨hx3, hd3⟩ := hA _ _ _ hxo hdv
    simp -dsimp -implicitDefEqProofs only [hwn, qq, Nat.reduceBEq, reduceIte, Nat.reduceAdd, Nat.reduceSub, Nat.reduceLeDiff, Nat.reduceLT, Nat.reduceMul, Nat.reduceEqDiff, Int.reduceEq, Int.reduceBEq, Int.reduceBNe, Int.reduceLT, Int.reduceLE, Int.reduceGT, Int.reduceGE, Int.reduceNeg, Int.reduceAdd, Int.reduceSub, reduceCtorEq, List.reduceReplicate, ← List.map_take, ← List.map_drop]
    obtain ⟨H2, hs2, hR⟩ := rows_next (k := k) hb ho hrl hs hv' hx3 hd3 fun kv rv w hw hd => by
      have hw' : OwnS H' kv rv w := hw.move fun p b c e hp _ => hx.keep p b hp
      obtain ⟨g1, g2⟩ := hA _ _ _ hw' hd
      exact ⟨g1, g2, fun p k o l c e k' o' l' c' e' h1 h2 => by have := hw.lt h2; cases h1; omega⟩
    exact ⟨n + 1, by omega, _, H2, hs2 _, by omega, v', rfl, hR⟩
  have hc : decide ((n : Int) < (bs.length : Int)) = false := by simp; omega
  obtain rfl : n = bs.length := by omega
  rw [List.take_of_length_le (Nat.le_refl _)] at hs
  rcases hs with ⟨hle, rfl⟩ | ⟨hlt, u, b, hb, rfl, hu, hd⟩
  case' inr =>
    obtain ⟨p2, c2, e2, hve, hp2⟩ := ho.pos (by simp; intro e; rw [e] at hlt; simp at hlt)
    obtain ⟨n2, hn2⟩ : ∃ n2, n2 = bs.length := ⟨_, rfl⟩
    have hN : ((bs.map rowC).set k [u]).length = n2 := by simp [hn2]
    rw [hN] at hve
    subst hve
    have hq : ((k : Int) == (n2 : Int)) = false := by simp; omega
    have hset : ((bs.map rowC).set k [u]).set k [V.fsl ((b ++ [i]).map intC)] = (addS bs k i).map rowC := by
      rw [List.set_set]; simp only [addS, if_pos hlt, hb, Option.getD_some, List.map_set]
    have hrow : ((bs.map rowC).set k [u])[k]? = some [u] := by rw [List.getElem?_set_self (by simpa using hlt)]
    have hbl : b.length ≤ 1000 := (hbs b (List.mem_of_getElem? hb)).2
    replace hd := hd.symm
    simp -dsimp -implicitDefEqProofs only [hc, hq, qq, Nat.reduceBEq, reduceIte, Nat.reduceAdd, Nat.reduceSub, Nat.reduceLeDiff, Nat.reduceLT, Nat.reduceMul, Nat.reduceEqDiff, Int.reduceEq, Int.reduceBEq, Int.reduceBNe, Int.reduceLT, Int.reduceLE, Int.reduceGT, Int.reduceGE, Int.reduceNeg, Int.reduceAdd, Int.reduceSub, reduceCtorEq, List.reduceReplicate, ← List.map_take, ← List.map_drop]
    generalize hR : (bs.map rowC).set k [u] = R at *
    generalize hH : H = H2 at *
  case' inl =>
    have hkk : k = bs.length := by omega
    have hgap : ∀ {Q : V → List Blk → Prop}, (∀ v' H3, OwnS H3 1 (bs.map rowC ++ [[V.nsl]]) v' → Q v' H3) → appI 1 24 v (.rsl H.length 1 0 1 1 true) (H ++ [.row 1 [[V.nsl]]]) Q := fun hQ => app_ownA (ys := [[.nsl]]) ho (by decide) (by decide) (by simp [Sh.shown]) (by simp [V.one]) (by simp; omega) fun v' H3 hv' _ => hQ v' H3 hv'
    have hq : ((k : Int) == (bs.length : Int)) = true := by simp [hkk]
    rcases ho with ⟨hnil, rfl⟩ | ⟨pv, cv, ev, hve, hpv⟩
    case' inl =>
      have hq0 : ((k : Int) == 0) = true := by simp at hnil; simp [hkk, hnil]
      simp -dsimp -implicitDefEqProofs only [hc, hq0, qq, Nat.reduceBEq, reduceIte, Nat.reduceAdd, Nat.reduceSub, Nat.reduceLeDiff, Nat.reduceLT, Nat.reduceMul, Nat.reduceEqDiff, Int.reduceEq, Int.reduceBEq, Int.reduceBNe, Int.reduceLT, Int.reduceLE, Int.reduceGT, Int.reduceGE, Int.reduceNeg, Int.reduceAdd, Int.reduceSub, reduceCtorEq, List.reduceReplicate, ← List.map_take, ← List.map_drop]
    case' inr =>
      rw [List.length_map] at hve
      subst hve
      simp -dsimp -implicitDefEqProofs only [hc, hq, qq, Nat.reduceBEq, reduceIte, Nat.reduceAdd, Nat.reduceSub, Nat.reduceLeDiff, Nat.reduceLT, Nat.reduceMul, Nat.reduceEqDiff, Int.reduceEq, Int.reduceBEq, Int.reduceBNe, Int.reduceLT, Int.reduceLE, Int.reduceGT, Int.reduceGE, Int.reduceNeg, Int.reduceAdd, Int.reduceSub, reduceCtorEq, List.reduceReplicate, ← List.map_take, ← List.map_drop]
    all_goals
      refine hgap fun v2 H2 hv2 => ?_
      obtain ⟨p2, c2, e2, rfl, hp2⟩ := hv2.pos (by simp)
      generalize hN0 : (bs.map rowC ++ [[V.nsl]]).length = n2 at *
      obtain ⟨R, u, b, hp2, hset, hrow, hu, hd, hN, hbl⟩ : ∃ R u, ∃ b : List Int, H2[p2]? = some (.row 1 R) ∧ R.set k [V.fsl ((b ++ [i]).map intC)] = (addS bs k i).map rowC ∧ R[k]? = some [u] ∧ OwnS H2 1 (b.map intC) u ∧ Dis u (.rsl p2 1 0 n2 c2 e2) ∧ R.length = n2 ∧ b.length ≤ 1000 :=
        ⟨_, .nsl, [], hp2, by simp [addS, hkk, List.set_append_right], by rw [hkk, List.getElem?_append_right (by simp)]; simp, .nil _ _, .nil _, hN0, by simp⟩
  all_goals
    have hlr : k < R.length := (List.getElem?_eq_some_iff.1 hrow).1
    have hRo : OwnS H2 1 R (.rsl p2 1 0 n2 c2 e2) := .inr ⟨p2, c2, e2, by rw [hN], hp2⟩
    simp -dsimp -implicitDefEqProofs only [hp2, hrow, qq, Nat.reduceBEq, reduceIte, Nat.reduceAdd, Nat.reduceSub, Nat.reduceLeDiff, Nat.reduceLT, Nat.reduceMul, Nat.reduceEqDiff, Int.reduceEq, Int.reduceBEq, Int.reduceBNe, Int.reduceLT, Int.reduceLE, Int.reduceGT, Int.reduceGE, Int.reduceNeg, Int.reduceAdd, Int.reduceSub, reduceCtorEq, List.reduceReplicate, ← List.map_take, ← List.map_drop]
    refine ⟨by omega, by omega, ?_⟩
    refine app_ownA (ys := [[.i .i64 i]]) hu (by decide) (by decide) (by simp [Sh.shown]) (by simp [V.one]) (by rw [List.length_map]; simp; omega) fun u' H3 hu' hA => ?_
    obtain ⟨hR3, hd3⟩ := hA _ _ _ hRo hd
    obtain ⟨p3, c3, e3, rfl, hp3⟩ := hu'.pos (by simp)
    have hpR : H3[p2]? = some (.row 1 R) := by
      obtain ⟨p, c, e, he, hp⟩ := hR3.pos (by intro e; rw [e] at hlr; simp at hlr)
      cases he; exact hp
    have hne : p2 ≠ p3 := fun e => hd3 _ _ _ _ _ _ _ _ _ _ _ rfl (by rw [← e])
    simp -dsimp -implicitDefEqProofs only [hpR, qq, Nat.reduceBEq, reduceIte, Nat.reduceAdd, Nat.reduceSub, Nat.reduceLeDiff, Nat.reduceLT, Nat.reduceMul, Nat.reduceEqDiff, Int.reduceEq, Int.reduceBEq, Int.reduceBNe, Int.reduceLT, Int.reduceLE, Int.reduceGT, Int.reduceGE, Int.reduceNeg, Int.reduceAdd, Int.reduceSub, reduceCtorEq, List.reduceReplicate, ← List.map_take, ← List.map_drop]
    refine ⟨by omega, by omega, ?_⟩
    refine ⟨_, hrow, Nat.le_refl _, ?_⟩
    rw [← hset]
    refine Ends.ret rfl ?_
    have hb2 : ∀ row ∈ R.set k [V.fsl ((b ++ [i]).map intC)], belL 0 row = true := by rw [hset]; exact bel_rows _
    refine frz_set (u := .rsl p3 1 0 (b.length + 1) c3 e3) (by rw [List.getElem?_set_self (get_lt hpR)]; rfl) hN hb2 ?_
    refine OwnS.frz (k := 1) (.inr ⟨p3, c3, e3, by simp, ?_⟩) (bel_ints _)
    rw [List.getElem?_set_ne hne, hp3, List.map_append]
    rfl

/-- What parted gives besides: at the end the bungs as they came. -/
def partR (d : List Int → Bool) (n most : Nat) : Nat → List (List Int) → List (List Int)
  | 0, bs => bs
  | r + 1, bs => (partS d n most (r + 1) bs).getD []
theorem partR_some {d : List Int → Bool} {n most r : Nat} {bs b : List (List Int)} (h : partS d n most r bs = some b) : partR d n most r bs = b := by
  cases r with
  | zero =>
    rw [partS] at h
    split at h
    · exact Option.some.inj h
    · cases h
  | succ r => rw [partR, h]; rfl
def partV (d : List Int → Bool) (n most r : Nat) (bs : List (List Int)) : V := .tup [.fsl ((partR d n most r bs).map rowC), .b (partS d n most r bs).isSome]
def C_parted (P : Program) (f : Nat) : Prop := ∀ (r : Nat) (w : Rg) (l : List Sag) (s : Spt) (bs : List (List Int)) (most : Nat), rgB w 0 200 = true → listB l = true → l.length ≤ 9 → r ≤ l.length → okBs (l.length - r) bs → bs.flatten.length = l.length - r → most ≤ 9 →
  Snd P f [.agg (jobC w l s), .fsl (bs.map rowC), .i .i64 most] [] (partV (doS w l s) l.length most r bs) []
theorem addS_flat {n k : Nat} {bs : List (List Int)} {i : Int} (h : bs.flatten.length = n) : (addS bs k i).flatten.length = n + 1 := by
  unfold addS
  split
  · rename_i hlt
    obtain ⟨b, hb, _, htk, hdr⟩ := next_of hlt
    rw [hb, List.set_eq_take_append_cons_drop, if_pos hlt]
    have e : bs.flatten = (bs.take k).flatten ++ (b ++ (bs.drop (k + 1)).flatten) := by
      conv => lhs; rw [← List.take_append_drop k bs, hdr]
      simp
    rw [e] at h
    simp only [Option.getD_some, List.flatten_append, List.flatten_cons, List.length_append, List.length_cons, List.length_nil] at h ⊢
    omega
  · simp only [List.flatten_append, List.flatten_cons, List.flatten_nil, List.length_append, List.length_cons, List.length_nil]
    omega
theorem mem_flat_len {bs : List (List Int)} {b : List Int} (h : b ∈ bs) : b.length ≤ bs.flatten.length := by
  induction bs with
  | nil => simp at h
  | cons x bs ih =>
    rcases List.mem_cons.1 h with rfl | h
    · simp
    · have := ih h; simp only [List.flatten_cons, List.length_append]; omega
theorem take_flat_len (bs : List (List Int)) (k : Nat) : (bs.take k).flatten.length ≤ bs.flatten.length := by
  conv => rhs; rw [← List.take_append_drop k bs]
  simp only [List.flatten_append, List.length_append]; omega
set_option maxHeartbeats 2000000 in
theorem ok_parted (hm : P.follows .mixedOrders = true) {f f0 f1 : Nat} (low : Low_potbankref03_parted P f f0 f1 f) (h0 : C_allDo P f0) (h1 : C_given P f1) : C_parted P f := by
  intro r
  induction r using Nat.strongRecOn with
  | _ r ih =>
  intro w l s bs most hw hv h9 hr hok hfl hmost
  have hbl := hok.len
  have hbs : ∀ b ∈ bs, okIx l.length b ∧ b.Nodup ∧ b ≠ [] := fun b hb => ⟨fun i hi => by have := hok.ix b hb i hi; omega, (List.pairwise_flatten.1 hok.nd).1 b hb, hok.ne b hb⟩
  refine snd_ic hm low (by simp) ?_
  unfold ic_potbankref03_parted
  simp -dsimp -implicitDefEqProofs only [qq, Nat.reduceBEq, reduceIte, Nat.reduceAdd, Nat.reduceSub, Nat.reduceLeDiff, Nat.reduceLT, Nat.reduceMul, Nat.reduceEqDiff, Int.reduceEq, Int.reduceBEq, Int.reduceBNe, Int.reduceLT, Int.reduceLE, Int.reduceGT, Int.reduceGE, Int.reduceNeg, Int.reduceAdd, Int.reduceSub, reduceCtorEq, List.reduceReplicate, ← List.map_take, ← List.map_drop]
  refine loopI_st (fun k : Nat => bs.length - k) (fun k E H => k ≤ bs.length ∧ E = [(1, .fsl (bs.map rowC)), (2, .i .i64 most), (3, .rpt 0 5 0 0), (8, .i .i64 (bs.take k).flatten.length), (9, .i .i64 k)] ∧ H = [.row 5 [jobC w l s]]) 0 ⟨by omega, rfl, rfl⟩ ?_
  rintro k _ _ ⟨hk, rfl, rfl⟩
  have hkf := take_flat_len bs k
  rcases Nat.lt_or_ge k bs.length with hkl | hkl
  · have hc : decide ((k : Int) < (bs.length : Int)) = true := by simpa using hkl
    obtain ⟨x, hx, hxm, htk, _⟩ := next_of hkl
    have hxl := take_flat_len bs (k + 1)
    have hsum : (bs.take (k + 1)).flatten.length = (bs.take k).flatten.length + x.length := by rw [htk]; simp
    have hwk : IntKind.i64.wrap ((k : Int) + 1) = ((k + 1 : Nat) : Int) := wrap_succ (by omega)
    have hws : IntKind.i64.wrap (((bs.take k).flatten.length : Int) + (x.length : Int)) = (((bs.take (k + 1)).flatten.length : Nat) : Int) := by rw [wrap_id (by omega) (by omega)]; omega
    generalize hsk : (bs.take k).flatten.length = sk at *
    simp -dsimp -implicitDefEqProofs only [hc, hx, rowC, hwk, hws, qq, Nat.reduceBEq, reduceIte, Nat.reduceAdd, Nat.reduceSub, Nat.reduceLeDiff, Nat.reduceLT, Nat.reduceMul, Nat.reduceEqDiff, Int.reduceEq, Int.reduceBEq, Int.reduceBNe, Int.reduceLT, Int.reduceLE, Int.reduceGT, Int.reduceGE, Int.reduceNeg, Int.reduceAdd, Int.reduceSub, reduceCtorEq, List.reduceReplicate, ← List.map_take, ← List.map_drop]
    exact ⟨k + 1, by omega, by omega, rfl⟩
  have hc : decide ((k : Int) < (bs.length : Int)) = false := by simp; omega
  have hsum : (bs.take k).flatten.length = l.length - r := by rw [List.take_of_length_le hkl]; exact hfl
  rw [hsum]
  clear hsum hkf
  rcases r with _ | r
  · have hq : (((l.length - 0 : Nat) : Int) == (l.length : Int)) = true := by simp
    simp -dsimp -implicitDefEqProofs only [hc, hq, Nat.sub_zero, qq, Nat.reduceBEq, reduceIte, Nat.reduceAdd, Nat.reduceSub, Nat.reduceLeDiff, Nat.reduceLT, Nat.reduceMul, Nat.reduceEqDiff, Int.reduceEq, Int.reduceBEq, Int.reduceBNe, Int.reduceLT, Int.reduceLE, Int.reduceGT, Int.reduceGE, Int.reduceNeg, Int.reduceAdd, Int.reduceSub, reduceCtorEq, List.reduceReplicate, ← List.map_take, ← List.map_drop]
    refine callI_pure (h0 w l s bs hw hv hbs (by omega)) rfl rfl ?_
    simp -dsimp -implicitDefEqProofs only [qq, Nat.reduceBEq, reduceIte, Nat.reduceAdd, Nat.reduceSub, Nat.reduceLeDiff, Nat.reduceLT, Nat.reduceMul, Nat.reduceEqDiff, Int.reduceEq, Int.reduceBEq, Int.reduceBNe, Int.reduceLT, Int.reduceLE, Int.reduceGT, Int.reduceGE, Int.reduceNeg, Int.reduceAdd, Int.reduceSub, reduceCtorEq, List.reduceReplicate, ← List.map_take, ← List.map_drop]
    refine Ends.ret rfl ?_
    have e : (partS (doS w l s) l.length most 0 bs).isSome = bs.all (doS w l s) := by rw [partS]; cases bs.all (doS w l s) <;> rfl
    rw [partV, e]
    exact frz_keep2 rfl rfl
  have hq : (((l.length - (r + 1) : Nat) : Int) == (l.length : Int)) = false := by simp; omega
  simp -dsimp -implicitDefEqProofs only [hc, hq, qq, Nat.reduceBEq, reduceIte, Nat.reduceAdd, Nat.reduceSub, Nat.reduceLeDiff, Nat.reduceLT, Nat.reduceMul, Nat.reduceEqDiff, Int.reduceEq, Int.reduceBEq, Int.reduceBNe, Int.reduceLT, Int.reduceLE, Int.reduceGT, Int.reduceGE, Int.reduceNeg, Int.reduceAdd, Int.reduceSub, reduceCtorEq, List.reduceReplicate, ← List.map_take, ← List.map_drop]
  clear hc hkl hk
  refine loopI_st (fun k : Nat => bs.length + 1 - k) (fun k E H => k ≤ min (bs.length + 1) most ∧ E = [(1, .fsl (bs.map rowC)), (2, .i .i64 most), (3, .rpt 0 5 0 0), (8, .i .i64 (l.length - (r + 1) : Nat)), (10, .i .i64 k)] ∧ H = [.row 5 [jobC w l s]] ∧ (∀ j, j < k → partS (doS w l s) l.length most r (addS bs j (l.length - (r + 1) : Nat)) = none)) 0 ⟨by omega, rfl, rfl, fun j hj => by omega⟩ ?_
  rintro k _ _ ⟨hk, rfl, rfl, hno⟩
  have gone : ¬ k < min (bs.length + 1) most → ∀ H, Ends [.tmp 6, .tmp 7] [] (partV (doS w l s) l.length most (r + 1) bs) [] .ret [(6, .nsl), (7, .b false)] H := fun hge H => by
    have : partS (doS w l s) l.length most (r + 1) bs = none := partS_none fun j hj => hno j (by omega)
    rw [partV, partR, this]
    exact Ends.ret rfl (frz2 .nil (.keep _ rfl))
  cases hc : decide ((k : Int) ≤ (bs.length : Int)) <;> simp -dsimp -implicitDefEqProofs only [hc, qq, Nat.reduceBEq, reduceIte, Nat.reduceAdd, Nat.reduceSub, Nat.reduceLeDiff, Nat.reduceLT, Nat.reduceMul, Nat.reduceEqDiff, Int.reduceEq, Int.reduceBEq, Int.reduceBNe, Int.reduceLT, Int.reduceLE, Int.reduceGT, Int.reduceGE, Int.reduceNeg, Int.reduceAdd, Int.reduceSub, reduceCtorEq, List.reduceReplicate, ← List.map_take, ← List.map_drop]
  · exact gone (by simp at hc; omega) _
  cases hc2 : decide ((k : Int) < (most : Int)) <;> simp -dsimp -implicitDefEqProofs only [hc2, qq, Nat.reduceBEq, reduceIte, Nat.reduceAdd, Nat.reduceSub, Nat.reduceLeDiff, Nat.reduceLT, Nat.reduceMul, Nat.reduceEqDiff, Int.reduceEq, Int.reduceBEq, Int.reduceBNe, Int.reduceLT, Int.reduceLE, Int.reduceGT, Int.reduceGE, Int.reduceNeg, Int.reduceAdd, Int.reduceSub, reduceCtorEq, List.reduceReplicate, ← List.map_take, ← List.map_drop]
  · exact gone (by simp at hc2; omega) _
  have hkb : k ≤ bs.length := by simp at hc; omega
  have hkm : k < most := by simp at hc2; omega
  have hwk : IntKind.i64.wrap ((k : Int) + 1) = ((k + 1 : Nat) : Int) := wrap_succ (by omega)
  have hok2 := okBs_add hok hkb
  rw [show l.length - (r + 1) + 1 = l.length - r by omega] at hok2
  have hfl2 : (addS bs k ((l.length - (r + 1) : Nat) : Int)).flatten.length = l.length - r := by rw [addS_flat hfl]; omega
  refine callI_pure (h1 bs k (l.length - (r + 1) : Nat) hkb (by omega) fun b hb => ⟨hok.ne b hb, by have := mem_flat_len hb; omega⟩) rfl rfl ?_
  simp -dsimp -implicitDefEqProofs only [qq, Nat.reduceBEq, reduceIte, Nat.reduceAdd, Nat.reduceSub, Nat.reduceLeDiff, Nat.reduceLT, Nat.reduceMul, Nat.reduceEqDiff, Int.reduceEq, Int.reduceBEq, Int.reduceBNe, Int.reduceLT, Int.reduceLE, Int.reduceGT, Int.reduceGE, Int.reduceNeg, Int.reduceAdd, Int.reduceSub, reduceCtorEq, List.reduceReplicate, ← List.map_take, ← List.map_drop]
  refine callI_pure (ih r (by omega) w l s _ most hw hv h9 (by omega) hok2 hfl2 hmost) rfl rfl ?_
  unfold partV
  cases hres : partS (doS w l s) l.length most r (addS bs k (l.length - (r + 1) : Nat)) with
  | none =>
    simp -dsimp -implicitDefEqProofs only [Option.isSome, hwk, qq, Nat.reduceBEq, reduceIte, Nat.reduceAdd, Nat.reduceSub, Nat.reduceLeDiff, Nat.reduceLT, Nat.reduceMul, Nat.reduceEqDiff, Int.reduceEq, Int.reduceBEq, Int.reduceBNe, Int.reduceLT, Int.reduceLE, Int.reduceGT, Int.reduceGE, Int.reduceNeg, Int.reduceAdd, Int.reduceSub, reduceCtorEq, List.reduceReplicate, ← List.map_take, ← List.map_drop]
    exact ⟨k + 1, by omega, by omega, rfl, fun j hj => by
      rcases Nat.lt_succ_iff_lt_or_eq.1 hj with g | rfl
      · exact hno j g
      · exact hres⟩
  | some b =>
    have hfin : partS (doS w l s) l.length most (r + 1) bs = some b := partS_some (by omega) hno hres
    rw [partR_some hres, partR_some hfin, hfin]
    simp -dsimp -implicitDefEqProofs only [Option.isSome, qq, Nat.reduceBEq, reduceIte, Nat.reduceAdd, Nat.reduceSub, Nat.reduceLeDiff, Nat.reduceLT, Nat.reduceMul, Nat.reduceEqDiff, Int.reduceEq, Int.reduceBEq, Int.reduceBNe, Int.reduceLT, Int.reduceLE, Int.reduceGT, Int.reduceGE, Int.reduceNeg, Int.reduceAdd, Int.reduceSub, reduceCtorEq, List.reduceReplicate, ← List.map_take, ← List.map_drop]
    exact Ends.ret rfl (frz_keep2 rfl rfl)
theorem few_found {w : Rg} {l : List Sag} {s : Spt} (hw : rgB w 0 200 = true) (hv : listB l = true) (ha : askedE w l s = 0) (h9 : l.length ≤ 9) : fewE w l s = (if (fewP (doS w l s) l.length).isSome then 0 else 3) ∧ fewR w l s = (fewP (doS w l s) l.length).getD [] := by
  rcases Nat.eq_zero_or_pos l.length with h | h
  · have e : fewP (doS w l s) l.length = some [] := by rw [h]; rfl
    rw [e]
    refine ⟨by rw [fewE, if_neg (by simp [ha]), if_neg (by omega), if_pos h]; rfl, ?_⟩
    rw [fewR, if_pos ⟨ha, h9⟩, h]; rfl
  · rw [few_eq (fun b x hs hn hb hd => doS_sub hw hv hs hn hb hd) h]
    exact ⟨by rw [fewE, if_neg (by simp [ha]), if_neg (by omega), if_neg (by omega)], by rw [fewR, if_pos ⟨ha, h9⟩]⟩
def C_rFewest (P : Program) (f : Nat) : Prop := ∀ (w : Rg) (l : List Sag) (s : Spt), Snd P f [.agg (jobC w l s)] [] (.tup [.fsl ((fewR w l s).map rowC), .i .i64 (fewE w l s)]) []
theorem ok_rFewest (hm : P.follows .mixedOrders = true) {f f0 f1 : Nat} (low : Low_potbankref03_Fewest P f f0 f1) (h0 : C_checked P f0) (h1 : C_parted P f1) : C_rFewest P f := by
  intro w l s
  have none_ : ∀ (H : List Blk) (e : Int), fewE w l s = e → fewR w l s = [] → Frz 0 H (resV [.nsl, .i .i64 e]) (.tup [.fsl ((fewR w l s).map rowC), .i .i64 (fewE w l s)]) := fun H e h1 h2 => by rw [h1, h2]; exact frz2 .nil (.keep _ rfl)
  refine snd_ic hm low (by simp) ?_
  unfold ic_potbankref03_Fewest
  simp -dsimp -implicitDefEqProofs only [qq, Nat.reduceBEq, reduceIte, Nat.reduceAdd, Nat.reduceSub, Nat.reduceLeDiff, Nat.reduceLT, Nat.reduceMul, Nat.reduceEqDiff, Int.reduceEq, Int.reduceBEq, Int.reduceBNe, Int.reduceLT, Int.reduceLE, Int.reduceGT, Int.reduceGE, Int.reduceNeg, Int.reduceAdd, Int.reduceSub, reduceCtorEq, List.reduceReplicate, ← List.map_take, ← List.map_drop]
  refine callI_pure (h0 w l s) rfl rfl ?_
  simp -dsimp -implicitDefEqProofs only [qq, Nat.reduceBEq, reduceIte, Nat.reduceAdd, Nat.reduceSub, Nat.reduceLeDiff, Nat.reduceLT, Nat.reduceMul, Nat.reduceEqDiff, Int.reduceEq, Int.reduceBEq, Int.reduceBNe, Int.reduceLT, Int.reduceLE, Int.reduceGT, Int.reduceGE, Int.reduceNeg, Int.reduceAdd, Int.reduceSub, reduceCtorEq, List.reduceReplicate, ← List.map_take, ← List.map_drop]
  refine brG_of (fun he => ?_) (fun he => ?_) <;> simp -dsimp -implicitDefEqProofs only [qq, Nat.reduceBEq, reduceIte, Nat.reduceAdd, Nat.reduceSub, Nat.reduceLeDiff, Nat.reduceLT, Nat.reduceMul, Nat.reduceEqDiff, Int.reduceEq, Int.reduceBEq, Int.reduceBNe, Int.reduceLT, Int.reduceLE, Int.reduceGT, Int.reduceGE, Int.reduceNeg, Int.reduceAdd, Int.reduceSub, reduceCtorEq, List.reduceReplicate, ← List.map_take, ← List.map_drop]
  · have he' : askedE w l s ≠ 0 := by simpa using he
    exact Ends.ret rfl (none_ _ _ (by simp [fewE, he']) (by simp [fewR, he']))
  have he' : askedE w l s = 0 := by simpa using he
  obtain ⟨hw, hv, hsp⟩ := asked_ok he'
  refine brG_of (fun h9 => ?_) (fun h9 => ?_) <;> simp -dsimp -implicitDefEqProofs only [qq, Nat.reduceBEq, reduceIte, Nat.reduceAdd, Nat.reduceSub, Nat.reduceLeDiff, Nat.reduceLT, Nat.reduceMul, Nat.reduceEqDiff, Int.reduceEq, Int.reduceBEq, Int.reduceBNe, Int.reduceLT, Int.reduceLE, Int.reduceGT, Int.reduceGE, Int.reduceNeg, Int.reduceAdd, Int.reduceSub, reduceCtorEq, List.reduceReplicate, ← List.map_take, ← List.map_drop]
  · have h9' : 9 < l.length := by simp at h9; omega
    exact Ends.ret rfl (none_ _ _ (by simp [fewE, he', h9']) (by simp [fewR]; omega))
  have h9' : l.length ≤ 9 := by simp at h9; omega
  obtain ⟨q1, q2⟩ := few_found (s := s) hw hv he' h9'
  refine loopI_st (fun k : Nat => l.length + 1 - k) (fun k E H => k ≤ l.length + 1 ∧ E = [(1, .rpt 0 5 0 0), (5, .i .i64 k)] ∧ H = [.row 5 [jobC w l s]] ∧ (∀ j, j < k → partS (doS w l s) l.length j l.length [] = none)) 0 ⟨by omega, rfl, rfl, fun j hj => by omega⟩ ?_
  rintro k _ _ ⟨hk, rfl, rfl, hno⟩
  cases hc : decide ((k : Int) ≤ (l.length : Int)) <;> simp -dsimp -implicitDefEqProofs only [hc, qq, Nat.reduceBEq, reduceIte, Nat.reduceAdd, Nat.reduceSub, Nat.reduceLeDiff, Nat.reduceLT, Nat.reduceMul, Nat.reduceEqDiff, Int.reduceEq, Int.reduceBEq, Int.reduceBNe, Int.reduceLT, Int.reduceLE, Int.reduceGT, Int.reduceGE, Int.reduceNeg, Int.reduceAdd, Int.reduceSub, reduceCtorEq, List.reduceReplicate, ← List.map_take, ← List.map_drop]
  · have hn : fewP (doS w l s) l.length = none := by
      rw [fewP, List.findSome?_eq_none_iff]
      exact fun j hj => hno j (by simp at hj hc; omega)
    rw [hn] at q1 q2
    exact Ends.ret rfl (none_ _ 3 q1 q2)
  have hkl : k ≤ l.length := by simp at hc; omega
  have hwk : IntKind.i64.wrap ((k : Int) + 1) = ((k + 1 : Nat) : Int) := wrap_succ (by omega)
  refine callI_give (fun _ => false) (.cons (.keep _) (.cons .nil (.same _))) ?_
  rw [killB_no]
  refine callI_pure (h1 l.length w l s [] k hw hv h9' (Nat.le_refl _) (okBs_nil (by omega)) (by simp) (by omega)) rfl rfl ?_
  unfold partV
  cases hres : partS (doS w l s) l.length k l.length [] with
  | none =>
    simp -dsimp -implicitDefEqProofs only [Option.isSome, hwk, qq, Nat.reduceBEq, reduceIte, Nat.reduceAdd, Nat.reduceSub, Nat.reduceLeDiff, Nat.reduceLT, Nat.reduceMul, Nat.reduceEqDiff, Int.reduceEq, Int.reduceBEq, Int.reduceBNe, Int.reduceLT, Int.reduceLE, Int.reduceGT, Int.reduceGE, Int.reduceNeg, Int.reduceAdd, Int.reduceSub, reduceCtorEq, List.reduceReplicate, ← List.map_take, ← List.map_drop]
    exact ⟨k + 1, by omega, by omega, rfl, fun j hj => by
      rcases Nat.lt_succ_iff_lt_or_eq.1 hj with g | rfl
      · exact hno j g
      · exact hres⟩
  | some b =>
    have hn : fewP (doS w l s) l.length = some b := findSome_range (by omega) hno hres
    rw [hn] at q1 q2
    rw [partR_some hres, q1, q2]
    simp -dsimp -implicitDefEqProofs only [Option.isSome, qq, Nat.reduceBEq, reduceIte, Nat.reduceAdd, Nat.reduceSub, Nat.reduceLeDiff, Nat.reduceLT, Nat.reduceMul, Nat.reduceEqDiff, Int.reduceEq, Int.reduceBEq, Int.reduceBNe, Int.reduceLT, Int.reduceLE, Int.reduceGT, Int.reduceGE, Int.reduceNeg, Int.reduceAdd, Int.reduceSub, reduceCtorEq, List.reduceReplicate, ← List.map_take, ← List.map_drop]
    exact Ends.ret rfl (frz_keep2 rfl rfl)
end Go.Sh.C3
end
section
namespace Go.Sh.C3
open Go.Sh
set_option maxRecDepth 10000
set_option linter.unusedVariables false
set_option linter.unusedSimpArgs false
variable {P : Program}
def ic_bung_choices (f0 : Nat) : IC := .seq (.reg [⟨some 2, none, .box (.t 0)⟩, ⟨some 3, none, .box (.t 1)⟩, ⟨some 4, none, .mov (.c (.nfn))⟩] [2, 3]) (.seq (.reg [⟨some 5, none, .mkf (.func f0) [] [.t 3, .t 2]⟩, ⟨some 4, none, .mov (.t 5)⟩] [4]) (.ret))
abbrev Low_bung_choices (P : Program) (f f0 : Nat) : Prop := lowF P f = some (6, [.tmp 4], (ic_bung_choices f0).erase)
def ic_bung_choices_1 (f0 : Nat) : IC := .seq (.reg [⟨some 3, none, .box (.t 0)⟩] [1, 2, 3]) (.seq (.reg [⟨some 4, none, .alloc [.nfn]⟩] [1, 2, 3, 4]) (.seq (.reg [⟨some 5, none, .mkf (.func f0) [] [.t 1, .t 3, .t 2, .t 4]⟩, ⟨none, none, .st 1 (.t 4) (.t 5)⟩] [4]) (.reg [⟨some 6, none, .ld none (.t 4)⟩, ⟨some 7, none, .calv (.t 6) [.c (.nsl)]⟩] [])))
abbrev Low_bung_choices_1 (P : Program) (f f0 : Nat) : Prop := lowF P f = some (8, [], (ic_bung_choices_1 f0).erase)
def ic_bung_choices_1_1_s1 (f0 : Nat) : IC := .seq (.reg [⟨some 6, none, .mov (.c (.b false))⟩] [0, 1, 2, 3, 4]) (.seq (.seq (.reg [⟨some 9, none, .mov (.t 0)⟩, ⟨some 10, none, .len false (.t 9)⟩, ⟨some 11, none, .ld none (.t 1)⟩, ⟨some 12, none, .bin .eql (.t 10) (.t 11)⟩] [0, 2, 3, 4, 12]) (.cond (.t 12) (.seq (.reg [⟨some 13, none, .ld none (.t 2)⟩, ⟨some 14, none, .mov (.t 0)⟩, ⟨some 15, none, .calv (.t 13) [.t 14]⟩, ⟨some 6, none, .mov (.t 15)⟩] [6]) (.ret)) (.skip))) (.seq (.reg [⟨some 7, none, .mov (.c (.i .i64 (0)))⟩] [0, 3, 4, 7]) (.seq (.seq (.reg [⟨some 16, none, .mov (.t 0)⟩, ⟨some 17, none, .len false (.t 16)⟩, ⟨some 18, none, .bin .gtr (.t 17) (.c (.i .i64 (0)))⟩] [0, 3, 4, 7, 18]) (.cond (.t 18) (.reg [⟨some 19, none, .mov (.t 0)⟩, ⟨some 20, none, .mov (.t 0)⟩, ⟨some 21, none, .len false (.t 20)⟩, ⟨some 22, none, .bin .sub (.t 21) (.c (.i .i64 (1)))⟩, ⟨some 23, none, .ixs 1 (.t 19) (.t 22)⟩, ⟨some 24, none, .ld none (.t 23)⟩, ⟨some 25, none, .bin .add (.t 24) (.c (.i .i64 (1)))⟩, ⟨some 7, none, .mov (.t 25)⟩] [0, 3, 4, 7]) (.skip))) (.seq (.seq (.reg [⟨some 26, none, .mov (.t 7)⟩, ⟨some 8, none, .mov (.t 26)⟩] [0, 3, 4, 8]) (.block 0 (.loop (.seq (.seq (.reg [⟨some 27, none, .mov (.t 8)⟩, ⟨some 28, none, .ld none (.t 3)⟩, ⟨some 29, none, .bin .lss (.t 27) (.t 28)⟩] [0, 3, 4, 8, 29]) (.cond (.t 29) (.skip) (.exit 0))) (.seq (.block 1 (.seq (.drg [(0, ⟨some 32, none, .ld none (.t 4)⟩), (0, ⟨some 33, none, .mov (.t 0)⟩), (1, ⟨some 34, none, .calv (.c (.fn (.func f0) [] [])) [.t 33]⟩), (0, ⟨some 35, none, .mov (.t 8)⟩), (0, ⟨some 36, none, .bsl true 1 1 [.i .i64 (0)] [(0, (.t 35))]⟩), (1, ⟨some 37, none, .app 1 8 (.t 34) (.t 36)⟩), (1, ⟨some 38, none, .calv (.t 32) [.t 37]⟩), (0, ⟨some 39, none, .un .not (.t 38)⟩)] 6 [0, 3, 4, 8, 39]) (.cond (.t 39) (.seq (.reg [⟨some 6, none, .mov (.c (.b false))⟩] [6]) (.ret)) (.skip)))) (.reg [⟨some 30, none, .mov (.t 8)⟩, ⟨some 31, none, .bin .add (.t 30) (.c (.i .i64 (1)))⟩, ⟨some 8, none, .mov (.t 31)⟩] [0, 3, 4, 8])))))) (.seq (.reg [⟨some 6, none, .mov (.c (.b true))⟩] [6]) (.ret))))))
abbrev Low_bung_choices_1_1_s1 (P : Program) (f f0 : Nat) : Prop := lowF P f 1 = some (40, [.tmp 6], (ic_bung_choices_1_1_s1 f0).erase)

/-- The rising lists below n that begin so and have r numbers more, none below a bound. -/
def combS (n : Nat) : Nat → Nat → List Int → List (List Int)
  | 0, _, l => [l]
  | r + 1, lo, l => (List.range' lo (n - lo)).flatMap fun i => combS n r (i + 1) (l ++ [(i : Int)])
def argI : List Int → V
  | [] => .nsl
  | x :: l => .fsl ((x :: l).map intC)
/-- A clone, told. -/
def C_CloneT (P : Program) (f : Nat) : Prop := (∀ H : List Blk, Snd P f [.nsl] H .nsl H) ∧ ∀ (H : List Blk) (x : Int) (l : List Int), l.length < 1000000 → Snd P f [.fsl ((x :: l).map intC)] H (.rsl (H.length + 1) 1 0 (l.length + 1) (l.length + 1) false) (H ++ [.row 1 [], .row 1 ((x :: l).map intC)])
theorem ends_allT {H H2 : List Blk} {r : V} {E : Env} {ress : List IRes} {vs : List V} (h : resIs E H2 ress = some vs) (hr : resV vs = r) : Ends ress H r H2 .ret E H2 := ⟨.inr rfl, vs, h, .all [] hr.symm rfl⟩
theorem ok_CloneT (hm : P.follows .mixedOrders = true) {f : Nat} (low : Low_slices_Clone_Sint_int P f) : C_CloneT P f := by
  refine ⟨fun H => ?_, fun H x l hl => ?_⟩
  · refine snd_ic hm low (by simp) ?_
    unfold ic_slices_Clone_Sint_int
    simp -dsimp -implicitDefEqProofs only [qq, Nat.reduceBEq, reduceIte, Nat.reduceAdd, Nat.reduceSub, Nat.reduceLeDiff, Nat.reduceLT, Nat.reduceMul, Nat.reduceEqDiff, Int.reduceEq, Int.reduceBEq, Int.reduceBNe, Int.reduceLT, Int.reduceLE, Int.reduceGT, Int.reduceGE, Int.reduceNeg, Int.reduceAdd, Int.reduceSub, reduceCtorEq, List.reduceReplicate, ← List.map_take, ← List.map_drop]
    exact ends_allT rfl rfl
  · refine snd_ic hm low (by simp) ?_
    unfold ic_slices_Clone_Sint_int
    have hrow : ∀ r ∈ (x :: l).map intC, r.length = 1 ∧ r.all V.one = true := by intro r hr; obtain ⟨x, _, rfl⟩ := List.mem_map.1 hr; exact ⟨rfl, rfl⟩
    simp -dsimp -implicitDefEqProofs only [qq, Nat.reduceBEq, reduceIte, Nat.reduceAdd, Nat.reduceSub, Nat.reduceLeDiff, Nat.reduceLT, Nat.reduceMul, Nat.reduceEqDiff, Int.reduceEq, Int.reduceBEq, Int.reduceBNe, Int.reduceLT, Int.reduceLE, Int.reduceGT, Int.reduceGE, Int.reduceNeg, Int.reduceAdd, Int.reduceSub, reduceCtorEq, List.reduceReplicate, ← List.map_take, ← List.map_drop]
    refine ⟨by decide, by decide, (x :: l).map intC, rfl, hrow, rfl, by simp; omega, [], get_new _ _, by simp, .inr (.inl ⟨rfl, by simp, ?_⟩)⟩
    simp -dsimp -implicitDefEqProofs only [qq, Nat.reduceBEq, reduceIte, Nat.reduceAdd, Nat.reduceSub, Nat.reduceLeDiff, Nat.reduceLT, Nat.reduceMul, Nat.reduceEqDiff, Int.reduceEq, Int.reduceBEq, Int.reduceBNe, Int.reduceLT, Int.reduceLE, Int.reduceGT, Int.reduceGE, Int.reduceNeg, Int.reduceAdd, Int.reduceSub, reduceCtorEq, List.reduceReplicate, ← List.map_take, ← List.map_drop]
    exact ends_allT rfl rfl
theorem clone_told {f : Nat} (h : C_CloneT P f) (H : List Blk) (l : List Int) (hl : l.length < 1000000) : ∃ r H2, SndC P (.fn (.func f) [] []) [argI l] H r H2 ∧ New H H2 1 (l.map intC) r := by
  cases l with
  | nil => exact ⟨_, _, h.1 H, .nil _ _, Nat.le_refl _, fun _ _ h => h, fun _ _ _ _ _ _ h => by cases h⟩
  | cons x l =>
    refine ⟨_, _, h.2 H x l (by simp at hl; omega), .inr ⟨H.length + 1, l.length + 1, false, by simp, ?_⟩, by simp, fun p b hb => get_app hb _, fun p k o l' c e he => by cases he; omega⟩
    rw [List.getElem?_append_right (by omega)]; simp
theorem argI_snoc (l : List Int) (x : Int) : argI (l ++ [x]) = .fsl ((l ++ [x]).map intC) := by cases l <;> rfl
theorem grow_pre {F F' : List Nat} {H H2 H' : List Blk} (h : Grow F F' H2 H') (hl : H.length ≤ H2.length) (hk : ∀ p, p < H.length → H2[p]? = H[p]?) : Grow F F' H H' :=
  ⟨Nat.le_trans hl h.len, fun p hp hn => (h.keep p (by omega) hn).trans (hk p hp), fun p hp => (h.new p hp).imp id (fun g => by omega)⟩

abbrev capsC (many n q q2 : Nat) : List V := [.fpt [.i .i64 many] 0, .rpt q 1 0 0, .fpt [.i .i64 n] 0, .rpt q2 1 0 0]
def GrowK (st : Bool) (n0 i0 : Nat) (J : Nat → List Nat → List Blk → Prop) (c : Nat) (F : List Nat) (H : List Blk) (r : V) (H' : List Blk) : Prop :=
  r = .b (!(st && decide (n0 ≤ i0 + c))) ∧ ∃ F', J (if st && decide (n0 ≤ i0 + c) then n0 else i0 + c) F' H' ∧ Grow F F' H H'
theorem ok_grow (hm : P.follows .mixedOrders = true) {f f0 : Nat} (low : Low_bung_choices_1_1_s1 P f f0) (h0 : C_CloneT P f0) {n many id n0 q q2 : Nat} {xs : List (List V)} {J : Nat → List Nat → List Blk → Prop} {st : Bool} (hn9 : n ≤ 9) (hm9 : many ≤ 9) (hst2 : st = false → n0 = xs.length) (hJ : Loc J)
    (hr : ∀ i x F H, i < n0 → xs[i]? = some x → J i F H → SndX P (.yld id) x H fun r H' => r = .b (!(st && i + 1 == n0)) ∧ ∃ F', J (i + 1) F' H' ∧ Grow F F' H H') :
    ∀ (r : Nat) (l : List Int) (lo i0 : Nat) (F : List Nat) (H : List Blk), l.length + r = many → lo ≤ n → ((l = [] ∧ lo = 0) ∨ ∃ l0, ∃ x : Nat, l = l0 ++ [(x : Int)] ∧ lo = x + 1) → J i0 F H → q ∉ F → q2 ∉ F → H[q]? = some (.row 1 [[.yld id]]) → H[q2]? = some (.row 1 [[.fn (.func f) [] (capsC many n q q2)]]) →
      (st = true → i0 < n0) → (∀ j c, (combS n r lo l)[j]? = some c → xs[i0 + j]? = some [.fsl (c.map intC)]) → SndX P (.fn (.func f) [] (capsC many n q q2)) [argI l] H (GrowK st n0 i0 J (combS n r lo l).length F H) := by
  intro r
  induction r with
  | zero =>
    intro l lo i0 F H hlen hlo hl hj hq hq2 hHq hHq2 hst hxs
    have hx := hxs 0 l rfl
    have hi : i0 < n0 := by
      cases st with
      | true => exact hst rfl
      | false => rw [hst2 rfl]; exact (List.getElem?_eq_some_iff.1 hx).1
    have hq1 : ((l.length : Int) == (many : Int)) = true := by simp; omega
    have fin : ∀ K : V → List Blk → Prop, (∀ H2 F2, J (i0 + 1) F2 H2 → Grow F F2 H H2 → K (.b (!(st && i0 + 1 == n0))) H2) → callI false P (.yld id) [.fsl (l.map intC)] H K := fun K hK => callI_x (hr i0 _ F H hi hx hj) (by rintro r H2 ⟨rfl, F2, hj2, hg2⟩; exact hK H2 F2 hj2 hg2)
    refine sndx_fn ?_
    refine sndx_ic hm low (by simp) ?_
    unfold ic_bung_choices_1_1_s1
    rcases l with _ | ⟨y, l'⟩
    case' nil =>
      have hq1 : (((0 : Nat) : Int) == (many : Int)) = true := by simp at hlen ⊢; omega
      have hq0 : ((0 : Int) == (many : Int)) = true := hq1
      simp -dsimp -implicitDefEqProofs only [hHq, hq1, hq0, argI, qq, Nat.reduceBEq, reduceIte, Nat.reduceAdd, Nat.reduceSub, Nat.reduceLeDiff, Nat.reduceLT, Nat.reduceMul, Nat.reduceEqDiff, Int.reduceEq, Int.reduceBEq, Int.reduceBNe, Int.reduceLT, Int.reduceLE, Int.reduceGT, Int.reduceGE, Int.reduceNeg, Int.reduceAdd, Int.reduceSub, reduceCtorEq, List.reduceReplicate, ← List.map_take, ← List.map_drop]
      apply callI_nil
    case' cons =>
      generalize hly : y :: l' = l at *
      have ha : argI l = .fsl (l.map intC) := by rw [← hly]; rfl
      simp -dsimp -implicitDefEqProofs only [hHq, hq1, ha, qq, Nat.reduceBEq, reduceIte, Nat.reduceAdd, Nat.reduceSub, Nat.reduceLeDiff, Nat.reduceLT, Nat.reduceMul, Nat.reduceEqDiff, Int.reduceEq, Int.reduceBEq, Int.reduceBNe, Int.reduceLT, Int.reduceLE, Int.reduceGT, Int.reduceGE, Int.reduceNeg, Int.reduceAdd, Int.reduceSub, reduceCtorEq, List.reduceReplicate, ← List.map_take, ← List.map_drop]
    all_goals
      refine fin _ fun H2 F2 hj2 hg2 => ?_
      simp -dsimp -implicitDefEqProofs only [qq, Nat.reduceBEq, reduceIte, Nat.reduceAdd, Nat.reduceSub, Nat.reduceLeDiff, Nat.reduceLT, Nat.reduceMul, Nat.reduceEqDiff, Int.reduceEq, Int.reduceBEq, Int.reduceBNe, Int.reduceLT, Int.reduceLE, Int.reduceGT, Int.reduceGE, Int.reduceNeg, Int.reduceAdd, Int.reduceSub, reduceCtorEq, List.reduceReplicate, ← List.map_take, ← List.map_drop]
      refine ends_own (.inr rfl) rfl ⟨?_, F2, ?_, hg2⟩
      · have e : (i0 + 1 == n0) = decide (n0 ≤ i0 + 1) := by rw [Bool.eq_iff_iff]; simp; omega
        simp [resV, combS, e]
      · have e : ∀ l, (if (st && decide (n0 ≤ i0 + (combS n 0 lo l).length)) = true then n0 else i0 + (combS n 0 lo l).length) = i0 + 1 := fun l => by
          simp only [combS, List.length_cons, List.length_nil, Nat.zero_add]
          split
          · rename_i h; simp at h; omega
          · rfl
        rw [e]; exact hj2
  | succ r ih =>
    intro l lo i0 F H hlen hlo hl hj hq hq2 hHq hHq2 hst hxs
    have hq1 : ((l.length : Int) == (many : Int)) = false := by simp; omega
    have hxl : (combS n (r + 1) lo l).length = (combS n (r + 1) lo l).length := rfl
    generalize hD : (fun k => (List.range' lo k).flatMap fun i => combS n r (i + 1) (l ++ [(i : Int)])) = D
    have hD0 : D 0 = [] := by rw [← hD]; rfl
    have hDs : ∀ k, D (k + 1) = D k ++ combS n r (lo + k + 1) (l ++ [((lo + k : Nat) : Int)]) := fun k => by
      rw [← hD]; simp only [List.range'_concat, List.flatMap_append, List.flatMap_cons, List.flatMap_nil, List.append_nil, Nat.one_mul]
    have hDn : D (n - lo) = combS n (r + 1) lo l := by rw [← hD, combS]
    have hDp : ∀ k, k ≤ n - lo → ∃ t, combS n (r + 1) lo l = D k ++ t := fun k hk => by
      obtain ⟨m, hm⟩ : ∃ m, n - lo = k + m := ⟨n - lo - k, by omega⟩
      rw [← hDn, hm, ← hD]
      exact ⟨(List.range' (lo + k) m).flatMap fun i => combS n r (i + 1) (l ++ [(i : Int)]), by rw [← List.flatMap_append, List.range'_append_1]⟩
    refine sndx_fn ?_
    refine sndx_ic hm low (by simp) ?_
    unfold ic_bung_choices_1_1_s1
    rcases hl with ⟨hl0, hlo0⟩ | ⟨l0, x, hl0, hlo0⟩
    case' inl =>
      have hgt : decide ((l.length : Int) > 0) = false := by simp [hl0]
      have ha : argI l = .nsl := by rw [hl0]; rfl
      have hq0 : ((0 : Int) == (many : Int)) = false := by rw [hl0] at hq1; exact hq1
      simp -dsimp -implicitDefEqProofs only [hHq, hq1, hq0, ha, qq, Nat.reduceBEq, reduceIte, Nat.reduceAdd, Nat.reduceSub, Nat.reduceLeDiff, Nat.reduceLT, Nat.reduceMul, Nat.reduceEqDiff, Int.reduceEq, Int.reduceBEq, Int.reduceBNe, Int.reduceLT, Int.reduceLE, Int.reduceGT, Int.reduceGE, Int.reduceNeg, Int.reduceAdd, Int.reduceSub, reduceCtorEq, List.reduceReplicate, ← List.map_take, ← List.map_drop]
    case' inr =>
      have hgt : decide ((l.length : Int) > 0) = true := by simp [hl0]
      have hwl : IntKind.i64.wrap ((l.length : Int) - 1) = (l0.length : Int) := by rw [wrap_id (by omega) (by omega), hl0]; simp
      have hlx : l[l0.length]? = some (x : Int) := by rw [hl0]; simp
      have hwx : IntKind.i64.wrap ((x : Int) + 1) = (lo : Int) := by rw [hlo0, wrap_succ (by omega)]
      have ha : argI l = .fsl (l.map intC) := by
        rw [hl0]; cases l0 <;> rfl
      simp -dsimp -implicitDefEqProofs only [hHq, hq1, hgt, hwl, hlx, hwx, intC, ha, qq, Nat.reduceBEq, reduceIte, Nat.reduceAdd, Nat.reduceSub, Nat.reduceLeDiff, Nat.reduceLT, Nat.reduceMul, Nat.reduceEqDiff, Int.reduceEq, Int.reduceBEq, Int.reduceBNe, Int.reduceLT, Int.reduceLE, Int.reduceGT, Int.reduceGE, Int.reduceNeg, Int.reduceAdd, Int.reduceSub, reduceCtorEq, List.reduceReplicate, ← List.map_take, ← List.map_drop]
    all_goals
      refine loopI_st (fun k : Nat => n - lo - k) (fun k E H' => k ≤ n - lo ∧ E = [(0, argI l), (3, .fpt [.i .i64 n] 0), (4, .rpt q2 1 0 0), (8, .i .i64 (lo + k : Nat))] ∧ ∃ F', J (i0 + (D k).length) F' H' ∧ Grow F F' H H' ∧ (st = true → i0 + (D k).length < n0)) 0 ⟨by omega, by simp [hlo0, ha], F, by rw [hD0]; exact hj, .refl _ _, by rw [hD0]; exact hst⟩ ?_
      rintro k _ H' ⟨hk, rfl, F', hj', hg, hst'⟩
      have hHq' := hg.get hq hHq
      have hHq2' := hg.get hq2 hHq2
      have hnq := hg.notin hq (get_lt hHq)
      have hnq2 := hg.notin hq2 (get_lt hHq2)
      rcases Nat.lt_or_ge (lo + k) n with hkl | hkl
      · have hc : decide (((lo + k : Nat) : Int) < (n : Int)) = true := decide_eq_true (by omega)
        have hwk : IntKind.i64.wrap (((lo + k : Nat) : Int) + 1) = ((lo + (k + 1) : Nat) : Int) := wrap_succ (by omega)
        obtain ⟨r2, H2, hs, hn2⟩ := clone_told h0 H' l (by omega)
        simp -dsimp -implicitDefEqProofs only [hc, hHq2', qq, Nat.reduceBEq, reduceIte, Nat.reduceAdd, Nat.reduceSub, Nat.reduceLeDiff, Nat.reduceLT, Nat.reduceMul, Nat.reduceEqDiff, Int.reduceEq, Int.reduceBEq, Int.reduceBNe, Int.reduceLT, Int.reduceLE, Int.reduceGT, Int.reduceGE, Int.reduceNeg, Int.reduceAdd, Int.reduceSub, reduceCtorEq, List.reduceReplicate, ← List.map_take, ← List.map_drop]
        generalize hiv : ((lo + k : Nat) : Int) = iv at *
        refine ⟨r2, H2, hs, hn2.z.take, ?_⟩
        simp -dsimp -implicitDefEqProofs only [qq, Nat.reduceBEq, reduceIte, Nat.reduceAdd, Nat.reduceSub, Nat.reduceLeDiff, Nat.reduceLT, Nat.reduceMul, Nat.reduceEqDiff, Int.reduceEq, Int.reduceBEq, Int.reduceBNe, Int.reduceLT, Int.reduceLE, Int.reduceGT, Int.reduceGE, Int.reduceNeg, Int.reduceAdd, Int.reduceSub, reduceCtorEq, List.reduceReplicate, ← List.map_take, ← List.map_drop]
        refine ⟨by intro r hr; simp at hr; subst hr; rfl, ?_⟩
        refine app_newZ (ys := [[.i .i64 iv]]) hn2.z (by decide) (by decide) rfl (by simp [V.one]) (by simp; omega) fun v3 H3 hn3 => ?_
        refine ⟨hn3.take, ?_⟩
        obtain ⟨p3, c3, e3, rfl, hp3⟩ := hn3.own.pos (by simp)
        have hf3 := hn3.fresh _ _ _ _ _ _ rfl
        simp -dsimp -implicitDefEqProofs only [qq, Nat.reduceBEq, reduceIte, Nat.reduceAdd, Nat.reduceSub, Nat.reduceLeDiff, Nat.reduceLT, Nat.reduceMul, Nat.reduceEqDiff, Int.reduceEq, Int.reduceBEq, Int.reduceBNe, Int.reduceLT, Int.reduceLE, Int.reduceGT, Int.reduceGE, Int.reduceNeg, Int.reduceAdd, Int.reduceSub, reduceCtorEq, List.reduceReplicate, ← List.map_take, ← List.map_drop]
        have hgive : Give (fun i => i == p3) H3 (.rsl p3 1 0 (l.length + 1) c3 e3) (.fsl ((l ++ [iv]).map intC)) := give_lit (by simp) (by rw [hp3]; simp) (by simp) (bel_ints _)
        refine callI_give (fun i => i == p3) (.cons hgive .nil) ?_
        rw [← argI_snoc]
        have hk3 : ∀ p, p < H'.length → (killB (fun i => i == p3) H3)[p]? = H'[p]? := fun p hp => by
          rw [killB_keep (k := fun i => i == p3) (by simp; omega), List.getElem?_eq_getElem hp]
          exact hn3.keep p _ (by rw [List.getElem?_eq_getElem hp])
        have hl3 : H'.length ≤ (killB (fun i => i == p3) H3).length := by rw [killB_length]; exact hn3.len
        have hxs' : ∀ j c, (combS n r (lo + k + 1) (l ++ [iv]))[j]? = some c → xs[i0 + (D k).length + j]? = some [.fsl (c.map intC)] := fun j c hc => by
          obtain ⟨t, ht⟩ := hDp (k + 1) (by omega)
          have hjl := (List.getElem?_eq_some_iff.1 hc).1
          have := hxs ((D k).length + j) c (by
            rw [ht, hDs, hiv, List.append_assoc, List.getElem?_append_right (by omega), List.getElem?_append_left (by omega), Nat.add_sub_cancel_left]; exact hc)
          rw [← Nat.add_assoc] at this; exact this
        refine callI_x (ih (l ++ [iv]) (lo + k + 1) (i0 + (D k).length) F' (killB (fun i => i == p3) H3) (by simp; omega) (by omega) (.inr ⟨l, lo + k, by rw [hiv], rfl⟩) (hJ.move hj' hl3 (fun p hp => hk3 p (hJ.lt hj' p hp))) hnq hnq2 (by rw [hk3 _ (get_lt hHq')]; exact hHq') (by rw [hk3 _ (get_lt hHq2')]; exact hHq2') hst' hxs') ?_
        rintro rr H4 ⟨rfl, F4, hj4, hg4⟩
        have hg5 := hg.trans (grow_pre hg4 hl3 hk3)
        have hDl : (D (k + 1)).length = (D k).length + (combS n r (lo + k + 1) (l ++ [iv])).length := by rw [hDs, hiv]; simp
        have hDt : (combS n (r + 1) lo l).length ≥ (D (k + 1)).length := by
          obtain ⟨t, ht⟩ := hDp (k + 1) (by omega)
          rw [ht]; simp
        generalize hcl : (combS n r (lo + k + 1) (l ++ [iv])).length = cl at *
        cases hstop : (st && decide (n0 ≤ i0 + (D k).length + cl))
        · rw [hstop] at hj4
          simp -dsimp -implicitDefEqProofs only [hwk, qq, Nat.reduceBEq, reduceIte, Nat.reduceAdd, Nat.reduceSub, Nat.reduceLeDiff, Nat.reduceLT, Nat.reduceMul, Nat.reduceEqDiff, Int.reduceEq, Int.reduceBEq, Int.reduceBNe, Int.reduceLT, Int.reduceLE, Int.reduceGT, Int.reduceGE, Int.reduceNeg, Int.reduceAdd, Int.reduceSub, reduceCtorEq, List.reduceReplicate, ← List.map_take, ← List.map_drop]
          refine ⟨k + 1, by omega, by omega, rfl, F4, by rw [hDl, ← Nat.add_assoc]; exact hj4, hg5, fun h => ?_⟩
          rw [h] at hstop; simp at hstop; omega
        · rw [hstop] at hj4
          simp -dsimp -implicitDefEqProofs only [qq, Nat.reduceBEq, reduceIte, Nat.reduceAdd, Nat.reduceSub, Nat.reduceLeDiff, Nat.reduceLT, Nat.reduceMul, Nat.reduceEqDiff, Int.reduceEq, Int.reduceBEq, Int.reduceBNe, Int.reduceLT, Int.reduceLE, Int.reduceGT, Int.reduceGE, Int.reduceNeg, Int.reduceAdd, Int.reduceSub, reduceCtorEq, List.reduceReplicate, ← List.map_take, ← List.map_drop]
          have hst1 : st = true ∧ n0 ≤ i0 + (D k).length + cl := by simpa using hstop
          have e : (st && decide (n0 ≤ i0 + (combS n (r + 1) lo l).length)) = true := by rw [hst1.1]; simp; omega
          exact ends_own (.inr rfl) rfl ⟨by rw [e]; rfl, F4, by rw [e]; exact hj4, hg5⟩
      · have hc : decide (((lo + k : Nat) : Int) < (n : Int)) = false := decide_eq_false (by omega)
        obtain rfl : k = n - lo := by omega
        simp -dsimp -implicitDefEqProofs only [hc, qq, Nat.reduceBEq, reduceIte, Nat.reduceAdd, Nat.reduceSub, Nat.reduceLeDiff, Nat.reduceLT, Nat.reduceMul, Nat.reduceEqDiff, Int.reduceEq, Int.reduceBEq, Int.reduceBNe, Int.reduceLT, Int.reduceLE, Int.reduceGT, Int.reduceGE, Int.reduceNeg, Int.reduceAdd, Int.reduceSub, reduceCtorEq, List.reduceReplicate, ← List.map_take, ← List.map_drop]
        rw [hDn] at hj' hst'
        refine ends_own (.inr rfl) rfl ⟨?_, F', ?_, hg⟩
        · have : (st && decide (n0 ≤ i0 + (combS n (r + 1) lo l).length)) = false := by
            cases st with
            | false => rfl
            | true => have := hst' rfl; simp; omega
          rw [this]; rfl
        · have : (st && decide (n0 ≤ i0 + (combS n (r + 1) lo l).length)) = false := by
            cases st with
            | false => rfl
            | true => have := hst' rfl; simp; omega
          rw [this]; exact hj'

/-- The lists of so many rising numbers below n, in order. -/
def chooseS (n many : Nat) : List (List Int) := combS n many 0 []
def I_choices (P : Program) (f : Nat) : Prop := ∀ (n many : Nat), n ≤ 9 → many ≤ 9 → IterJ P (.fn (.func f) [] [.fpt [.i .i64 many] 0, .fpt [.i .i64 n] 0]) ((chooseS n many).map fun c => [.fsl (c.map intC)])
theorem ok_choices_1 (hm : P.follows .mixedOrders = true) {f f0 g0 : Nat} (low : Low_bung_choices_1 P f f0) (low1 : Low_bung_choices_1_1_s1 P f0 g0) (h0 : C_CloneT P g0) : I_choices P f := by
  intro n many hn9 hm9 id J n0 st hn hst1 hst2 hJ hr F H hj
  refine sndx_fn ?_
  refine sndx_ic hm low (by simp) ?_
  unfold ic_bung_choices_1
  simp -dsimp -implicitDefEqProofs only [qq, Nat.reduceBEq, reduceIte, Nat.reduceAdd, Nat.reduceSub, Nat.reduceLeDiff, Nat.reduceLT, Nat.reduceMul, Nat.reduceEqDiff, Int.reduceEq, Int.reduceBEq, Int.reduceBNe, Int.reduceLT, Int.reduceLE, Int.reduceGT, Int.reduceGE, Int.reduceNeg, Int.reduceAdd, Int.reduceSub, reduceCtorEq, List.reduceReplicate, ← List.map_take, ← List.map_drop]
  have hk0 : ∀ (p : Nat) (t : List Blk), p < H.length → (H ++ t)[p]? = H[p]? := fun p t hp => List.getElem?_append_left hp
  have hFl := hJ.lt hj
  refine callI_x (ok_grow (id := id) (n0 := n0) (q := H.length) (q2 := H.length + 1) (xs := (chooseS n many).map fun c => [.fsl (c.map intC)]) (J := J) (st := st) hm low1 h0 hn9 hm9 hst2 hJ hr many [] 0 0 F _ (by simp) (by omega) (.inl ⟨rfl, rfl⟩) (hJ.app hj _) (fun h => by have := hFl _ h; omega) (fun h => by have := hFl _ h; omega)
    (by rw [List.getElem?_append_right (Nat.le_refl _), Nat.sub_self]; rfl) (by rw [List.getElem?_append_right (by omega), Nat.add_sub_cancel_left]; rfl) hst1 (fun j c hc => by rw [Nat.zero_add, List.getElem?_map]; rw [show (chooseS n many)[j]? = some c from hc]; rfl)) ?_
  rintro r H2 ⟨rfl, F2, hj2, hg2⟩
  simp -dsimp -implicitDefEqProofs only [qq, Nat.reduceBEq, reduceIte, Nat.reduceAdd, Nat.reduceSub, Nat.reduceLeDiff, Nat.reduceLT, Nat.reduceMul, Nat.reduceEqDiff, Int.reduceEq, Int.reduceBEq, Int.reduceBNe, Int.reduceLT, Int.reduceLE, Int.reduceGT, Int.reduceGE, Int.reduceNeg, Int.reduceAdd, Int.reduceSub, reduceCtorEq, List.reduceReplicate, ← List.map_take, ← List.map_drop]
  refine EndsX.void (.inl rfl) ⟨rfl, F2, ?_, grow_pre hg2 (by simp) fun p hp => hk0 p _ hp⟩
  rw [List.length_map] at hn hst2
  change J (if st && decide (n0 ≤ 0 + (chooseS n many).length) then n0 else 0 + (chooseS n many).length) F2 H2 at hj2
  cases st with
  | true => rw [Nat.zero_add, decide_eq_true hn] at hj2; exact hj2
  | false => rw [hst2 rfl]; rw [Nat.zero_add] at hj2; exact hj2
def C_choices (P : Program) (f : Nat) : Prop := ∃ g, isFn P g ∧ I_choices P g ∧ ∀ n many : Nat, Snd P f [.i .i64 n, .i .i64 many] [] (.fn (.func g) [] [.fpt [.i .i64 many] 0, .fpt [.i .i64 n] 0]) []
theorem ok_choices (hm : P.follows .mixedOrders = true) {f f0 g0 g1 : Nat} (low : Low_bung_choices P f f0) (low1 : Low_bung_choices_1 P f0 g0) (low2 : Low_bung_choices_1_1_s1 P g0 g1) (h0 : C_CloneT P g1) : C_choices P f := by
  refine ⟨f0, lowF_fn low1, ok_choices_1 hm low1 low2 h0, fun n many => ?_⟩
  refine snd_ic hm low (by simp) ?_
  unfold ic_bung_choices
  simp -dsimp -implicitDefEqProofs only [qq, Nat.reduceBEq, reduceIte, Nat.reduceAdd, Nat.reduceSub, Nat.reduceLeDiff, Nat.reduceLT, Nat.reduceMul, Nat.reduceEqDiff, Int.reduceEq, Int.reduceBEq, Int.reduceBNe, Int.reduceLT, Int.reduceLE, Int.reduceGT, Int.reduceGE, Int.reduceNeg, Int.reduceAdd, Int.reduceSub, reduceCtorEq, List.reduceReplicate, ← List.map_take, ← List.map_drop]
  refine Ends.ret rfl ?_
  have box : ∀ (H : List Blk) (p : Nat) (x : Int), H[p]? = some (.row 1 [[.i .i64 x]]) → Frz 0 H (.rpt p 1 0 0) (.fpt [.i .i64 x] 0) := fun H p x h => .pt p 1 0 0 _ _ _ (Nat.zero_le _) h rfl rfl rfl (fun j v v' e1 e2 => by rw [e1] at e2; cases e2; exact .keep _ (by cases j <;> simp at e1; subst e1; rfl))
  exact .fn _ _ _ _ _ rfl rfl (fun j v v' e => by simp at e) (fun j v v' e1 e2 => by
    match j with
    | 0 => simp at e1 e2; subst e1 e2; exact box _ _ _ rfl
    | 1 => simp at e1 e2; subst e1 e2; exact box _ _ _ rfl
    | j + 2 => simp at e1)
end Go.Sh.C3
end
section
namespace Go.Sh.C3
open Go.Sh
set_option maxRecDepth 10000
set_option linter.unusedVariables false
set_option linter.unusedSimpArgs false
variable {P : Program}
def ic_bung_Most (f0 f1 f2 : Nat) : IC := .seq (.reg [⟨some 1, none, .box (.t 0)⟩, ⟨some 2, none, .mov (.c (.nsl))⟩, ⟨some 3, none, .mov (.c (.i .i64 (0)))⟩] [1]) (.scope (.seq (.block 0 (.seq (.reg [⟨some 8, none, .ld none (.t 1)⟩, ⟨some 9, none, .calv (.c (.fn (.func f0) [] [])) [.t 8]⟩, ⟨some 10, none, .un .not (.t 9)⟩, ⟨some 7, none, .mov (.t 10)⟩] [1, 7]) (.cond (.t 7) (.seq (.reg [⟨some 2, none, .mov (.c (.nsl))⟩, ⟨some 3, none, .mov (.c (.i .i64 (30)))⟩] [2, 3]) (.ret)) (.seq (.reg [⟨some 12, none, .ld none (.t 1)⟩, ⟨some 13, none, .len false (.t 12)⟩, ⟨some 14, none, .bin .gtr (.t 13) (.c (.i .i64 (9)))⟩, ⟨some 11, none, .mov (.t 14)⟩] [1, 11]) (.cond (.t 11) (.seq (.reg [⟨some 2, none, .mov (.c (.nsl))⟩, ⟨some 3, none, .mov (.c (.i .i64 (36)))⟩] [2, 3]) (.ret)) (.skip)))))) (.seq (.reg [⟨some 4, none, .alloc [.nsl]⟩] [1, 4]) (.seq (.skip) (.seq (.seq (.reg [⟨some 15, none, .ld none (.t 1)⟩, ⟨some 16, none, .len false (.t 15)⟩, ⟨some 5, none, .mov (.t 16)⟩] [1, 4, 5]) (.block 1 (.loop (.seq (.seq (.reg [⟨some 17, none, .mov (.t 5)⟩, ⟨some 18, none, .bin .geq (.t 17) (.c (.i .i64 (0)))⟩] [1, 4, 5, 18]) (.cond (.t 18) (.skip) (.exit 1))) (.seq (.block 2 (.seq (.reg [⟨some 21, none, .ld none (.t 1)⟩, ⟨some 22, none, .len false (.t 21)⟩, ⟨some 23, none, .mov (.t 5)⟩, ⟨some 24, none, .calv (.c (.fn (.func f1) [] [])) [.t 22, .t 23]⟩] [1, 4, 5, 24]) (.block 3 (.rng (.t 24) [25] (.reg [⟨some 6, none, .mov (.t 25)⟩] [1, 4, 6]) (.block 4 (.seq (.reg [⟨some 26, none, .ld none (.t 1)⟩, ⟨some 27, none, .mov (.t 6)⟩, ⟨some 28, none, .calv (.c (.fn (.func f2) [] [])) [.t 26, .t 27]⟩] [4, 6, 28]) (.cond (.t 28) (.seq (.reg [⟨some 29, none, .mov (.t 6)⟩, ⟨none, none, .st 1 (.t 4) (.t 29)⟩] [4]) (.exit 1)) (.skip)))))))) (.reg [⟨some 19, none, .mov (.t 5)⟩, ⟨some 20, none, .bin .sub (.t 19) (.c (.i .i64 (1)))⟩, ⟨some 5, none, .mov (.t 20)⟩] [1, 4, 5])))))) (.seq (.reg [⟨some 30, none, .ld none (.t 4)⟩, ⟨some 2, none, .mov (.t 30)⟩, ⟨some 3, none, .mov (.c (.i .i64 (0)))⟩] [2, 3]) (.ret)))))))
abbrev Low_bung_Most (P : Program) (f f0 f1 f2 : Nat) : Prop := lowF P f = some (31, [.tmp 2, .tmp 3], (ic_bung_Most f0 f1 f2).erase)

theorem mem_combS {n : Nat} : ∀ {r lo : Nat} {l c : List Int}, c ∈ combS n r lo l ↔ ∃ t : List Int, c = l ++ t ∧ t.length = r ∧ t.Pairwise (· < ·) ∧ ∀ i ∈ t, (lo : Int) ≤ i ∧ i < n
  | 0, lo, l, c => by
    simp only [combS, List.mem_singleton]
    constructor
    · rintro rfl; exact ⟨[], by simp⟩
    · rintro ⟨t, rfl, ht, _⟩
      rw [List.length_eq_zero_iff] at ht
      simp [ht]
  | r + 1, lo, l, c => by
    simp only [combS, List.mem_flatMap, List.mem_range'_1, mem_combS]
    constructor
    · rintro ⟨i, ⟨h1, h2⟩, t, rfl, ht, hp, hi⟩
      refine ⟨(i : Int) :: t, by simp, by simp [ht], List.pairwise_cons.2 ⟨fun j hj => by have := hi j hj; omega, hp⟩, fun j hj => ?_⟩
      rcases List.mem_cons.1 hj with rfl | hj
      · omega
      · have := hi j hj; omega
    · rintro ⟨t, rfl, ht, hp, hi⟩
      cases t with
      | nil => simp at ht
      | cons x t =>
        have hx := hi x (by simp)
        rw [List.pairwise_cons] at hp
        refine ⟨x.toNat, by omega, t, by rw [Int.toNat_of_nonneg (by omega)]; simp, by simpa using ht, hp.2, fun j hj => ?_⟩
        have h1 := hp.1 j hj
        have h2 := hi j (by simp [hj])
        omega
/-- A rising list of numbers below n. -/
def Ris (n : Nat) (c : List Int) : Prop := c.Pairwise (· < ·) ∧ okIx n c
theorem mem_choose {n m : Nat} {c : List Int} : c ∈ chooseS n m ↔ c.length = m ∧ Ris n c := by
  rw [chooseS, mem_combS]
  constructor
  · rintro ⟨t, rfl, ht, hp, hi⟩
    exact ⟨ht, hp, fun i hi' => by have := hi i hi'; omega⟩
  · rintro ⟨ht, hp, hi⟩
    exact ⟨c, rfl, ht, hp, fun i hi' => by have := hi i hi'; omega⟩
theorem Ris.nodup {n : Nat} {c : List Int} (h : Ris n c) : c.Nodup := h.1.imp fun hab => by omega
/-- The first that will do, of so many, or else of fewer. -/
def mostF (l : List Sag) : Nat → Option (List Int)
  | 0 => none
  | m + 1 => ((chooseS l.length m).find? (canS l)).or (mostF l m)
def mostE (l : List Sag) : Int := if listB l then (if 9 < l.length then 36 else 0) else 30
def mostR (l : List Sag) : List Int := if listB l = true ∧ l.length ≤ 9 then (mostF l (l.length + 1)).getD [] else []
def C_Most (P : Program) (f : Nat) : Prop := ∀ l : List Sag, Snd P f [.fsl (l.map Sag.c)] [] (.tup [.fsl ((mostR l).map intC), .i .i64 (mostE l)]) []
theorem ok_Most (hm : P.follows .mixedOrders = true) {f f0 f1 f2 : Nat} (low : Low_bung_Most P f f0 f1 f2) (h0 : C_isList P f0) (h1 : C_choices P f1) (h2 : C_can P f2) : C_Most P f := by
  intro l
  obtain ⟨g, hg, hI, hd⟩ := h1
  have none_ : ∀ (H : List Blk) (e : Int), mostE l = e → mostR l = [] → Frz 0 H (resV [.nsl, .i .i64 e]) (.tup [.fsl ((mostR l).map intC), .i .i64 (mostE l)]) := fun H e h1 h2 => by rw [h1, h2]; exact frz2 .nil (.keep _ rfl)
  refine snd_ic hm low (by simp) ?_
  unfold ic_bung_Most
  simp -dsimp -implicitDefEqProofs only [qq, Nat.reduceBEq, reduceIte, Nat.reduceAdd, Nat.reduceSub, Nat.reduceLeDiff, Nat.reduceLT, Nat.reduceMul, Nat.reduceEqDiff, Int.reduceEq, Int.reduceBEq, Int.reduceBNe, Int.reduceLT, Int.reduceLE, Int.reduceGT, Int.reduceGE, Int.reduceNeg, Int.reduceAdd, Int.reduceSub, reduceCtorEq, List.reduceReplicate, ← List.map_take, ← List.map_drop]
  refine callI_pure (h0 l) rfl rfl ?_
  cases hv : listB l
  · simp -dsimp -implicitDefEqProofs only [qq, Nat.reduceBEq, reduceIte, Nat.reduceAdd, Nat.reduceSub, Nat.reduceLeDiff, Nat.reduceLT, Nat.reduceMul, Nat.reduceEqDiff, Int.reduceEq, Int.reduceBEq, Int.reduceBNe, Int.reduceLT, Int.reduceLE, Int.reduceGT, Int.reduceGE, Int.reduceNeg, Int.reduceAdd, Int.reduceSub, reduceCtorEq, List.reduceReplicate, ← List.map_take, ← List.map_drop]
    exact Ends.ret rfl (none_ _ 30 (by simp [mostE, hv]) (by simp [mostR, hv]))
  have hlen := list_len hv
  rcases Nat.lt_or_ge 9 l.length with h9 | h9
  · have q1 : decide ((l.length : Int) > 9) = true := by simp; omega
    simp -dsimp -implicitDefEqProofs only [q1, qq, Nat.reduceBEq, reduceIte, Nat.reduceAdd, Nat.reduceSub, Nat.reduceLeDiff, Nat.reduceLT, Nat.reduceMul, Nat.reduceEqDiff, Int.reduceEq, Int.reduceBEq, Int.reduceBNe, Int.reduceLT, Int.reduceLE, Int.reduceGT, Int.reduceGE, Int.reduceNeg, Int.reduceAdd, Int.reduceSub, reduceCtorEq, List.reduceReplicate, ← List.map_take, ← List.map_drop]
    exact Ends.ret rfl (none_ _ 36 (by simp [mostE, hv, h9]) (by simp [mostR]; omega))
  have q1 : decide ((l.length : Int) > 9) = false := by simp; omega
  have q0 : mostE l = 0 := by rw [mostE, if_pos hv, if_neg (by omega)]
  have qr : mostR l = (mostF l (l.length + 1)).getD [] := by rw [mostR, if_pos ⟨hv, h9⟩]
  rw [q0, qr]
  simp -dsimp -implicitDefEqProofs only [q1, qq, Nat.reduceBEq, reduceIte, Nat.reduceAdd, Nat.reduceSub, Nat.reduceLeDiff, Nat.reduceLT, Nat.reduceMul, Nat.reduceEqDiff, Int.reduceEq, Int.reduceBEq, Int.reduceBNe, Int.reduceLT, Int.reduceLE, Int.reduceGT, Int.reduceGE, Int.reduceNeg, Int.reduceAdd, Int.reduceSub, reduceCtorEq, List.reduceReplicate, ← List.map_take, ← List.map_drop]
  refine loopI_st (fun k : Nat => k) (fun k E H => k ≤ l.length + 1 ∧ E = [(1, .rpt 0 1 0 0), (4, .rpt 1 1 0 0), (5, .i .i64 ((k : Int) - 1))] ∧ H[0]? = some (.row 1 [[.fsl (l.map Sag.c)]]) ∧ H[1]? = some (.row 1 [[.nsl]]) ∧ mostF l (l.length + 1) = mostF l k) (l.length + 1) ⟨by omega, by simp, rfl, rfl, rfl⟩ ?_
  rintro k _ H ⟨hk, rfl, hb0, hb1, hF⟩
  rcases k with _ | m
  · have hc : decide ((((0 : Nat) : Int) - 1) ≥ 0) = false := by decide
    simp -dsimp -implicitDefEqProofs only [hc, hb1, qq, Nat.reduceBEq, reduceIte, Nat.reduceAdd, Nat.reduceSub, Nat.reduceLeDiff, Nat.reduceLT, Nat.reduceMul, Nat.reduceEqDiff, Int.reduceEq, Int.reduceBEq, Int.reduceBNe, Int.reduceLT, Int.reduceLE, Int.reduceGT, Int.reduceGE, Int.reduceNeg, Int.reduceAdd, Int.reduceSub, reduceCtorEq, List.reduceReplicate, ← List.map_take, ← List.map_drop]
    rw [hF]
    exact Ends.ret rfl (frz2 .nil (.keep _ rfl))
  have hc : decide ((((m + 1 : Nat) : Int) - 1) ≥ 0) = true := decide_eq_true (by omega)
  have hm1 : ((m + 1 : Nat) : Int) - 1 = (m : Int) := by omega
  rw [hm1]
  have hc : decide ((m : Int) ≥ 0) = true := decide_eq_true (by omega)
  simp -dsimp -implicitDefEqProofs only [hc, hb0, qq, Nat.reduceBEq, reduceIte, Nat.reduceAdd, Nat.reduceSub, Nat.reduceLeDiff, Nat.reduceLT, Nat.reduceMul, Nat.reduceEqDiff, Int.reduceEq, Int.reduceBEq, Int.reduceBNe, Int.reduceLT, Int.reduceLE, Int.reduceGT, Int.reduceGE, Int.reduceNeg, Int.reduceAdd, Int.reduceSub, reduceCtorEq, List.reduceReplicate, ← List.map_take, ← List.map_drop]
  refine callI_pure (hd l.length m) rfl rfl ?_
  simp -dsimp -implicitDefEqProofs only [qq, Nat.reduceBEq, reduceIte, Nat.reduceAdd, Nat.reduceSub, Nat.reduceLeDiff, Nat.reduceLT, Nat.reduceMul, Nat.reduceEqDiff, Int.reduceEq, Int.reduceBEq, Int.reduceBNe, Int.reduceLT, Int.reduceLE, Int.reduceGT, Int.reduceGE, Int.reduceNeg, Int.reduceAdd, Int.reduceSub, reduceCtorEq, List.reduceReplicate, ← List.map_take, ← List.map_drop]
  have hlt1 := get_lt hb1
  have hloc : ∀ val : Nat → V, Loc fun i F H => F = [0, 1] ∧ H[0]? = some (.row 1 [[.fsl (l.map Sag.c)]]) ∧ H[1]? = some (.row 1 [[val i]]) := fun val => ⟨by
    rintro i F H H' ⟨rfl, h1, h2⟩ hl hk
    exact ⟨rfl, (hk 0 (by simp)).trans h1, (hk 1 (by simp)).trans h2⟩, by
    rintro i F H ⟨rfl, h1, h2⟩ p hp
    have := get_lt h2
    simp at hp; omega⟩
  have hget : ∀ (i : Nat) (y : List V), ((chooseS l.length m).map fun c => [V.fsl (c.map intC)])[i]? = some y → ∃ c, (chooseS l.length m)[i]? = some c ∧ y = [.fsl (c.map intC)] ∧ okIx l.length c ∧ c.Nodup := fun i y hy => by
    rw [List.getElem?_map] at hy
    obtain ⟨c, hc, rfl⟩ := Option.map_eq_some_iff.1 hy
    have := (mem_choose.1 (List.mem_of_getElem? hc)).2
    exact ⟨c, hc, rfl, this.2, this.nodup⟩
  cases hfind : (chooseS l.length m).find? (canS l) with
  | none =>
    refine ⟨g, _, _, rfl, hg, _, (chooseS l.length m).length, .normal, fun i F H => F = [0, 1] ∧ H[0]? = some (.row 1 [[.fsl (l.map Sag.c)]]) ∧ H[1]? = some (.row 1 [[.nsl]]), [0, 1], hI l.length m h9 (by omega), by simp [rngOk], hloc fun _ => .nsl, ⟨rfl, hb0, hb1⟩, ?_, ?_⟩
    · rintro L Lb i y F H1 hi hy ⟨rfl, g1, g2⟩ hno hL
      obtain ⟨c, hcc, rfl, hok, hnd⟩ := hget i y hy
      have hcan : canS l c = false := by
        have := List.find?_eq_none.1 hfind c (List.mem_of_getElem? hcc); simpa using this
      have k1 : (H1.set H.length Lb)[0]? = _ := get_setne g1 (by omega)
      have k2 : (H1.set H.length Lb)[1]? = _ := get_setne g2 (by omega)
      refine ⟨rfl, ?_⟩
      simp -dsimp -implicitDefEqProofs only [k1, qq, Nat.reduceBEq, reduceIte, Nat.reduceAdd, Nat.reduceSub, Nat.reduceLeDiff, Nat.reduceLT, Nat.reduceMul, Nat.reduceEqDiff, Int.reduceEq, Int.reduceBEq, Int.reduceBNe, Int.reduceLT, Int.reduceLE, Int.reduceGT, Int.reduceGE, Int.reduceNeg, Int.reduceAdd, Int.reduceSub, reduceCtorEq, List.reduceReplicate, ← List.map_take, ← List.map_drop]
      refine ⟨hL, ?_⟩
      refine callI_pure (h2 l c hv hok hnd) rfl rfl ?_
      simp -dsimp -implicitDefEqProofs only [hcan, qq, Nat.reduceBEq, reduceIte, Nat.reduceAdd, Nat.reduceSub, Nat.reduceLeDiff, Nat.reduceLT, Nat.reduceMul, Nat.reduceEqDiff, Int.reduceEq, Int.reduceBEq, Int.reduceBNe, Int.reduceLT, Int.reduceLE, Int.reduceGT, Int.reduceGE, Int.reduceNeg, Int.reduceAdd, Int.reduceSub, reduceCtorEq, List.reduceReplicate, ← List.map_take, ← List.map_drop]
      refine ⟨by simp, get_setsame hL, [0, 1], ⟨rfl, k1, k2⟩, ?_⟩
      exact ⟨by simp, fun p hp hn hq => List.getElem?_set_ne (fun e => hq e.symm), fun p hp => .inl hp⟩
    · rintro F' H' ⟨rfl, g1, g2⟩ hgr
      have hw : IntKind.i64.wrap ((m : Int) - 1) = (m : Int) - 1 := wrap_id (by omega) (by omega)
      simp -dsimp -implicitDefEqProofs only [hw, qq, Nat.reduceBEq, reduceIte, Nat.reduceAdd, Nat.reduceSub, Nat.reduceLeDiff, Nat.reduceLT, Nat.reduceMul, Nat.reduceEqDiff, Int.reduceEq, Int.reduceBEq, Int.reduceBNe, Int.reduceLT, Int.reduceLE, Int.reduceGT, Int.reduceGE, Int.reduceNeg, Int.reduceAdd, Int.reduceSub, reduceCtorEq, List.reduceReplicate, ← List.map_take, ← List.map_drop]
      exact ⟨m, by omega, by omega, rfl, g1, g2, by rw [hF, mostF, hfind]; rfl⟩
  | some c0 =>
    rw [List.find?_eq_some_iff_getElem] at hfind
    obtain ⟨hc0, i0, hi0, hc0e, hbef⟩ := hfind
    have hfin : mostF l (l.length + 1) = some c0 := by
      have : (chooseS l.length m).find? (canS l) = some c0 := List.find?_eq_some_iff_getElem.2 ⟨hc0, i0, hi0, hc0e, hbef⟩
      rw [hF, mostF, this]; rfl
    have v0 : (if 0 = i0 + 1 then V.fsl (c0.map intC) else .nsl) = .nsl := if_neg (by omega)
    refine ⟨g, _, _, rfl, hg, _, i0 + 1, .exit 1, fun i F H => F = [0, 1] ∧ H[0]? = some (.row 1 [[.fsl (l.map Sag.c)]]) ∧ H[1]? = some (.row 1 [[if i = i0 + 1 then .fsl (c0.map intC) else .nsl]]), [0, 1], hI l.length m h9 (by omega), by simp [rngOk]; omega, hloc fun i => if i = i0 + 1 then .fsl (c0.map intC) else .nsl, ⟨rfl, hb0, by rw [v0]; exact hb1⟩, ?_, ?_⟩
    · rintro L Lb i y F H1 hi hy ⟨rfl, g1, g2⟩ hno hL
      rw [if_neg (by omega)] at g2
      obtain ⟨c, hcc, rfl, hok, hnd⟩ := hget i y hy
      have k1 : (H1.set H.length Lb)[0]? = _ := get_setne g1 (by omega)
      have k2 : (H1.set H.length Lb)[1]? = _ := get_setne g2 (by omega)
      rcases Nat.lt_or_ge i i0 with hii | hii
      · have hcan : canS l c = false := by
          have := hbef i hii
          rw [(List.getElem?_eq_some_iff.1 hcc).2] at this
          simpa using this
        refine ⟨rfl, ?_⟩
        simp -dsimp -implicitDefEqProofs only [k1, qq, Nat.reduceBEq, reduceIte, Nat.reduceAdd, Nat.reduceSub, Nat.reduceLeDiff, Nat.reduceLT, Nat.reduceMul, Nat.reduceEqDiff, Int.reduceEq, Int.reduceBEq, Int.reduceBNe, Int.reduceLT, Int.reduceLE, Int.reduceGT, Int.reduceGE, Int.reduceNeg, Int.reduceAdd, Int.reduceSub, reduceCtorEq, List.reduceReplicate, ← List.map_take, ← List.map_drop]
        refine ⟨hL, ?_⟩
        refine callI_pure (h2 l c hv hok hnd) rfl rfl ?_
        simp -dsimp -implicitDefEqProofs only [hcan, qq, Nat.reduceBEq, reduceIte, Nat.reduceAdd, Nat.reduceSub, Nat.reduceLeDiff, Nat.reduceLT, Nat.reduceMul, Nat.reduceEqDiff, Int.reduceEq, Int.reduceBEq, Int.reduceBNe, Int.reduceLT, Int.reduceLE, Int.reduceGT, Int.reduceGE, Int.reduceNeg, Int.reduceAdd, Int.reduceSub, reduceCtorEq, List.reduceReplicate, ← List.map_take, ← List.map_drop]
        refine ⟨by rw [if_neg (by omega)], get_setsame hL, [0, 1], ⟨rfl, k1, by rw [if_neg (by omega)]; exact k2⟩, ?_⟩
        exact ⟨by simp, fun p hp hn hq => List.getElem?_set_ne (fun e => hq e.symm), fun p hp => .inl hp⟩
      · obtain rfl : i = i0 := by omega
        obtain rfl : c = c0 := by rw [← hc0e, (List.getElem?_eq_some_iff.1 hcc).2]
        refine ⟨rfl, ?_⟩
        simp -dsimp -implicitDefEqProofs only [k1, qq, Nat.reduceBEq, reduceIte, Nat.reduceAdd, Nat.reduceSub, Nat.reduceLeDiff, Nat.reduceLT, Nat.reduceMul, Nat.reduceEqDiff, Int.reduceEq, Int.reduceBEq, Int.reduceBNe, Int.reduceLT, Int.reduceLE, Int.reduceGT, Int.reduceGE, Int.reduceNeg, Int.reduceAdd, Int.reduceSub, reduceCtorEq, List.reduceReplicate, ← List.map_take, ← List.map_drop]
        refine ⟨hL, ?_⟩
        refine callI_pure (h2 l c hv hok hnd) rfl rfl ?_
        simp -dsimp -implicitDefEqProofs only [hc0, k2, qq, Nat.reduceBEq, reduceIte, Nat.reduceAdd, Nat.reduceSub, Nat.reduceLeDiff, Nat.reduceLT, Nat.reduceMul, Nat.reduceEqDiff, Int.reduceEq, Int.reduceBEq, Int.reduceBNe, Int.reduceLT, Int.reduceLE, Int.reduceGT, Int.reduceGE, Int.reduceNeg, Int.reduceAdd, Int.reduceSub, reduceCtorEq, List.reduceReplicate, ← List.map_take, ← List.map_drop]
        refine ⟨get_setne (get_setsame hL) (by omega), [0, 1], ⟨rfl, get_setne k1 (by decide), get_setsame k2⟩, ?_⟩
        exact ⟨by simp, fun p hp hn hq => by
          simp at hn
          rw [List.getElem?_set_ne (by omega)]; exact List.getElem?_set_ne (fun e => hq e.symm), fun p hp => .inl hp⟩
    · rintro F' H' ⟨rfl, g1, g2⟩ hgr
      rw [if_pos rfl] at g2
      simp -dsimp -implicitDefEqProofs only [g2, qq, Nat.reduceBEq, reduceIte, Nat.reduceAdd, Nat.reduceSub, Nat.reduceLeDiff, Nat.reduceLT, Nat.reduceMul, Nat.reduceEqDiff, Int.reduceEq, Int.reduceBEq, Int.reduceBNe, Int.reduceLT, Int.reduceLE, Int.reduceGT, Int.reduceGE, Int.reduceNeg, Int.reduceAdd, Int.reduceSub, reduceCtorEq, List.reduceReplicate, ← List.map_take, ← List.map_drop]
      rw [hfin]
      exact Ends.ret rfl (frz_keep2 rfl rfl)
end Go.Sh.C3
end
section
namespace Go.Sh.C3
open Go.Sh
set_option maxRecDepth 10000
set_option linter.unusedVariables false
set_option linter.unusedSimpArgs false
variable {P : Program}
def ic_potbankref03_chosen : IC := .seq (.reg [⟨some 4, none, .mov (.c (.nsl))⟩] [0, 1]) (.seq (.reg [⟨some 5, none, .mov (.c (.nsl))⟩] [0, 1, 5]) (.seq (.seq (.reg [⟨some 6, none, .mov (.c (.i .i64 (0)))⟩] [0, 1, 5, 6]) (.block 0 (.loop (.seq (.seq (.reg [⟨some 7, none, .mov (.t 6)⟩, ⟨some 8, none, .mov (.t 1)⟩, ⟨some 9, none, .bin .lss (.t 7) (.t 8)⟩] [0, 1, 5, 6, 9]) (.cond (.t 9) (.skip) (.exit 0))) (.seq (.block 1 (.seq (.reg [⟨some 12, none, .mov (.t 0)⟩, ⟨some 13, none, .mov (.t 6)⟩, ⟨some 14, none, .bin .shr (.t 12) (.t 13)⟩, ⟨some 15, none, .bin .and (.t 14) (.c (.i .i64 (1)))⟩, ⟨some 16, none, .bin .eql (.t 15) (.c (.i .i64 (1)))⟩] [0, 1, 5, 6, 16]) (.cond (.t 16) (.reg [⟨some 17, none, .mov (.t 5)⟩, ⟨some 18, none, .mov (.t 6)⟩, ⟨some 19, none, .bsl false 1 1 [.i .i64 (0)] [(0, (.t 18))]⟩, ⟨some 20, none, .app 1 8 (.t 17) (.t 19)⟩, ⟨some 5, none, .mov (.t 20)⟩] [0, 1, 5, 6]) (.skip)))) (.reg [⟨some 10, none, .mov (.t 6)⟩, ⟨some 11, none, .bin .add (.t 10) (.c (.i .i64 (1)))⟩, ⟨some 6, none, .mov (.t 11)⟩] [0, 1, 5, 6])))))) (.seq (.reg [⟨some 21, none, .mov (.t 5)⟩, ⟨some 4, none, .mov (.t 21)⟩] [4]) (.ret))))
abbrev Low_potbankref03_chosen (P : Program) (f : Nat) : Prop := lowF P f = some (22, [.tmp 4], (ic_potbankref03_chosen).erase)
def ic_potbankref03_Ahead : IC := .seq (.reg [⟨some 4, none, .mov (.c (.b false))⟩] [0, 1]) (.seq (.seq (.reg [⟨some 5, none, .mov (.c (.i .i64 (0)))⟩] [0, 1, 5]) (.block 0 (.loop (.seq (.seq (.reg [⟨some 6, none, .mov (.t 5)⟩, ⟨some 7, none, .mov (.t 0)⟩, ⟨some 8, none, .len false (.t 7)⟩, ⟨some 9, none, .bin .lss (.t 6) (.t 8)⟩, ⟨some 10, none, .mov (.t 9)⟩, ⟨some 11, some (10, true), .mov (.t 5)⟩, ⟨some 12, some (10, true), .mov (.t 1)⟩, ⟨some 13, some (10, true), .len false (.t 12)⟩, ⟨some 14, some (10, true), .bin .lss (.t 11) (.t 13)⟩, ⟨some 15, none, .pick (.t 10) (.t 14) (.c (.b false))⟩] [0, 1, 5, 15]) (.cond (.t 15) (.skip) (.exit 0))) (.seq (.block 1 (.seq (.drg [(0, ⟨some 18, none, .mov (.t 0)⟩), (0, ⟨some 19, none, .mov (.t 5)⟩), (0, ⟨some 20, none, .ixs 1 (.t 18) (.t 19)⟩), (0, ⟨some 21, none, .ld none (.t 20)⟩), (0, ⟨some 22, none, .mov (.t 1)⟩), (0, ⟨some 23, none, .mov (.t 5)⟩), (0, ⟨some 24, none, .ixs 1 (.t 22) (.t 23)⟩), (0, ⟨some 25, none, .ld none (.t 24)⟩), (0, ⟨some 26, none, .bin .neq (.t 21) (.t 25)⟩)] 8 [0, 1, 5, 26]) (.cond (.t 26) (.seq (.drg [(0, ⟨some 27, none, .mov (.t 0)⟩), (0, ⟨some 28, none, .mov (.t 5)⟩), (0, ⟨some 29, none, .ixs 1 (.t 27) (.t 28)⟩), (0, ⟨some 30, none, .ld none (.t 29)⟩), (0, ⟨some 31, none, .mov (.t 1)⟩), (0, ⟨some 32, none, .mov (.t 5)⟩), (0, ⟨some 33, none, .ixs 1 (.t 31) (.t 32)⟩), (0, ⟨some 34, none, .ld none (.t 33)⟩), (0, ⟨some 35, none, .bin .lss (.t 30) (.t 34)⟩), (0, ⟨some 4, none, .mov (.t 35)⟩)] 8 [4]) (.ret)) (.skip)))) (.reg [⟨some 16, none, .mov (.t 5)⟩, ⟨some 17, none, .bin .add (.t 16) (.c (.i .i64 (1)))⟩, ⟨some 5, none, .mov (.t 17)⟩] [0, 1, 5])))))) (.seq (.reg [⟨some 36, none, .mov (.t 0)⟩, ⟨some 37, none, .len false (.t 36)⟩, ⟨some 38, none, .mov (.t 1)⟩, ⟨some 39, none, .len false (.t 38)⟩, ⟨some 40, none, .bin .lss (.t 37) (.t 39)⟩, ⟨some 4, none, .mov (.t 40)⟩] [4]) (.ret)))
abbrev Low_potbankref03_Ahead (P : Program) (f : Nat) : Prop := lowF P f = some (41, [.tmp 4], (ic_potbankref03_Ahead).erase)
def ic_potbankref03_Most (f0 f1 f2 f3 f4 : Nat) : IC := .seq (.reg [⟨some 2, none, .mov (.c (.nsl))⟩, ⟨some 3, none, .mov (.c (.i .i64 (0)))⟩] [0]) (.seq (.seq (.reg [⟨some 7, none, .mov (.t 0)⟩, ⟨some 8, none, .calv (.c (.fn (.func f0) [] [])) [.t 7]⟩, ⟨some 9, none, .bin .neq (.t 8) (.c (.i .i64 (0)))⟩] [0, 9]) (.cond (.t 9) (.seq (.reg [⟨some 2, none, .mov (.c (.nsl))⟩, ⟨some 3, none, .mov (.c (.i .i64 (30)))⟩] [2, 3]) (.ret)) (.skip))) (.seq (.seq (.reg [⟨some 10, none, .mov (.t 0)⟩, ⟨some 11, none, .len false (.t 10)⟩, ⟨some 12, none, .bin .gtr (.t 11) (.c (.i .i64 (9)))⟩] [0, 12]) (.cond (.t 12) (.seq (.reg [⟨some 2, none, .mov (.c (.nsl))⟩, ⟨some 3, none, .mov (.c (.i .i64 (36)))⟩] [2, 3]) (.ret)) (.skip))) (.seq (.reg [⟨some 4, none, .mov (.c (.nsl))⟩] [0, 4]) (.seq (.seq (.reg [⟨some 5, none, .mov (.c (.i .i64 (0)))⟩] [0, 4, 5]) (.block 0 (.loop (.seq (.seq (.reg [⟨some 13, none, .mov (.t 5)⟩, ⟨some 14, none, .mov (.t 0)⟩, ⟨some 15, none, .len false (.t 14)⟩, ⟨some 16, none, .bin .shl (.c (.i .i64 (1))) (.t 15)⟩, ⟨some 17, none, .bin .lss (.t 13) (.t 16)⟩] [0, 4, 5, 17]) (.cond (.t 17) (.skip) (.exit 0))) (.seq (.block 1 (.seq (.reg [⟨some 20, none, .mov (.t 5)⟩, ⟨some 21, none, .mov (.t 0)⟩, ⟨some 22, none, .len false (.t 21)⟩, ⟨some 23, none, .calv (.c (.fn (.func f1) [] [])) [.t 20, .t 22]⟩, ⟨some 6, none, .mov (.t 23)⟩] [0, 4, 5, 6]) (.seq (.reg [⟨some 24, none, .mov (.t 0)⟩, ⟨some 25, none, .mov (.t 6)⟩, ⟨some 26, none, .calv (.c (.fn (.func f2) [] [])) [.t 24, .t 25]⟩, ⟨some 27, none, .calv (.c (.fn (.func f3) [] [])) [.t 26]⟩, ⟨some 28, none, .mov (.t 27)⟩, ⟨some 29, some (28, true), .mov (.t 6)⟩, ⟨some 30, some (28, true), .len false (.t 29)⟩, ⟨some 31, some (28, true), .mov (.t 4)⟩, ⟨some 32, some (28, true), .len false (.t 31)⟩, ⟨some 33, some (28, true), .bin .gtr (.t 30) (.t 32)⟩, ⟨some 34, some (28, true), .mov (.t 33)⟩, ⟨some 35, some (34, false), .mov (.t 6)⟩, ⟨some 36, some (34, false), .len false (.t 35)⟩, ⟨some 37, some (34, false), .mov (.t 4)⟩, ⟨some 38, some (34, false), .len false (.t 37)⟩, ⟨some 39, some (34, false), .bin .eql (.t 36) (.t 38)⟩, ⟨some 40, some (34, false), .mov (.t 39)⟩, ⟨some 41, some (40, true), .mov (.t 6)⟩, ⟨some 42, some (40, true), .mov (.t 4)⟩, ⟨some 43, some (40, true), .calv (.c (.fn (.func f4) [] [])) [.t 41, .t 42]⟩, ⟨some 44, some (34, false), .pick (.t 40) (.t 43) (.c (.b false))⟩, ⟨some 45, some (28, true), .pick (.t 34) (.c (.b true)) (.t 44)⟩, ⟨some 46, none, .pick (.t 28) (.t 45) (.c (.b false))⟩] [0, 4, 5, 6, 46]) (.cond (.t 46) (.reg [⟨some 47, none, .mov (.t 6)⟩, ⟨some 4, none, .mov (.t 47)⟩] [0, 4, 5]) (.skip))))) (.reg [⟨some 18, none, .mov (.t 5)⟩, ⟨some 19, none, .bin .add (.t 18) (.c (.i .i64 (1)))⟩, ⟨some 5, none, .mov (.t 19)⟩] [0, 4, 5])))))) (.seq (.reg [⟨some 48, none, .mov (.t 4)⟩, ⟨some 2, none, .mov (.t 48)⟩, ⟨some 3, none, .mov (.c (.i .i64 (0)))⟩] [2, 3]) (.ret))))))
abbrev Low_potbankref03_Most (P : Program) (f f0 f1 f2 f3 f4 : Nat) : Prop := lowF P f = some (49, [.tmp 2, .tmp 3], (ic_potbankref03_Most f0 f1 f2 f3 f4).erase)

theorem and_one : ∀ x : _root_.Fin 512, IntKind.i64.wrap ((BitVec.ofInt 64 (x.val : Int) &&& BitVec.ofInt 64 1).toNat) = ((x.val % 2 : Nat) : Int) := by decide +kernel
def bitsS (mask n : Nat) : List Int := ((List.range n).filter fun i => mask.testBit i).map fun (i : Nat) => (i : Int)
theorem bitsS_succ (mask n : Nat) : bitsS mask (n + 1) = bitsS mask n ++ (if mask.testBit n then [(n : Int)] else []) := by
  unfold bitsS
  rw [List.range_succ, List.filter_append, List.map_append]
  congr 1
  cases h : mask.testBit n <;> simp [h]
theorem bitsS_len (mask n : Nat) : (bitsS mask n).length ≤ n := by
  unfold bitsS
  rw [List.length_map]
  exact Nat.le_trans (List.length_filter_le _ _) (by simp)
def C_chosen (P : Program) (f : Nat) : Prop := ∀ (mask n : Nat), n ≤ 9 → mask < 512 → Snd P f [.i .i64 mask, .i .i64 n] [] (.fsl ((bitsS mask n).map intC)) []
theorem ok_chosen (hm : P.follows .mixedOrders = true) {f : Nat} (low : Low_potbankref03_chosen P f) : C_chosen P f := by
  intro mask n hn hmask
  refine snd_ic hm low (by simp) ?_
  unfold ic_potbankref03_chosen
  simp -dsimp -implicitDefEqProofs only [qq, Nat.reduceBEq, reduceIte, Nat.reduceAdd, Nat.reduceSub, Nat.reduceLeDiff, Nat.reduceLT, Nat.reduceMul, Nat.reduceEqDiff, Int.reduceEq, Int.reduceBEq, Int.reduceBNe, Int.reduceLT, Int.reduceLE, Int.reduceGT, Int.reduceGE, Int.reduceNeg, Int.reduceAdd, Int.reduceSub, reduceCtorEq, List.reduceReplicate, ← List.map_take, ← List.map_drop]
  refine loopI_st (fun i : Nat => n - i) (fun i E H => i ≤ n ∧ ∃ v, E = [(0, .i .i64 mask), (1, .i .i64 n), (5, v), (6, .i .i64 i)] ∧ OwnS H 1 ((bitsS mask i).map intC) v) 0 ⟨by omega, _, rfl, .nil _ _⟩ ?_
  rintro i _ H ⟨hi, v, rfl, ho⟩
  have hbl := bitsS_len mask i
  rcases Nat.lt_or_ge i n with hil | hil
  · have hc : decide ((i : Int) < (n : Int)) = true := decide_eq_true (by omega)
    have hwi : IntKind.i64.wrap ((i : Int) + 1) = ((i + 1 : Nat) : Int) := wrap_succ (by omega)
    have hsh : (if (i : Int) < 0 then none else some (V.i .i64 ((mask : Int).fdiv (2 ^ min i IntKind.i64.bits)))) = some (V.i .i64 ((mask / 2 ^ i : Nat) : Int)) := by
      rw [if_neg (by omega), Nat.min_eq_left (by simp only [IntKind.bits]; omega)]
      congr 2
      rw [Int.fdiv_eq_ediv_of_nonneg _ (by exact Int.le_of_lt (Int.pow_pos (by decide)))]
      simp
    have hand : bitI .and .i64 ((mask / 2 ^ i : Nat) : Int) 1 = some (.i .i64 ((mask / 2 ^ i % 2 : Nat) : Int)) := by
      have h1 : mask / 2 ^ i < 512 := Nat.lt_of_le_of_lt (Nat.div_le_self _ _) hmask
      exact congrArg (fun x => some (V.i .i64 x)) (and_one ⟨mask / 2 ^ i, h1⟩)
    have htb : mask.testBit i = decide (mask / 2 ^ i % 2 = 1) := Nat.testBit_eq_decide_div_mod_eq
    have hbs := bitsS_succ mask i
    cases hb : mask.testBit i
    · have hq : (((mask / 2 ^ i % 2 : Nat) : Int) == 1) = false := by
        rw [hb] at htb
        have h1 : mask / 2 ^ i % 2 ≠ 1 := of_decide_eq_false htb.symm
        generalize mask / 2 ^ i % 2 = z at h1
        simp; omega
      rw [hb] at hbs
      simp -dsimp -implicitDefEqProofs only [hc, hsh, hand, hq, hwi, qq, Nat.reduceBEq, reduceIte, Nat.reduceAdd, Nat.reduceSub, Nat.reduceLeDiff, Nat.reduceLT, Nat.reduceMul, Nat.reduceEqDiff, Int.reduceEq, Int.reduceBEq, Int.reduceBNe, Int.reduceLT, Int.reduceLE, Int.reduceGT, Int.reduceGE, Int.reduceNeg, Int.reduceAdd, Int.reduceSub, reduceCtorEq, List.reduceReplicate, ← List.map_take, ← List.map_drop]
      exact ⟨i + 1, by omega, by omega, v, rfl, by rw [hbs]; simpa using ho⟩
    · have hq : (((mask / 2 ^ i % 2 : Nat) : Int) == 1) = true := by
        rw [hb] at htb
        have h1 : mask / 2 ^ i % 2 = 1 := of_decide_eq_true htb.symm
        rw [h1]; rfl
      rw [hb] at hbs
      simp -dsimp -implicitDefEqProofs only [hc, hsh, hand, hq, qq, Nat.reduceBEq, reduceIte, Nat.reduceAdd, Nat.reduceSub, Nat.reduceLeDiff, Nat.reduceLT, Nat.reduceMul, Nat.reduceEqDiff, Int.reduceEq, Int.reduceBEq, Int.reduceBNe, Int.reduceLT, Int.reduceLE, Int.reduceGT, Int.reduceGE, Int.reduceNeg, Int.reduceAdd, Int.reduceSub, reduceCtorEq, List.reduceReplicate, ← List.map_take, ← List.map_drop]
      refine app_ownA (ys := [[.i .i64 i]]) ho (by decide) (by decide) (by simp [Sh.shown]) (by simp [V.one]) (by simp; omega) fun v' H' hv' _ => ?_
      simp -dsimp -implicitDefEqProofs only [hwi, qq, Nat.reduceBEq, reduceIte, Nat.reduceAdd, Nat.reduceSub, Nat.reduceLeDiff, Nat.reduceLT, Nat.reduceMul, Nat.reduceEqDiff, Int.reduceEq, Int.reduceBEq, Int.reduceBNe, Int.reduceLT, Int.reduceLE, Int.reduceGT, Int.reduceGE, Int.reduceNeg, Int.reduceAdd, Int.reduceSub, reduceCtorEq, List.reduceReplicate, ← List.map_take, ← List.map_drop]
      exact ⟨i + 1, by omega, by omega, v', rfl, by rw [hbs]; simpa using hv'⟩
  · obtain rfl : i = n := by omega
    have hc : decide ((i : Int) < (i : Int)) = false := by simp
    simp -dsimp -implicitDefEqProofs only [hc, qq, Nat.reduceBEq, reduceIte, Nat.reduceAdd, Nat.reduceSub, Nat.reduceLeDiff, Nat.reduceLT, Nat.reduceMul, Nat.reduceEqDiff, Int.reduceEq, Int.reduceBEq, Int.reduceBNe, Int.reduceLT, Int.reduceLE, Int.reduceGT, Int.reduceGE, Int.reduceNeg, Int.reduceAdd, Int.reduceSub, reduceCtorEq, List.reduceReplicate, ← List.map_take, ← List.map_drop]
    exact Ends.ret rfl (ho.frz (bel_ints _))
def aheadS : List Int → List Int → Bool
  | [], b => decide (0 < b.length)
  | _ :: _, [] => false
  | x :: a, y :: b => if x = y then aheadS a b else decide (x < y)
theorem aheadS_len : ∀ {a b : List Int} (i : Nat), (∀ j, j < i → a[j]? = b[j]?) → i ≤ a.length → i ≤ b.length → aheadS a b = aheadS (a.drop i) (b.drop i)
  | _, _, 0, _, _, _ => by simp
  | [], _, i + 1, _, h, _ => by simp at h
  | _ :: _, [], i + 1, _, _, h => by simp at h
  | x :: a, y :: b, i + 1, h, h1, h2 => by
    have h0 := h 0 (by omega)
    simp at h0
    subst h0
    rw [aheadS, if_pos rfl, List.drop_succ_cons, List.drop_succ_cons]
    exact aheadS_len i (fun j hj => by simpa using h (j + 1) (by omega)) (by simpa using h1) (by simpa using h2)
def C_Ahead (P : Program) (f : Nat) : Prop := ∀ (a b : List Int), a.length ≤ 1000000 → b.length ≤ 1000000 → Snd P f [.fsl (a.map intC), .fsl (b.map intC)] [] (.b (aheadS a b)) []
theorem ok_Ahead (hm : P.follows .mixedOrders = true) {f : Nat} (low : Low_potbankref03_Ahead P f) : C_Ahead P f := by
  intro a b ha hb
  refine snd_ic hm low (by simp) ?_
  unfold ic_potbankref03_Ahead
  simp -dsimp -implicitDefEqProofs only [qq, Nat.reduceBEq, reduceIte, Nat.reduceAdd, Nat.reduceSub, Nat.reduceLeDiff, Nat.reduceLT, Nat.reduceMul, Nat.reduceEqDiff, Int.reduceEq, Int.reduceBEq, Int.reduceBNe, Int.reduceLT, Int.reduceLE, Int.reduceGT, Int.reduceGE, Int.reduceNeg, Int.reduceAdd, Int.reduceSub, reduceCtorEq, List.reduceReplicate, ← List.map_take, ← List.map_drop]
  refine loopI_st (fun i : Nat => a.length - i) (fun i E H => i ≤ a.length ∧ i ≤ b.length ∧ E = [(0, .fsl (a.map intC)), (1, .fsl (b.map intC)), (5, .i .i64 i)] ∧ ∀ j, j < i → a[j]? = b[j]?) 0 ⟨by omega, by omega, rfl, fun j hj => by omega⟩ ?_
  rintro i _ H ⟨hia, hib, rfl, hsame⟩
  have hd := aheadS_len i hsame hia hib
  have hfin : ¬ (i < a.length ∧ i < b.length) → Ends [.tmp 4] [] (.b (aheadS a b)) [] .ret [(4, .b (decide ((a.length : Int) < (b.length : Int))))] H := fun hn => Ends.plain rfl rfl (by
    simp only [resV]
    congr 1
    rw [hd]
    rcases Nat.lt_or_ge i a.length with h | h
    · have hbi : i = b.length := by omega
      obtain ⟨x, hx, _, _, hdx⟩ := next_of h
      rw [hdx, hbi, List.drop_length]
      simp only [aheadS]; simp; omega
    · have hai : i = a.length := by omega
      rw [hai, List.drop_length, aheadS, List.length_drop]
      rw [Bool.eq_iff_iff]; simp; omega)
  rcases Nat.lt_or_ge i a.length with hil | hil
  · have hc : decide ((i : Int) < (a.length : Int)) = true := decide_eq_true (by omega)
    rcases Nat.lt_or_ge i b.length with hjl | hjl
    · have hc2 : decide ((i : Int) < (b.length : Int)) = true := decide_eq_true (by omega)
      have hwi : IntKind.i64.wrap ((i : Int) + 1) = ((i + 1 : Nat) : Int) := wrap_succ (by omega)
      obtain ⟨x, hx, _, _, hdx⟩ := next_of hil
      obtain ⟨y, hy, _, _, hdy⟩ := next_of hjl
      by_cases hxy : x = y
      · have hq : (x != y) = false := by simp [hxy]
        simp -dsimp -implicitDefEqProofs only [hc, hc2, hx, hy, intC, hq, hwi, qq, Nat.reduceBEq, reduceIte, Nat.reduceAdd, Nat.reduceSub, Nat.reduceLeDiff, Nat.reduceLT, Nat.reduceMul, Nat.reduceEqDiff, Int.reduceEq, Int.reduceBEq, Int.reduceBNe, Int.reduceLT, Int.reduceLE, Int.reduceGT, Int.reduceGE, Int.reduceNeg, Int.reduceAdd, Int.reduceSub, reduceCtorEq, List.reduceReplicate, ← List.map_take, ← List.map_drop]
        exact ⟨i + 1, by omega, by omega, by omega, rfl, fun j hj => by
          rcases Nat.lt_succ_iff_lt_or_eq.1 hj with g | rfl
          · exact hsame j g
          · rw [hx, hy, hxy]⟩
      · have hq : (x != y) = true := by simp [hxy]
        have hfx : aheadS a b = decide (x < y) := by rw [hd, hdx, hdy, aheadS, if_neg hxy]
        simp -dsimp -implicitDefEqProofs only [hc, hc2, hx, hy, intC, hq, qq, Nat.reduceBEq, reduceIte, Nat.reduceAdd, Nat.reduceSub, Nat.reduceLeDiff, Nat.reduceLT, Nat.reduceMul, Nat.reduceEqDiff, Int.reduceEq, Int.reduceBEq, Int.reduceBNe, Int.reduceLT, Int.reduceLE, Int.reduceGT, Int.reduceGE, Int.reduceNeg, Int.reduceAdd, Int.reduceSub, reduceCtorEq, List.reduceReplicate, ← List.map_take, ← List.map_drop]
        exact Ends.plain rfl rfl (by rw [hfx]; rfl)
    · have hc2 : decide ((i : Int) < (b.length : Int)) = false := decide_eq_false (by omega)
      simp -dsimp -implicitDefEqProofs only [hc, hc2, qq, Nat.reduceBEq, reduceIte, Nat.reduceAdd, Nat.reduceSub, Nat.reduceLeDiff, Nat.reduceLT, Nat.reduceMul, Nat.reduceEqDiff, Int.reduceEq, Int.reduceBEq, Int.reduceBNe, Int.reduceLT, Int.reduceLE, Int.reduceGT, Int.reduceGE, Int.reduceNeg, Int.reduceAdd, Int.reduceSub, reduceCtorEq, List.reduceReplicate, ← List.map_take, ← List.map_drop]
      exact hfin (by omega)
  · have hc : decide ((i : Int) < (a.length : Int)) = false := decide_eq_false (by omega)
    simp -dsimp -implicitDefEqProofs only [hc, qq, Nat.reduceBEq, reduceIte, Nat.reduceAdd, Nat.reduceSub, Nat.reduceLeDiff, Nat.reduceLT, Nat.reduceMul, Nat.reduceEqDiff, Int.reduceEq, Int.reduceBEq, Int.reduceBNe, Int.reduceLT, Int.reduceLE, Int.reduceGT, Int.reduceGE, Int.reduceNeg, Int.reduceAdd, Int.reduceSub, reduceCtorEq, List.reduceReplicate, ← List.map_take, ← List.map_drop]
    exact hfin (by omega)
end Go.Sh.C3
end
section
namespace Go.Sh.C3
open Go.Sh
set_option maxRecDepth 10000
set_option linter.unusedVariables false
set_option linter.unusedSimpArgs false
variable {P : Program}
def ic_potbanklaw03_sane (f0 f1 f2 f3 f4 f5 f6 f7 f8 f9 : Nat) : IC := .seq (.reg [⟨some 0, none, .mov (.c (.b false))⟩] []) (.seq (.reg [⟨some 22, none, .bld [.i .i64 (0), .i .i64 (0)] [(0, 1, (.c (.i .i64 (5)))), (1, 1, (.c (.i .i64 (10))))]⟩, ⟨some 1, none, .alloc [.i .i64 (0), .i .i64 (0)]⟩, ⟨none, none, .st 2 (.t 1) (.t 22)⟩] [1]) (.seq (.drg [(0, ⟨some 24, none, .ld (some 2) (.t 1)⟩), (0, ⟨some 25, none, .calv (.c (.fn (.func f0) [] [])) []⟩), (0, ⟨some 26, none, .bsl true 1 3 [.i .i64 (0)] [(0, (.c (.i .i64 (0)))), (1, (.c (.i .i64 (1)))), (2, (.c (.i .i64 (2))))]⟩), (0, ⟨some 27, none, .calv (.c (.fn (.func f1) [] [])) [.t 24, .t 25, .t 26]⟩), (0, ⟨some 23, none, .mov (.t 27)⟩), (0, ⟨some 28, none, .ext (.t 23) 0⟩), (0, ⟨some 29, none, .ext (.t 23) 1⟩), (1, ⟨some 2, none, .alloc [.i .i64 (0), .i .i64 (0), .nsl]⟩), (1, ⟨none, none, .st 3 (.t 2) (.t 28)⟩), (0, ⟨some 3, none, .mov (.t 29)⟩)] 9 [1, 2, 3]) (.seq (.drg [(0, ⟨some 31, none, .ld (some 2) (.t 1)⟩), (0, ⟨some 32, none, .calv (.c (.fn (.func f0) [] [])) []⟩), (0, ⟨some 33, none, .bsl true 1 3 [.i .i64 (0)] [(0, (.c (.i .i64 (1)))), (1, (.c (.i .i64 (0)))), (2, (.c (.i .i64 (2))))]⟩), (0, ⟨some 34, none, .calv (.c (.fn (.func f1) [] [])) [.t 31, .t 32, .t 33]⟩), (0, ⟨some 30, none, .mov (.t 34)⟩), (0, ⟨some 35, none, .ext (.t 30) 0⟩), (0, ⟨some 36, none, .ext (.t 30) 1⟩), (1, ⟨some 4, none, .alloc [.i .i64 (0), .i .i64 (0), .nsl]⟩), (1, ⟨none, none, .st 3 (.t 4) (.t 35)⟩), (0, ⟨some 5, none, .mov (.t 36)⟩)] 9 [1, 2, 3, 4, 5]) (.seq (.reg [⟨some 38, none, .ld (some 3) (.t 2)⟩, ⟨some 39, none, .calv (.c (.fn (.func f2) [] [])) [.t 38]⟩, ⟨some 37, none, .mov (.t 39)⟩, ⟨some 40, none, .ext (.t 37) 0⟩, ⟨some 41, none, .ext (.t 37) 1⟩, ⟨some 6, none, .mov (.t 40)⟩, ⟨some 7, none, .mov (.t 41)⟩] [1, 2, 3, 4, 5, 6, 7]) (.seq (.reg [⟨some 43, none, .ld (some 3) (.t 2)⟩, ⟨some 44, none, .calv (.c (.fn (.func f3) [] [])) [.t 43]⟩, ⟨some 42, none, .mov (.t 44)⟩, ⟨some 45, none, .ext (.t 42) 0⟩, ⟨some 46, none, .ext (.t 42) 1⟩, ⟨some 8, none, .mov (.t 45)⟩, ⟨some 9, none, .mov (.t 46)⟩] [1, 2, 3, 4, 5, 6, 7, 8, 9]) (.seq (.reg [⟨some 48, none, .ld (some 3) (.t 4)⟩, ⟨some 49, none, .calv (.c (.fn (.func f3) [] [])) [.t 48]⟩, ⟨some 47, none, .mov (.t 49)⟩, ⟨some 50, none, .ext (.t 47) 0⟩, ⟨some 51, none, .ext (.t 47) 1⟩, ⟨some 10, none, .mov (.t 50)⟩, ⟨some 11, none, .mov (.t 51)⟩] [1, 2, 3, 4, 5, 6, 7, 8, 9, 10, 11]) (.seq (.reg [⟨some 53, none, .ld (some 3) (.t 2)⟩, ⟨some 54, none, .calv (.c (.fn (.func f4) [] [])) [.t 53]⟩, ⟨some 52, none, .mov (.t 54)⟩, ⟨some 55, none, .ext (.t 52) 0⟩, ⟨some 56, none, .ext (.t 52) 1⟩, ⟨some 12, none, .mov (.t 55)⟩, ⟨some 13, none, .mov (.t 56)⟩] [1, 3, 4, 5, 6, 7, 8, 9, 10, 11, 12, 13]) (.seq (.reg [⟨some 58, none, .ld (some 3) (.t 4)⟩, ⟨some 59, none, .calv (.c (.fn (.func f5) [] [])) [.t 58]⟩, ⟨some 57, none, .mov (.t 59)⟩, ⟨some 60, none, .ext (.t 57) 0⟩, ⟨some 61, none, .ext (.t 57) 1⟩, ⟨some 14, none, .alloc [.i .i64 (0), .i .i64 (0), .nsl]⟩, ⟨none, none, .st 3 (.t 14) (.t 60)⟩, ⟨some 15, none, .mov (.t 61)⟩] [1, 3, 5, 6, 7, 8, 9, 10, 11, 12, 13, 14, 15]) (.seq (.drg [(0, ⟨some 63, none, .ld (some 2) (.t 1)⟩), (0, ⟨some 64, none, .calv (.c (.fn (.func f0) [] [])) []⟩), (0, ⟨some 65, none, .bld [.i .i64 (0), .i .i64 (0)] [(0, 1, (.c (.i .i64 (400)))), (1, 1, (.c (.i .i64 (9))))]⟩), (0, ⟨some 66, none, .calv (.c (.fn (.func f6) [] [])) [.t 63, .t 64, .t 65]⟩), (0, ⟨some 62, none, .mov (.t 66)⟩), (0, ⟨some 67, none, .ext (.t 62) 0⟩), (0, ⟨some 68, none, .ext (.t 62) 1⟩), (0, ⟨some 16, none, .mov (.t 67)⟩), (0, ⟨some 17, none, .mov (.t 68)⟩)] 8 [3, 5, 6, 7, 8, 9, 10, 11, 12, 13, 14, 15, 16, 17]) (.seq (.reg [⟨some 69, none, .mov (.t 3)⟩, ⟨some 70, none, .bin .eql (.t 69) (.c (.i .i64 (0)))⟩, ⟨some 71, none, .mov (.t 70)⟩, ⟨some 72, some (71, true), .mov (.t 5)⟩, ⟨some 73, some (71, true), .bin .eql (.t 72) (.c (.i .i64 (0)))⟩, ⟨some 74, none, .pick (.t 71) (.t 73) (.c (.b false))⟩, ⟨some 75, none, .mov (.t 74)⟩, ⟨some 76, some (75, true), .mov (.t 7)⟩, ⟨some 77, some (75, true), .bin .eql (.t 76) (.c (.i .i64 (0)))⟩, ⟨some 78, none, .pick (.t 75) (.t 77) (.c (.b false))⟩, ⟨some 79, none, .mov (.t 78)⟩, ⟨some 80, some (79, true), .mov (.t 9)⟩, ⟨some 81, some (79, true), .bin .eql (.t 80) (.c (.i .i64 (0)))⟩, ⟨some 82, none, .pick (.t 79) (.t 81) (.c (.b false))⟩, ⟨some 83, none, .mov (.t 82)⟩, ⟨some 84, some (83, true), .mov (.t 11)⟩, ⟨some 85, some (83, true), .bin .eql (.t 84) (.c (.i .i64 (0)))⟩, ⟨some 86, none, .pick (.t 83) (.t 85) (.c (.b false))⟩, ⟨some 87, none, .mov (.t 86)⟩, ⟨some 88, some (87, true), .mov (.t 13)⟩, ⟨some 89, some (87, true), .bin .eql (.t 88) (.c (.i .i64 (0)))⟩, ⟨some 90, none, .pick (.t 87) (.t 89) (.c (.b false))⟩, ⟨some 91, none, .mov (.t 90)⟩, ⟨some 92, some (91, true), .mov (.t 15)⟩, ⟨some 93, some (91, true), .bin .eql (.t 92) (.c (.i .i64 (0)))⟩, ⟨some 94, none, .pick (.t 91) (.t 93) (.c (.b false))⟩, ⟨some 95, none, .mov (.t 94)⟩, ⟨some 96, some (95, true), .mov (.t 17)⟩, ⟨some 97, some (95, true), .bin .eql (.t 96) (.c (.i .i64 (0)))⟩, ⟨some 98, none, .pick (.t 95) (.t 97) (.c (.b false))⟩, ⟨some 18, none, .mov (.t 98)⟩] [6, 8, 10, 12, 14, 16, 18]) (.seq (.reg [⟨some 99, none, .mov (.t 6)⟩, ⟨some 100, none, .bld [.i .i64 (0), .i .i64 (0)] [(0, 1, (.c (.i .i64 (140)))), (1, 1, (.c (.i .i64 (150))))]⟩, ⟨some 101, none, .bld [.i .i64 (0), .i .i64 (0)] [(0, 1, (.c (.i .i64 (60)))), (1, 1, (.c (.i .i64 (60))))]⟩, ⟨some 102, none, .bld [.i .i64 (0), .i .i64 (0)] []⟩, ⟨some 103, none, .bsl false 2 3 [.i .i64 (0), .i .i64 (0)] [(0, (.t 100)), (1, (.t 101)), (2, (.t 102))]⟩, ⟨some 104, none, .calv (.c (.fn (.func f7) [] [])) [.t 99, .t 103]⟩, ⟨some 19, none, .mov (.t 104)⟩] [8, 10, 12, 14, 16, 18, 19]) (.seq (.reg [⟨some 105, none, .mov (.t 16)⟩, ⟨some 106, none, .bsl false 1 2 [.i .i64 (0)] [(0, (.c (.i .i64 (0)))), (1, (.c (.i .i64 (2))))]⟩, ⟨some 107, none, .bsl false 1 1 [.i .i64 (0)] [(0, (.c (.i .i64 (1))))]⟩, ⟨some 108, none, .bsl false 1 2 [.nsl] [(0, (.t 106)), (1, (.t 107))]⟩, ⟨some 109, none, .calv (.c (.fn (.func f8) [] [])) [.t 105, .t 108]⟩, ⟨some 20, none, .mov (.t 109)⟩] [8, 10, 12, 14, 18, 19, 20]) (.seq (.reg [⟨some 110, none, .fad 2 (.t 14)⟩, ⟨some 111, none, .ld none (.t 110)⟩, ⟨some 112, none, .bsl false 1 2 [.i .i64 (0)] [(0, (.c (.i .i64 (120)))), (1, (.c (.i .i64 (60))))]⟩, ⟨some 113, none, .calv (.c (.fn (.func f9) [] [])) [.t 111, .t 112]⟩, ⟨some 21, none, .mov (.t 113)⟩] [8, 10, 12, 14, 18, 19, 20, 21]) (.seq (.reg [⟨some 114, none, .mov (.t 18)⟩, ⟨some 115, none, .mov (.t 114)⟩, ⟨some 116, some (115, true), .mov (.t 19)⟩, ⟨some 117, none, .pick (.t 115) (.t 116) (.c (.b false))⟩, ⟨some 118, none, .mov (.t 117)⟩, ⟨some 119, some (118, true), .mov (.t 8)⟩, ⟨some 120, some (118, true), .bin .eql (.t 119) (.c (.i .i64 (1)))⟩, ⟨some 121, none, .pick (.t 118) (.t 120) (.c (.b false))⟩, ⟨some 122, none, .mov (.t 121)⟩, ⟨some 123, some (122, true), .mov (.t 10)⟩, ⟨some 124, some (122, true), .bin .eql (.t 123) (.c (.i .i64 (2)))⟩, ⟨some 125, none, .pick (.t 122) (.t 124) (.c (.b false))⟩, ⟨some 126, none, .mov (.t 125)⟩, ⟨some 127, some (126, true), .mov (.t 12)⟩, ⟨some 128, some (126, true), .bin .eql (.t 127) (.c (.i .i64 (4)))⟩, ⟨some 129, none, .pick (.t 126) (.t 128) (.c (.b false))⟩, ⟨some 130, none, .mov (.t 129)⟩, ⟨some 131, some (130, true), .mov (.t 21)⟩, ⟨some 132, none, .pick (.t 130) (.t 131) (.c (.b false))⟩, ⟨some 133, none, .mov (.t 132)⟩, ⟨some 134, some (133, true), .fad 0 (.t 14)⟩, ⟨some 135, some (133, true), .ld none (.t 134)⟩, ⟨some 136, some (133, true), .bin .eql (.t 135) (.c (.i .i64 (0)))⟩, ⟨some 137, none, .pick (.t 133) (.t 136) (.c (.b false))⟩, ⟨some 138, none, .mov (.t 137)⟩, ⟨some 139, some (138, true), .fad 1 (.t 14)⟩, ⟨some 140, some (138, true), .ld none (.t 139)⟩, ⟨some 141, some (138, true), .bin .eql (.t 140) (.c (.i .i64 (150)))⟩, ⟨some 142, none, .pick (.t 138) (.t 141) (.c (.b false))⟩, ⟨some 143, none, .mov (.t 142)⟩, ⟨some 144, some (143, true), .mov (.t 20)⟩, ⟨some 145, none, .pick (.t 143) (.t 144) (.c (.b false))⟩, ⟨some 0, none, .mov (.t 145)⟩] [0]) (.ret)))))))))))))))
abbrev Low_potbanklaw03_sane (P : Program) (f f0 f1 f2 f3 f4 f5 f6 f7 f8 f9 : Nat) : Prop := lowF P f = some (146, [.tmp 0], (ic_potbanklaw03_sane f0 f1 f2 f3 f4 f5 f6 f7 f8 f9).erase)

theorem frz_col {H : List Blk} {p n c : Nat} {e : Bool} {us us' : List V} (h : H[p]? = some (.row 1 (us.map fun u => [u]))) (hn : us.length = n) (hl : us.length = us'.length) (hb : ∀ u ∈ us', u.bel 0 = true) (hu : ∀ (i : Nat) u u', us[i]? = some u → us'[i]? = some u' → Frz 0 H u u') : Frz 0 H (.rsl p 1 0 n c e) (.fsl (us'.map fun u => [u])) := by
  subst hn
  have ht : ((us.map fun u => [u]).drop 0).take us.length = us.map fun u => [u] := by rw [List.drop_zero, List.take_of_length_le (by simp)]
  refine .sl p 1 0 us.length c e _ _ (Nat.zero_le _) h (by simp) (by simp [hl]) (fun row hr => ?_) ?_ ?_
  · obtain ⟨u, hu, rfl⟩ := List.mem_map.1 hr
    simp [belL, hb u hu]
  · intro i row row' h1 h3
    rw [ht, List.getElem?_map] at h1
    rw [List.getElem?_map] at h3
    obtain ⟨u, _, rfl⟩ := Option.map_eq_some_iff.1 h1
    obtain ⟨u', _, rfl⟩ := Option.map_eq_some_iff.1 h3
    rfl
  · intro i row row' j x x' h1 h3 e1 e2
    rw [ht, List.getElem?_map] at h1
    rw [List.getElem?_map] at h3
    obtain ⟨u, g1, rfl⟩ := Option.map_eq_some_iff.1 h1
    obtain ⟨u', g2, rfl⟩ := Option.map_eq_some_iff.1 h3
    cases j with
    | zero => simp at e1 e2; subst e1 e2; exact hu i u u' g1 g2
    | succ j => simp at e1
def C_sane (P : Program) (f : Nat) : Prop := Snd P f [] [] (.b true) []
def exB : List Sag := pickS exS [0, 1, 2]
def exC : List Sag := pickS exS [1, 0, 2]
theorem ok_sane (hm : P.follows .mixedOrders = true) {f f0 f1 f2 f3 f4 f5 f6 f7 f8 f9 : Nat} (low : Low_potbanklaw03_sane P f f0 f1 f2 f3 f4 f5 f6 f7 f8 f9) (h0 : C_example P f0) (h1 : C_Set P f1) (h2 : C_Loads P f2) (h3 : C_Stands P f3) (h4 : C_Lean P f4) (h5 : C_Breaks P f5) (h6 : C_Fewest P f6) (h7 : C_SameRanges P f7) (h8 : C_SameParts P f8) (h9 : C_Same P f9) : C_sane P f := by
  have s1 : setE ⟨5, 10⟩ exS [0, 1, 2] = 0 := by decide +kernel
  have s2 : setE ⟨5, 10⟩ exS [1, 0, 2] = 0 := by decide +kernel
  have b1 : bungB ⟨5, 10⟩ exB = true := by decide +kernel
  have b2 : bungB ⟨5, 10⟩ exC = true := by decide +kernel
  have c1 := h1 ⟨5, 10⟩ exS [0, 1, 2] (by decide)
  have c2 := h1 ⟨5, 10⟩ exS [1, 0, 2] (by decide)
  have c3 := h2 ⟨5, 10⟩ exB
  have c4 := h3 ⟨5, 10⟩ exB
  have c5 := h3 ⟨5, 10⟩ exC
  have c6 := h4 ⟨5, 10⟩ exB
  have c7 := h5 ⟨5, 10⟩ exC
  have c8 := h6 ⟨5, 10⟩ exS ⟨400, 9⟩
  rw [s1, if_pos rfl] at c1
  rw [s2, if_pos rfl] at c2
  rw [b1, if_pos rfl, if_pos rfl] at c3 c4 c6
  rw [b2, if_pos rfl, if_pos rfl] at c5
  rw [b2, if_pos rfl, if_pos rfl, show brkV exC = .agg [.i .i64 0, .i .i64 150, .fsl (([120, 60] : List Int).map intC)] by rfl, show (if (brkAt exC).isSome = true then (0 : Int) else 34) = 0 by decide +kernel] at c7
  rw [show standsS exB = 1 by decide +kernel] at c4
  rw [show standsS exC = 2 by decide +kernel] at c5
  rw [show leanS ⟨5, 10⟩ exB = 4 by decide +kernel] at c6
  rw [show loadsS exB = [⟨140, 150⟩, ⟨60, 60⟩, ⟨0, 0⟩] by decide +kernel] at c3
  rw [show fewR ⟨5, 10⟩ exS ⟨400, 9⟩ = [[0, 2], [1]] by decide +kernel, show fewE ⟨5, 10⟩ exS ⟨400, 9⟩ = 0 by decide +kernel] at c8
  have d1 := h7 [⟨140, 150⟩, ⟨60, 60⟩, ⟨0, 0⟩] [⟨140, 150⟩, ⟨60, 60⟩, ⟨0, 0⟩] (by decide)
  have d2 := h8 [[0, 2], [1]] [[0, 2], [1]] (by decide) (by decide)
  have d3 := h9 [120, 60] [120, 60] (by decide)
  rw [decide_eq_true rfl] at d1 d2 d3
  change Snd P f1 [.agg [.i .i64 5, .i .i64 10], .fsl (exS.map Sag.c), .fsl [[.i .i64 0], [.i .i64 1], [.i .i64 2]]] [] (.tup [.agg [.i .i64 5, .i .i64 10, .fsl (exB.map Sag.c)], .i .i64 0]) [] at c1
  change Snd P f1 [.agg [.i .i64 5, .i .i64 10], .fsl (exS.map Sag.c), .fsl [[.i .i64 1], [.i .i64 0], [.i .i64 2]]] [] (.tup [.agg [.i .i64 5, .i .i64 10, .fsl (exC.map Sag.c)], .i .i64 0]) [] at c2
  refine snd_ic hm low (by simp) ?_
  unfold ic_potbanklaw03_sane
  simp -dsimp -implicitDefEqProofs only [qq, Nat.reduceBEq, reduceIte, Nat.reduceAdd, Nat.reduceSub, Nat.reduceLeDiff, Nat.reduceLT, Nat.reduceMul, Nat.reduceEqDiff, Int.reduceEq, Int.reduceBEq, Int.reduceBNe, Int.reduceLT, Int.reduceLE, Int.reduceGT, Int.reduceGE, Int.reduceNeg, Int.reduceAdd, Int.reduceSub, reduceCtorEq, List.reduceReplicate, ← List.map_take, ← List.map_drop]
  refine callI_pure h0 rfl rfl ?_
  simp -dsimp -implicitDefEqProofs only [qq, Nat.reduceBEq, reduceIte, Nat.reduceAdd, Nat.reduceSub, Nat.reduceLeDiff, Nat.reduceLT, Nat.reduceMul, Nat.reduceEqDiff, Int.reduceEq, Int.reduceBEq, Int.reduceBNe, Int.reduceLT, Int.reduceLE, Int.reduceGT, Int.reduceGE, Int.reduceNeg, Int.reduceAdd, Int.reduceSub, reduceCtorEq, List.reduceReplicate, ← List.map_take, ← List.map_drop]
  refine ⟨by decide, callI_pure c1 rfl rfl ?_⟩
  simp -dsimp -implicitDefEqProofs only [qq, Nat.reduceBEq, reduceIte, Nat.reduceAdd, Nat.reduceSub, Nat.reduceLeDiff, Nat.reduceLT, Nat.reduceMul, Nat.reduceEqDiff, Int.reduceEq, Int.reduceBEq, Int.reduceBNe, Int.reduceLT, Int.reduceLE, Int.reduceGT, Int.reduceGE, Int.reduceNeg, Int.reduceAdd, Int.reduceSub, reduceCtorEq, List.reduceReplicate, ← List.map_take, ← List.map_drop]
  refine callI_pure h0 rfl rfl ?_
  simp -dsimp -implicitDefEqProofs only [qq, Nat.reduceBEq, reduceIte, Nat.reduceAdd, Nat.reduceSub, Nat.reduceLeDiff, Nat.reduceLT, Nat.reduceMul, Nat.reduceEqDiff, Int.reduceEq, Int.reduceBEq, Int.reduceBNe, Int.reduceLT, Int.reduceLE, Int.reduceGT, Int.reduceGE, Int.reduceNeg, Int.reduceAdd, Int.reduceSub, reduceCtorEq, List.reduceReplicate, ← List.map_take, ← List.map_drop]
  refine ⟨by decide, callI_pure c2 rfl rfl ?_⟩
  simp -dsimp -implicitDefEqProofs only [qq, Nat.reduceBEq, reduceIte, Nat.reduceAdd, Nat.reduceSub, Nat.reduceLeDiff, Nat.reduceLT, Nat.reduceMul, Nat.reduceEqDiff, Int.reduceEq, Int.reduceBEq, Int.reduceBNe, Int.reduceLT, Int.reduceLE, Int.reduceGT, Int.reduceGE, Int.reduceNeg, Int.reduceAdd, Int.reduceSub, reduceCtorEq, List.reduceReplicate, ← List.map_take, ← List.map_drop]
  refine callI_pure c3 rfl rfl ?_
  simp -dsimp -implicitDefEqProofs only [qq, Nat.reduceBEq, reduceIte, Nat.reduceAdd, Nat.reduceSub, Nat.reduceLeDiff, Nat.reduceLT, Nat.reduceMul, Nat.reduceEqDiff, Int.reduceEq, Int.reduceBEq, Int.reduceBNe, Int.reduceLT, Int.reduceLE, Int.reduceGT, Int.reduceGE, Int.reduceNeg, Int.reduceAdd, Int.reduceSub, reduceCtorEq, List.reduceReplicate, ← List.map_take, ← List.map_drop]
  refine callI_pure c4 rfl rfl ?_
  simp -dsimp -implicitDefEqProofs only [qq, Nat.reduceBEq, reduceIte, Nat.reduceAdd, Nat.reduceSub, Nat.reduceLeDiff, Nat.reduceLT, Nat.reduceMul, Nat.reduceEqDiff, Int.reduceEq, Int.reduceBEq, Int.reduceBNe, Int.reduceLT, Int.reduceLE, Int.reduceGT, Int.reduceGE, Int.reduceNeg, Int.reduceAdd, Int.reduceSub, reduceCtorEq, List.reduceReplicate, ← List.map_take, ← List.map_drop]
  refine callI_pure c5 rfl rfl ?_
  simp -dsimp -implicitDefEqProofs only [qq, Nat.reduceBEq, reduceIte, Nat.reduceAdd, Nat.reduceSub, Nat.reduceLeDiff, Nat.reduceLT, Nat.reduceMul, Nat.reduceEqDiff, Int.reduceEq, Int.reduceBEq, Int.reduceBNe, Int.reduceLT, Int.reduceLE, Int.reduceGT, Int.reduceGE, Int.reduceNeg, Int.reduceAdd, Int.reduceSub, reduceCtorEq, List.reduceReplicate, ← List.map_take, ← List.map_drop]
  refine callI_pure c6 rfl rfl ?_
  simp -dsimp -implicitDefEqProofs only [qq, Nat.reduceBEq, reduceIte, Nat.reduceAdd, Nat.reduceSub, Nat.reduceLeDiff, Nat.reduceLT, Nat.reduceMul, Nat.reduceEqDiff, Int.reduceEq, Int.reduceBEq, Int.reduceBNe, Int.reduceLT, Int.reduceLE, Int.reduceGT, Int.reduceGE, Int.reduceNeg, Int.reduceAdd, Int.reduceSub, reduceCtorEq, List.reduceReplicate, ← List.map_take, ← List.map_drop]
  refine callI_pure c7 rfl rfl ?_
  simp -dsimp -implicitDefEqProofs only [qq, Nat.reduceBEq, reduceIte, Nat.reduceAdd, Nat.reduceSub, Nat.reduceLeDiff, Nat.reduceLT, Nat.reduceMul, Nat.reduceEqDiff, Int.reduceEq, Int.reduceBEq, Int.reduceBNe, Int.reduceLT, Int.reduceLE, Int.reduceGT, Int.reduceGE, Int.reduceNeg, Int.reduceAdd, Int.reduceSub, reduceCtorEq, List.reduceReplicate, ← List.map_take, ← List.map_drop]
  refine callI_pure h0 rfl rfl ?_
  simp -dsimp -implicitDefEqProofs only [qq, Nat.reduceBEq, reduceIte, Nat.reduceAdd, Nat.reduceSub, Nat.reduceLeDiff, Nat.reduceLT, Nat.reduceMul, Nat.reduceEqDiff, Int.reduceEq, Int.reduceBEq, Int.reduceBNe, Int.reduceLT, Int.reduceLE, Int.reduceGT, Int.reduceGE, Int.reduceNeg, Int.reduceAdd, Int.reduceSub, reduceCtorEq, List.reduceReplicate, ← List.map_take, ← List.map_drop]
  refine callI_pure c8 rfl rfl ?_
  simp -dsimp -implicitDefEqProofs only [qq, Nat.reduceBEq, reduceIte, Nat.reduceAdd, Nat.reduceSub, Nat.reduceLeDiff, Nat.reduceLT, Nat.reduceMul, Nat.reduceEqDiff, Int.reduceEq, Int.reduceBEq, Int.reduceBNe, Int.reduceLT, Int.reduceLE, Int.reduceGT, Int.reduceGE, Int.reduceNeg, Int.reduceAdd, Int.reduceSub, reduceCtorEq, List.reduceReplicate, ← List.map_take, ← List.map_drop]
  refine callI_lend2 d1 (.keep _ rfl) (frz_lit rfl rfl (by decide)) rfl ?_
  simp -dsimp -implicitDefEqProofs only [qq, Nat.reduceBEq, reduceIte, Nat.reduceAdd, Nat.reduceSub, Nat.reduceLeDiff, Nat.reduceLT, Nat.reduceMul, Nat.reduceEqDiff, Int.reduceEq, Int.reduceBEq, Int.reduceBNe, Int.reduceLT, Int.reduceLE, Int.reduceGT, Int.reduceGE, Int.reduceNeg, Int.reduceAdd, Int.reduceSub, reduceCtorEq, List.reduceReplicate, ← List.map_take, ← List.map_drop]
  refine callI_lend2 d2 (.keep _ rfl) (frz_col (us := [.rsl 5 1 0 2 2 true, .rsl 6 1 0 1 1 true]) (us' := [.fsl ([0, 2].map intC), .fsl ([1].map intC)]) rfl rfl rfl (by simp [V.bel]) fun i u u' e1 e2 => ?_) rfl ?_
  · match i with
    | 0 => simp at e1 e2; subst e1 e2; exact frz_lit rfl rfl (by decide)
    | 1 => simp at e1 e2; subst e1 e2; exact frz_lit rfl rfl (by decide)
    | i + 2 => simp at e1
  simp -dsimp -implicitDefEqProofs only [qq, Nat.reduceBEq, reduceIte, Nat.reduceAdd, Nat.reduceSub, Nat.reduceLeDiff, Nat.reduceLT, Nat.reduceMul, Nat.reduceEqDiff, Int.reduceEq, Int.reduceBEq, Int.reduceBNe, Int.reduceLT, Int.reduceLE, Int.reduceGT, Int.reduceGE, Int.reduceNeg, Int.reduceAdd, Int.reduceSub, reduceCtorEq, List.reduceReplicate, ← List.map_take, ← List.map_drop]
  refine callI_lend2 d3 (.keep _ rfl) (frz_lit rfl rfl (by decide)) rfl ?_
  simp -dsimp -implicitDefEqProofs only [qq, Nat.reduceBEq, reduceIte, Nat.reduceAdd, Nat.reduceSub, Nat.reduceLeDiff, Nat.reduceLT, Nat.reduceMul, Nat.reduceEqDiff, Int.reduceEq, Int.reduceBEq, Int.reduceBNe, Int.reduceLT, Int.reduceLE, Int.reduceGT, Int.reduceGE, Int.reduceNeg, Int.reduceAdd, Int.reduceSub, reduceCtorEq, List.reduceReplicate, ← List.map_take, ← List.map_drop]
  exact Ends.plain rfl rfl rfl
end Go.Sh.C3
end
section
namespace Go.Sh.C3
open Go.Sh
set_option maxRecDepth 10000
set_option linter.unusedVariables false
set_option linter.unusedSimpArgs false
variable {P : Program}
def ic_potbanklaw03_BungLoads (f0 f1 f2 f3 f4 f5 f6 f7 f8 f9 f10 f11 f12 : Nat) : IC := .seq (.reg [⟨some 1, none, .box (.t 0)⟩, ⟨some 2, none, .mov (.c (.b false))⟩] [1]) (.seq (.reg [⟨some 26, none, .calv (.c (.fn (.func f0) [] [])) []⟩, ⟨some 3, none, .mov (.t 26)⟩] [1, 3]) (.seq (.reg [⟨some 28, none, .ld (some 3) (.t 1)⟩, ⟨some 29, none, .calv (.c (.fn (.func f1) [] [])) [.t 28]⟩, ⟨some 27, none, .mov (.t 29)⟩, ⟨some 30, none, .ext (.t 27) 0⟩, ⟨some 31, none, .ext (.t 27) 1⟩, ⟨some 4, none, .mov (.t 30)⟩, ⟨some 5, none, .mov (.t 31)⟩] [1, 3, 4, 5]) (.seq (.reg [⟨some 33, none, .ld (some 3) (.t 1)⟩, ⟨some 34, none, .calv (.c (.fn (.func f2) [] [])) [.t 33]⟩, ⟨some 32, none, .mov (.t 34)⟩, ⟨some 35, none, .ext (.t 32) 0⟩, ⟨some 36, none, .ext (.t 32) 1⟩, ⟨some 6, none, .mov (.t 35)⟩, ⟨some 7, none, .mov (.t 36)⟩] [1, 3, 4, 5, 6, 7]) (.seq (.reg [⟨some 38, none, .ld (some 3) (.t 1)⟩, ⟨some 39, none, .calv (.c (.fn (.func f3) [] [])) [.t 38]⟩, ⟨some 37, none, .mov (.t 39)⟩, ⟨some 40, none, .ext (.t 37) 0⟩, ⟨some 41, none, .ext (.t 37) 1⟩, ⟨some 8, none, .mov (.t 40)⟩, ⟨some 9, none, .mov (.t 41)⟩] [1, 3, 4, 5, 6, 7, 8, 9]) (.seq (.reg [⟨some 43, none, .ld (some 3) (.t 1)⟩, ⟨some 44, none, .calv (.c (.fn (.func f4) [] [])) [.t 43]⟩, ⟨some 42, none, .mov (.t 44)⟩, ⟨some 45, none, .ext (.t 42) 0⟩, ⟨some 46, none, .ext (.t 42) 1⟩, ⟨some 10, none, .mov (.t 45)⟩, ⟨some 11, none, .mov (.t 46)⟩] [1, 3, 4, 5, 6, 7, 8, 9, 10, 11]) (.seq (.reg [⟨some 48, none, .ld (some 3) (.t 1)⟩, ⟨some 49, none, .calv (.c (.fn (.func f5) [] [])) [.t 48]⟩, ⟨some 47, none, .mov (.t 49)⟩, ⟨some 50, none, .ext (.t 47) 0⟩, ⟨some 51, none, .ext (.t 47) 1⟩, ⟨some 12, none, .mov (.t 50)⟩, ⟨some 13, none, .mov (.t 51)⟩] [1, 3, 4, 5, 6, 7, 8, 9, 10, 11, 12, 13]) (.seq (.reg [⟨some 53, none, .ld (some 3) (.t 1)⟩, ⟨some 54, none, .calv (.c (.fn (.func f6) [] [])) [.t 53]⟩, ⟨some 52, none, .mov (.t 54)⟩, ⟨some 55, none, .ext (.t 52) 0⟩, ⟨some 56, none, .ext (.t 52) 1⟩, ⟨some 14, none, .mov (.t 55)⟩, ⟨some 15, none, .mov (.t 56)⟩] [1, 3, 4, 5, 6, 7, 8, 9, 10, 11, 12, 13, 14, 15]) (.seq (.reg [⟨some 58, none, .ld (some 3) (.t 1)⟩, ⟨some 59, none, .calv (.c (.fn (.func f7) [] [])) [.t 58]⟩, ⟨some 57, none, .mov (.t 59)⟩, ⟨some 60, none, .ext (.t 57) 0⟩, ⟨some 61, none, .ext (.t 57) 1⟩, ⟨some 16, none, .alloc [.i .i64 (0), .i .i64 (0)]⟩, ⟨none, none, .st 2 (.t 16) (.t 60)⟩, ⟨some 17, none, .mov (.t 61)⟩] [1, 3, 4, 5, 6, 7, 8, 9, 10, 11, 12, 13, 14, 15, 16, 17]) (.seq (.reg [⟨some 63, none, .ld (some 3) (.t 1)⟩, ⟨some 64, none, .calv (.c (.fn (.func f8) [] [])) [.t 63]⟩, ⟨some 62, none, .mov (.t 64)⟩, ⟨some 65, none, .ext (.t 62) 0⟩, ⟨some 66, none, .ext (.t 62) 1⟩, ⟨some 18, none, .alloc [.i .i64 (0), .i .i64 (0)]⟩, ⟨none, none, .st 2 (.t 18) (.t 65)⟩, ⟨some 19, none, .mov (.t 66)⟩] [1, 3, 4, 5, 6, 7, 8, 9, 10, 11, 12, 13, 14, 15, 16, 17, 18, 19]) (.seq (.reg [⟨some 68, none, .ld (some 3) (.t 1)⟩, ⟨some 69, none, .calv (.c (.fn (.func f9) [] [])) [.t 68]⟩, ⟨some 67, none, .mov (.t 69)⟩, ⟨some 70, none, .ext (.t 67) 0⟩, ⟨some 71, none, .ext (.t 67) 1⟩, ⟨some 20, none, .mov (.t 70)⟩, ⟨some 21, none, .mov (.t 71)⟩] [1, 3, 4, 5, 6, 7, 8, 9, 10, 11, 12, 13, 14, 15, 16, 17, 18, 19, 20, 21]) (.seq (.reg [⟨some 73, none, .ld (some 3) (.t 1)⟩, ⟨some 74, none, .calv (.c (.fn (.func f10) [] [])) [.t 73]⟩, ⟨some 72, none, .mov (.t 74)⟩, ⟨some 75, none, .ext (.t 72) 0⟩, ⟨some 76, none, .ext (.t 72) 1⟩, ⟨some 22, none, .mov (.t 75)⟩, ⟨some 23, none, .mov (.t 76)⟩] [3, 4, 5, 6, 7, 8, 9, 10, 11, 12, 13, 14, 15, 16, 17, 18, 19, 20, 21, 22, 23]) (.seq (.reg [⟨some 77, none, .mov (.t 4)⟩, ⟨some 78, none, .mov (.t 6)⟩, ⟨some 79, none, .calv (.c (.fn (.func f11) [] [])) [.t 77, .t 78]⟩, ⟨some 24, none, .mov (.t 79)⟩] [3, 5, 7, 8, 9, 10, 11, 12, 13, 14, 15, 16, 17, 18, 19, 20, 21, 22, 23, 24]) (.seq (.reg [⟨some 80, none, .mov (.t 8)⟩, ⟨some 81, none, .mov (.t 10)⟩, ⟨some 82, none, .calv (.c (.fn (.func f12) [] [])) [.t 80, .t 81]⟩, ⟨some 25, none, .mov (.t 82)⟩] [3, 5, 7, 9, 11, 12, 13, 14, 15, 16, 17, 18, 19, 20, 21, 22, 23, 24, 25]) (.seq (.reg [⟨some 83, none, .mov (.t 3)⟩, ⟨some 84, none, .mov (.t 83)⟩, ⟨some 85, some (84, true), .mov (.t 24)⟩, ⟨some 86, none, .pick (.t 84) (.t 85) (.c (.b false))⟩, ⟨some 87, none, .mov (.t 86)⟩, ⟨some 88, some (87, true), .mov (.t 5)⟩, ⟨some 89, some (87, true), .mov (.t 7)⟩, ⟨some 90, some (87, true), .bin .eql (.t 88) (.t 89)⟩, ⟨some 91, none, .pick (.t 87) (.t 90) (.c (.b false))⟩, ⟨some 92, none, .mov (.t 91)⟩, ⟨some 93, some (92, true), .mov (.t 25)⟩, ⟨some 94, none, .pick (.t 92) (.t 93) (.c (.b false))⟩, ⟨some 95, none, .mov (.t 94)⟩, ⟨some 96, some (95, true), .mov (.t 9)⟩, ⟨some 97, some (95, true), .mov (.t 11)⟩, ⟨some 98, some (95, true), .bin .eql (.t 96) (.t 97)⟩, ⟨some 99, none, .pick (.t 95) (.t 98) (.c (.b false))⟩, ⟨some 100, none, .mov (.t 99)⟩, ⟨some 101, some (100, true), .mov (.t 12)⟩, ⟨some 102, some (100, true), .mov (.t 14)⟩, ⟨some 103, some (100, true), .bin .eql (.t 101) (.t 102)⟩, ⟨some 104, none, .pick (.t 100) (.t 103) (.c (.b false))⟩, ⟨some 105, none, .mov (.t 104)⟩, ⟨some 106, some (105, true), .mov (.t 13)⟩, ⟨some 107, some (105, true), .mov (.t 15)⟩, ⟨some 108, some (105, true), .bin .eql (.t 106) (.t 107)⟩, ⟨some 109, none, .pick (.t 105) (.t 108) (.c (.b false))⟩, ⟨some 110, none, .mov (.t 109)⟩, ⟨some 111, some (110, true), .ld (some 2) (.t 16)⟩, ⟨some 112, some (110, true), .ld (some 2) (.t 18)⟩, ⟨some 113, some (110, true), .eqs false [(0, 0), (1, 0)] (.t 111) (.t 112)⟩, ⟨some 114, none, .pick (.t 110) (.t 113) (.c (.b false))⟩, ⟨some 115, none, .mov (.t 114)⟩, ⟨some 116, some (115, true), .mov (.t 17)⟩, ⟨some 117, some (115, true), .mov (.t 19)⟩, ⟨some 118, some (115, true), .bin .eql (.t 116) (.t 117)⟩, ⟨some 119, none, .pick (.t 115) (.t 118) (.c (.b false))⟩, ⟨some 120, none, .mov (.t 119)⟩, ⟨some 121, some (120, true), .mov (.t 20)⟩, ⟨some 122, some (120, true), .mov (.t 22)⟩, ⟨some 123, some (120, true), .bin .eql (.t 121) (.t 122)⟩, ⟨some 124, none, .pick (.t 120) (.t 123) (.c (.b false))⟩, ⟨some 125, none, .mov (.t 124)⟩, ⟨some 126, some (125, true), .mov (.t 21)⟩, ⟨some 127, some (125, true), .mov (.t 23)⟩, ⟨some 128, some (125, true), .bin .eql (.t 126) (.t 127)⟩, ⟨some 129, none, .pick (.t 125) (.t 128) (.c (.b false))⟩, ⟨some 2, none, .mov (.t 129)⟩] [2]) (.ret)))))))))))))))
abbrev Low_potbanklaw03_BungLoads (P : Program) (f f0 f1 f2 f3 f4 f5 f6 f7 f8 f9 f10 f11 f12 : Nat) : Prop := lowF P f = some (130, [.tmp 2], (ic_potbanklaw03_BungLoads f0 f1 f2 f3 f4 f5 f6 f7 f8 f9 f10 f11 f12).erase)
def ic_potbanklaw03_BungFits (f0 f1 f2 : Nat) : IC := .seq (.reg [⟨some 2, none, .box (.t 0)⟩, ⟨some 3, none, .box (.t 1)⟩, ⟨some 4, none, .mov (.c (.b false))⟩] [2, 3]) (.seq (.reg [⟨some 10, none, .calv (.c (.fn (.func f0) [] [])) []⟩, ⟨some 5, none, .mov (.t 10)⟩] [2, 3, 5]) (.seq (.reg [⟨some 12, none, .ld (some 3) (.t 2)⟩, ⟨some 13, none, .ld (some 2) (.t 3)⟩, ⟨some 14, none, .calv (.c (.fn (.func f1) [] [])) [.t 12, .t 13]⟩, ⟨some 11, none, .mov (.t 14)⟩, ⟨some 15, none, .ext (.t 11) 0⟩, ⟨some 16, none, .ext (.t 11) 1⟩, ⟨some 6, none, .mov (.t 15)⟩, ⟨some 7, none, .mov (.t 16)⟩] [2, 3, 5, 6, 7]) (.seq (.reg [⟨some 18, none, .ld (some 3) (.t 2)⟩, ⟨some 19, none, .ld (some 2) (.t 3)⟩, ⟨some 20, none, .calv (.c (.fn (.func f2) [] [])) [.t 18, .t 19]⟩, ⟨some 17, none, .mov (.t 20)⟩, ⟨some 21, none, .ext (.t 17) 0⟩, ⟨some 22, none, .ext (.t 17) 1⟩, ⟨some 8, none, .mov (.t 21)⟩, ⟨some 9, none, .mov (.t 22)⟩] [5, 6, 7, 8, 9]) (.seq (.reg [⟨some 23, none, .mov (.t 5)⟩, ⟨some 24, none, .mov (.t 23)⟩, ⟨some 25, some (24, true), .mov (.t 6)⟩, ⟨some 26, some (24, true), .mov (.t 8)⟩, ⟨some 27, some (24, true), .bin .eql (.t 25) (.t 26)⟩, ⟨some 28, none, .pick (.t 24) (.t 27) (.c (.b false))⟩, ⟨some 29, none, .mov (.t 28)⟩, ⟨some 30, some (29, true), .mov (.t 7)⟩, ⟨some 31, some (29, true), .mov (.t 9)⟩, ⟨some 32, some (29, true), .bin .eql (.t 30) (.t 31)⟩, ⟨some 33, none, .pick (.t 29) (.t 32) (.c (.b false))⟩, ⟨some 4, none, .mov (.t 33)⟩] [4]) (.ret)))))
abbrev Low_potbanklaw03_BungFits (P : Program) (f f0 f1 f2 : Nat) : Prop := lowF P f = some (34, [.tmp 4], (ic_potbanklaw03_BungFits f0 f1 f2).erase)
def ic_potbanklaw03_BungChecks (f0 f1 f2 f3 f4 f5 f6 f7 f8 : Nat) : IC := .seq (.reg [⟨some 3, none, .box (.t 0)⟩, ⟨some 5, none, .box (.t 2)⟩, ⟨some 6, none, .mov (.c (.b false))⟩] [1, 3, 5]) (.seq (.reg [⟨some 9, none, .calv (.c (.fn (.func f0) [] [])) []⟩, ⟨some 7, none, .mov (.t 9)⟩] [1, 3, 5, 7]) (.seq (.seq (.reg [⟨some 8, none, .mov (.c (.i .i64 (0)))⟩] [1, 3, 5, 7, 8]) (.block 0 (.loop (.seq (.seq (.reg [⟨some 10, none, .mov (.t 8)⟩, ⟨some 11, none, .mov (.t 1)⟩, ⟨some 12, none, .len false (.t 11)⟩, ⟨some 13, none, .bin .lss (.t 10) (.t 12)⟩] [1, 3, 5, 7, 8, 13]) (.cond (.t 13) (.skip) (.exit 0))) (.seq (.block 1 (.seq (.drg [(0, ⟨some 16, none, .mov (.t 1)⟩), (0, ⟨some 17, none, .mov (.t 8)⟩), (0, ⟨some 18, none, .ixs 8 (.t 16) (.t 17)⟩), (0, ⟨some 19, none, .ld (some 8) (.t 18)⟩), (0, ⟨some 20, none, .calv (.c (.fn (.func f1) [] [])) [.t 19]⟩), (0, ⟨some 21, none, .mov (.t 1)⟩), (0, ⟨some 22, none, .mov (.t 8)⟩), (0, ⟨some 23, none, .ixs 8 (.t 21) (.t 22)⟩), (0, ⟨some 24, none, .ld (some 8) (.t 23)⟩), (0, ⟨some 25, none, .calv (.c (.fn (.func f2) [] [])) [.t 24]⟩), (0, ⟨some 26, none, .bin .neq (.t 20) (.t 25)⟩)] 9 [1, 3, 5, 7, 8, 26]) (.cond (.t 26) (.seq (.reg [⟨some 6, none, .mov (.c (.b false))⟩] [6]) (.ret)) (.skip)))) (.reg [⟨some 14, none, .mov (.t 8)⟩, ⟨some 15, none, .bin .add (.t 14) (.c (.i .i64 (1)))⟩, ⟨some 8, none, .mov (.t 15)⟩] [1, 3, 5, 7, 8])))))) (.seq (.drg [(0, ⟨some 27, none, .mov (.t 7)⟩), (0, ⟨some 28, none, .mov (.t 27)⟩), (0, ⟨some 29, some (28, true), .ld (some 3) (.t 3)⟩), (0, ⟨some 30, some (28, true), .calv (.c (.fn (.func f3) [] [])) [.t 29]⟩), (0, ⟨some 31, some (28, true), .ld (some 3) (.t 3)⟩), (0, ⟨some 32, some (28, true), .calv (.c (.fn (.func f4) [] [])) [.t 31]⟩), (0, ⟨some 33, some (28, true), .bin .eql (.t 30) (.t 32)⟩), (0, ⟨some 34, none, .pick (.t 28) (.t 33) (.c (.b false))⟩), (0, ⟨some 35, none, .mov (.t 34)⟩), (0, ⟨some 36, some (35, true), .mov (.t 1)⟩), (0, ⟨some 37, some (35, true), .calv (.c (.fn (.func f5) [] [])) [.t 36]⟩), (0, ⟨some 38, some (35, true), .mov (.t 1)⟩), (0, ⟨some 39, some (35, true), .calv (.c (.fn (.func f6) [] [])) [.t 38]⟩), (0, ⟨some 40, some (35, true), .bin .eql (.t 37) (.t 39)⟩), (0, ⟨some 41, none, .pick (.t 35) (.t 40) (.c (.b false))⟩), (0, ⟨some 42, none, .mov (.t 41)⟩), (0, ⟨some 43, some (42, true), .ld (some 2) (.t 5)⟩), (0, ⟨some 44, some (42, true), .calv (.c (.fn (.func f7) [] [])) [.t 43]⟩), (0, ⟨some 45, some (42, true), .ld (some 2) (.t 5)⟩), (0, ⟨some 46, some (42, true), .calv (.c (.fn (.func f8) [] [])) [.t 45]⟩), (0, ⟨some 47, some (42, true), .bin .eql (.t 44) (.t 46)⟩), (0, ⟨some 48, none, .pick (.t 42) (.t 47) (.c (.b false))⟩), (0, ⟨some 6, none, .mov (.t 48)⟩)] 19 [6]) (.ret))))
abbrev Low_potbanklaw03_BungChecks (P : Program) (f f0 f1 f2 f3 f4 f5 f6 f7 f8 : Nat) : Prop := lowF P f = some (49, [.tmp 6], (ic_potbanklaw03_BungChecks f0 f1 f2 f3 f4 f5 f6 f7 f8).erase)

def L_BungLoads (P : Program) (f : Nat) : Prop := ∀ (w : Rg) (l : List Sag), Snd P f [.agg (bungC w l)] [] (.b true) []
theorem ok_BungLoads (hm : P.follows .mixedOrders = true) {f f0 f1 f2 f3 f4 f5 f6 f7 f8 f9 f10 f11 f12 : Nat} (low : Low_potbanklaw03_BungLoads P f f0 f1 f2 f3 f4 f5 f6 f7 f8 f9 f10 f11 f12) (h0 : C_sane P f0) (h1 : C_Loads P f1) (h2 : C_Loads P f2) (h3 : C_Courses P f3) (h4 : C_Courses P f4)
    (h5 : C_Stands P f5) (h6 : C_Stands P f6) (h7 : C_Height P f7) (h8 : C_Height P f8) (h9 : C_Lean P f9) (h10 : C_Lean P f10) (h11 : C_SameRanges P f11) (h12 : C_Same P f12) : L_BungLoads P f := by
  intro w l
  have e1 : ((if bungB w l then loadsS l else []).length : Nat) ≤ 1000000 := by
    split
    · rename_i h; have := list_len (bung_list h); rw [loadsS_length]; omega
    · simp
  have e2 : ((if bungB w l then coursesS l else []).length : Nat) ≤ 1000000 := by
    split
    · rename_i h; have := list_len (bung_list h); rw [coursesS_length]; omega
    · simp
  have d1 := h11 _ (if bungB w l then loadsS l else []) e1
  have d2 := h12 _ (if bungB w l then coursesS l else []) e2
  rw [decide_eq_true rfl] at d1 d2
  rw [apply_ite (List.map Rg.c)] at d1
  rw [apply_ite (List.map intC)] at d2
  simp only [List.map_nil] at d1 d2
  refine snd_ic hm low (by simp) ?_
  unfold ic_potbanklaw03_BungLoads
  simp -dsimp -implicitDefEqProofs only [qq, Nat.reduceBEq, reduceIte, Nat.reduceAdd, Nat.reduceSub, Nat.reduceLeDiff, Nat.reduceLT, Nat.reduceMul, Nat.reduceEqDiff, Int.reduceEq, Int.reduceBEq, Int.reduceBNe, Int.reduceLT, Int.reduceLE, Int.reduceGT, Int.reduceGE, Int.reduceNeg, Int.reduceAdd, Int.reduceSub, reduceCtorEq, List.reduceReplicate, ← List.map_take, ← List.map_drop]
  refine callI_pure h0 rfl rfl ?_
  simp -dsimp -implicitDefEqProofs only [qq, Nat.reduceBEq, reduceIte, Nat.reduceAdd, Nat.reduceSub, Nat.reduceLeDiff, Nat.reduceLT, Nat.reduceMul, Nat.reduceEqDiff, Int.reduceEq, Int.reduceBEq, Int.reduceBNe, Int.reduceLT, Int.reduceLE, Int.reduceGT, Int.reduceGE, Int.reduceNeg, Int.reduceAdd, Int.reduceSub, reduceCtorEq, List.reduceReplicate, ← List.map_take, ← List.map_drop]
  refine callI_pure (h1 w l) rfl rfl ?_
  simp -dsimp -implicitDefEqProofs only [qq, Nat.reduceBEq, reduceIte, Nat.reduceAdd, Nat.reduceSub, Nat.reduceLeDiff, Nat.reduceLT, Nat.reduceMul, Nat.reduceEqDiff, Int.reduceEq, Int.reduceBEq, Int.reduceBNe, Int.reduceLT, Int.reduceLE, Int.reduceGT, Int.reduceGE, Int.reduceNeg, Int.reduceAdd, Int.reduceSub, reduceCtorEq, List.reduceReplicate, ← List.map_take, ← List.map_drop]
  refine callI_pure (h2 w l) rfl rfl ?_
  simp -dsimp -implicitDefEqProofs only [qq, Nat.reduceBEq, reduceIte, Nat.reduceAdd, Nat.reduceSub, Nat.reduceLeDiff, Nat.reduceLT, Nat.reduceMul, Nat.reduceEqDiff, Int.reduceEq, Int.reduceBEq, Int.reduceBNe, Int.reduceLT, Int.reduceLE, Int.reduceGT, Int.reduceGE, Int.reduceNeg, Int.reduceAdd, Int.reduceSub, reduceCtorEq, List.reduceReplicate, ← List.map_take, ← List.map_drop]
  refine callI_pure (h3 w l) rfl rfl ?_
  simp -dsimp -implicitDefEqProofs only [qq, Nat.reduceBEq, reduceIte, Nat.reduceAdd, Nat.reduceSub, Nat.reduceLeDiff, Nat.reduceLT, Nat.reduceMul, Nat.reduceEqDiff, Int.reduceEq, Int.reduceBEq, Int.reduceBNe, Int.reduceLT, Int.reduceLE, Int.reduceGT, Int.reduceGE, Int.reduceNeg, Int.reduceAdd, Int.reduceSub, reduceCtorEq, List.reduceReplicate, ← List.map_take, ← List.map_drop]
  refine callI_pure (h4 w l) rfl rfl ?_
  simp -dsimp -implicitDefEqProofs only [qq, Nat.reduceBEq, reduceIte, Nat.reduceAdd, Nat.reduceSub, Nat.reduceLeDiff, Nat.reduceLT, Nat.reduceMul, Nat.reduceEqDiff, Int.reduceEq, Int.reduceBEq, Int.reduceBNe, Int.reduceLT, Int.reduceLE, Int.reduceGT, Int.reduceGE, Int.reduceNeg, Int.reduceAdd, Int.reduceSub, reduceCtorEq, List.reduceReplicate, ← List.map_take, ← List.map_drop]
  refine callI_pure (h5 w l) rfl rfl ?_
  simp -dsimp -implicitDefEqProofs only [qq, Nat.reduceBEq, reduceIte, Nat.reduceAdd, Nat.reduceSub, Nat.reduceLeDiff, Nat.reduceLT, Nat.reduceMul, Nat.reduceEqDiff, Int.reduceEq, Int.reduceBEq, Int.reduceBNe, Int.reduceLT, Int.reduceLE, Int.reduceGT, Int.reduceGE, Int.reduceNeg, Int.reduceAdd, Int.reduceSub, reduceCtorEq, List.reduceReplicate, ← List.map_take, ← List.map_drop]
  refine callI_pure (h6 w l) rfl rfl ?_
  simp -dsimp -implicitDefEqProofs only [qq, Nat.reduceBEq, reduceIte, Nat.reduceAdd, Nat.reduceSub, Nat.reduceLeDiff, Nat.reduceLT, Nat.reduceMul, Nat.reduceEqDiff, Int.reduceEq, Int.reduceBEq, Int.reduceBNe, Int.reduceLT, Int.reduceLE, Int.reduceGT, Int.reduceGE, Int.reduceNeg, Int.reduceAdd, Int.reduceSub, reduceCtorEq, List.reduceReplicate, ← List.map_take, ← List.map_drop]
  refine callI_pure (h7 w l) rfl rfl ?_
  simp -dsimp -implicitDefEqProofs only [qq, Nat.reduceBEq, reduceIte, Nat.reduceAdd, Nat.reduceSub, Nat.reduceLeDiff, Nat.reduceLT, Nat.reduceMul, Nat.reduceEqDiff, Int.reduceEq, Int.reduceBEq, Int.reduceBNe, Int.reduceLT, Int.reduceLE, Int.reduceGT, Int.reduceGE, Int.reduceNeg, Int.reduceAdd, Int.reduceSub, reduceCtorEq, List.reduceReplicate, ← List.map_take, ← List.map_drop]
  refine callI_pure (h8 w l) rfl rfl ?_
  simp -dsimp -implicitDefEqProofs only [qq, Nat.reduceBEq, reduceIte, Nat.reduceAdd, Nat.reduceSub, Nat.reduceLeDiff, Nat.reduceLT, Nat.reduceMul, Nat.reduceEqDiff, Int.reduceEq, Int.reduceBEq, Int.reduceBNe, Int.reduceLT, Int.reduceLE, Int.reduceGT, Int.reduceGE, Int.reduceNeg, Int.reduceAdd, Int.reduceSub, reduceCtorEq, List.reduceReplicate, ← List.map_take, ← List.map_drop]
  refine callI_pure (h9 w l) rfl rfl ?_
  simp -dsimp -implicitDefEqProofs only [qq, Nat.reduceBEq, reduceIte, Nat.reduceAdd, Nat.reduceSub, Nat.reduceLeDiff, Nat.reduceLT, Nat.reduceMul, Nat.reduceEqDiff, Int.reduceEq, Int.reduceBEq, Int.reduceBNe, Int.reduceLT, Int.reduceLE, Int.reduceGT, Int.reduceGE, Int.reduceNeg, Int.reduceAdd, Int.reduceSub, reduceCtorEq, List.reduceReplicate, ← List.map_take, ← List.map_drop]
  refine callI_pure (h10 w l) rfl rfl ?_
  simp -dsimp -implicitDefEqProofs only [qq, Nat.reduceBEq, reduceIte, Nat.reduceAdd, Nat.reduceSub, Nat.reduceLeDiff, Nat.reduceLT, Nat.reduceMul, Nat.reduceEqDiff, Int.reduceEq, Int.reduceBEq, Int.reduceBNe, Int.reduceLT, Int.reduceLE, Int.reduceGT, Int.reduceGE, Int.reduceNeg, Int.reduceAdd, Int.reduceSub, reduceCtorEq, List.reduceReplicate, ← List.map_take, ← List.map_drop]
  refine callI_pure d1 rfl rfl ?_
  simp -dsimp -implicitDefEqProofs only [qq, Nat.reduceBEq, reduceIte, Nat.reduceAdd, Nat.reduceSub, Nat.reduceLeDiff, Nat.reduceLT, Nat.reduceMul, Nat.reduceEqDiff, Int.reduceEq, Int.reduceBEq, Int.reduceBNe, Int.reduceLT, Int.reduceLE, Int.reduceGT, Int.reduceGE, Int.reduceNeg, Int.reduceAdd, Int.reduceSub, reduceCtorEq, List.reduceReplicate, ← List.map_take, ← List.map_drop]
  refine callI_pure d2 rfl rfl ?_
  simp -dsimp -implicitDefEqProofs only [eqS.eq_1, eqS.eq_2, qq, Nat.reduceBEq, reduceIte, Nat.reduceAdd, Nat.reduceSub, Nat.reduceLeDiff, Nat.reduceLT, Nat.reduceMul, Nat.reduceEqDiff, Int.reduceEq, Int.reduceBEq, Int.reduceBNe, Int.reduceLT, Int.reduceLE, Int.reduceGT, Int.reduceGE, Int.reduceNeg, Int.reduceAdd, Int.reduceSub, reduceCtorEq, List.reduceReplicate, ← List.map_take, ← List.map_drop]
  exact Ends.plain rfl rfl rfl

def L_BungFits (P : Program) (f : Nat) : Prop := ∀ (w : Rg) (l : List Sag) (s : Spt), Snd P f [.agg (bungC w l), .agg s.c] [] (.b true) []
theorem ok_BungFits (hm : P.follows .mixedOrders = true) {f f0 f1 f2 : Nat} (low : Low_potbanklaw03_BungFits P f f0 f1 f2) (h0 : C_sane P f0) (h1 : C_Fits P f1) (h2 : C_Fits P f2) : L_BungFits P f := by
  intro w l s
  refine snd_ic hm low (by simp) ?_
  unfold ic_potbanklaw03_BungFits
  simp -dsimp -implicitDefEqProofs only [qq, Nat.reduceBEq, reduceIte, Nat.reduceAdd, Nat.reduceSub, Nat.reduceLeDiff, Nat.reduceLT, Nat.reduceMul, Nat.reduceEqDiff, Int.reduceEq, Int.reduceBEq, Int.reduceBNe, Int.reduceLT, Int.reduceLE, Int.reduceGT, Int.reduceGE, Int.reduceNeg, Int.reduceAdd, Int.reduceSub, reduceCtorEq, List.reduceReplicate, ← List.map_take, ← List.map_drop]
  refine callI_pure h0 rfl rfl ?_
  simp -dsimp -implicitDefEqProofs only [qq, Nat.reduceBEq, reduceIte, Nat.reduceAdd, Nat.reduceSub, Nat.reduceLeDiff, Nat.reduceLT, Nat.reduceMul, Nat.reduceEqDiff, Int.reduceEq, Int.reduceBEq, Int.reduceBNe, Int.reduceLT, Int.reduceLE, Int.reduceGT, Int.reduceGE, Int.reduceNeg, Int.reduceAdd, Int.reduceSub, reduceCtorEq, List.reduceReplicate, ← List.map_take, ← List.map_drop]
  refine callI_pure (h1 w l s) rfl rfl ?_
  simp -dsimp -implicitDefEqProofs only [qq, Nat.reduceBEq, reduceIte, Nat.reduceAdd, Nat.reduceSub, Nat.reduceLeDiff, Nat.reduceLT, Nat.reduceMul, Nat.reduceEqDiff, Int.reduceEq, Int.reduceBEq, Int.reduceBNe, Int.reduceLT, Int.reduceLE, Int.reduceGT, Int.reduceGE, Int.reduceNeg, Int.reduceAdd, Int.reduceSub, reduceCtorEq, List.reduceReplicate, ← List.map_take, ← List.map_drop]
  refine callI_pure (h2 w l s) rfl rfl ?_
  simp -dsimp -implicitDefEqProofs only [qq, Nat.reduceBEq, reduceIte, Nat.reduceAdd, Nat.reduceSub, Nat.reduceLeDiff, Nat.reduceLT, Nat.reduceMul, Nat.reduceEqDiff, Int.reduceEq, Int.reduceBEq, Int.reduceBNe, Int.reduceLT, Int.reduceLE, Int.reduceGT, Int.reduceGE, Int.reduceNeg, Int.reduceAdd, Int.reduceSub, reduceCtorEq, List.reduceReplicate, ← List.map_take, ← List.map_drop]
  exact Ends.plain rfl rfl rfl
def L_BungChecks (P : Program) (f : Nat) : Prop := ∀ (w : Rg) (l m : List Sag) (s : Spt), m.length ≤ 1000000000000000 → Snd P f [.agg (bungC w l), .fsl (m.map Sag.c), .agg s.c] [] (.b true) []
theorem ok_BungChecks (hm : P.follows .mixedOrders = true) {f f0 f1 f2 f3 f4 f5 f6 f7 f8 : Nat} (low : Low_potbanklaw03_BungChecks P f f0 f1 f2 f3 f4 f5 f6 f7 f8) (h0 : C_sane P f0) (h1 : C_CheckSaggar P f1) (h2 : C_CheckSaggar P f2) (h3 : C_Check P f3) (h4 : C_Check P f4) (h5 : C_CheckList P f5) (h6 : C_CheckList P f6) (h7 : C_CheckSpot P f7) (h8 : C_CheckSpot P f8) : L_BungChecks P f := by
  intro w l m s hl
  refine snd_ic hm low (by simp) ?_
  unfold ic_potbanklaw03_BungChecks
  simp -dsimp -implicitDefEqProofs only [qq, Nat.reduceBEq, reduceIte, Nat.reduceAdd, Nat.reduceSub, Nat.reduceLeDiff, Nat.reduceLT, Nat.reduceMul, Nat.reduceEqDiff, Int.reduceEq, Int.reduceBEq, Int.reduceBNe, Int.reduceLT, Int.reduceLE, Int.reduceGT, Int.reduceGE, Int.reduceNeg, Int.reduceAdd, Int.reduceSub, reduceCtorEq, List.reduceReplicate, ← List.map_take, ← List.map_drop]
  refine callI_pure h0 rfl rfl ?_
  simp -dsimp -implicitDefEqProofs only [qq, Nat.reduceBEq, reduceIte, Nat.reduceAdd, Nat.reduceSub, Nat.reduceLeDiff, Nat.reduceLT, Nat.reduceMul, Nat.reduceEqDiff, Int.reduceEq, Int.reduceBEq, Int.reduceBNe, Int.reduceLT, Int.reduceLE, Int.reduceGT, Int.reduceGE, Int.reduceNeg, Int.reduceAdd, Int.reduceSub, reduceCtorEq, List.reduceReplicate, ← List.map_take, ← List.map_drop]
  refine loopI_st (fun k : Nat => m.length - k) (fun k E H => k ≤ m.length ∧ E = [(1, .fsl (m.map Sag.c)), (3, .rpt 0 3 0 0), (5, .rpt 1 2 0 0), (7, .b true), (8, .i .i64 k)] ∧ H = [.row 3 [bungC w l], .row 2 [s.c]]) 0 ⟨by omega, rfl, rfl⟩ ?_
  rintro k _ _ ⟨hk, rfl, rfl⟩
  simp -dsimp -implicitDefEqProofs only [qq, Nat.reduceBEq, reduceIte, Nat.reduceAdd, Nat.reduceSub, Nat.reduceLeDiff, Nat.reduceLT, Nat.reduceMul, Nat.reduceEqDiff, Int.reduceEq, Int.reduceBEq, Int.reduceBNe, Int.reduceLT, Int.reduceLE, Int.reduceGT, Int.reduceGE, Int.reduceNeg, Int.reduceAdd, Int.reduceSub, reduceCtorEq, List.reduceReplicate, ← List.map_take, ← List.map_drop]
  refine brG_of (fun hlt => ?_) (fun hge => ?_) <;> simp -dsimp -implicitDefEqProofs only [qq, Nat.reduceBEq, reduceIte, Nat.reduceAdd, Nat.reduceSub, Nat.reduceLeDiff, Nat.reduceLT, Nat.reduceMul, Nat.reduceEqDiff, Int.reduceEq, Int.reduceBEq, Int.reduceBNe, Int.reduceLT, Int.reduceLE, Int.reduceGT, Int.reduceGE, Int.reduceNeg, Int.reduceAdd, Int.reduceSub, reduceCtorEq, List.reduceReplicate, ← List.map_take, ← List.map_drop]
  · have hkl : k < m.length := by simpa using hlt
    obtain ⟨x, hx, hxm, htk, _⟩ := next_of hkl
    have hwk : IntKind.i64.wrap ((k : Int) + 1) = ((k + 1 : Nat) : Int) := wrap_succ (by omega)
    simp -dsimp -implicitDefEqProofs only [hx, Sag.c, qq, Nat.reduceBEq, reduceIte, Nat.reduceAdd, Nat.reduceSub, Nat.reduceLeDiff, Nat.reduceLT, Nat.reduceMul, Nat.reduceEqDiff, Int.reduceEq, Int.reduceBEq, Int.reduceBNe, Int.reduceLT, Int.reduceLE, Int.reduceGT, Int.reduceGE, Int.reduceNeg, Int.reduceAdd, Int.reduceSub, reduceCtorEq, List.reduceReplicate, ← List.map_take, ← List.map_drop]
    refine callI_pure (h1 x) rfl rfl ?_
    simp -dsimp -implicitDefEqProofs only [hx, Sag.c, qq, Nat.reduceBEq, reduceIte, Nat.reduceAdd, Nat.reduceSub, Nat.reduceLeDiff, Nat.reduceLT, Nat.reduceMul, Nat.reduceEqDiff, Int.reduceEq, Int.reduceBEq, Int.reduceBNe, Int.reduceLT, Int.reduceLE, Int.reduceGT, Int.reduceGE, Int.reduceNeg, Int.reduceAdd, Int.reduceSub, reduceCtorEq, List.reduceReplicate, ← List.map_take, ← List.map_drop]
    refine callI_pure (h2 x) rfl rfl ?_
    simp -dsimp -implicitDefEqProofs only [bne_self_eq_false, hwk, qq, Nat.reduceBEq, reduceIte, Nat.reduceAdd, Nat.reduceSub, Nat.reduceLeDiff, Nat.reduceLT, Nat.reduceMul, Nat.reduceEqDiff, Int.reduceEq, Int.reduceBEq, Int.reduceBNe, Int.reduceLT, Int.reduceLE, Int.reduceGT, Int.reduceGE, Int.reduceNeg, Int.reduceAdd, Int.reduceSub, reduceCtorEq, List.reduceReplicate, ← List.map_take, ← List.map_drop]
    exact ⟨k + 1, by omega, by omega, rfl⟩
  · simp -dsimp -implicitDefEqProofs only [bungC, Rg.c, qq, Nat.reduceBEq, reduceIte, Nat.reduceAdd, Nat.reduceSub, Nat.reduceLeDiff, Nat.reduceLT, Nat.reduceMul, Nat.reduceEqDiff, Int.reduceEq, Int.reduceBEq, Int.reduceBNe, Int.reduceLT, Int.reduceLE, Int.reduceGT, Int.reduceGE, Int.reduceNeg, Int.reduceAdd, Int.reduceSub, reduceCtorEq, List.reduceReplicate, ← List.map_take, ← List.map_drop]
    refine callI_pure (h3 w l) rfl rfl ?_
    simp -dsimp -implicitDefEqProofs only [qq, Nat.reduceBEq, reduceIte, Nat.reduceAdd, Nat.reduceSub, Nat.reduceLeDiff, Nat.reduceLT, Nat.reduceMul, Nat.reduceEqDiff, Int.reduceEq, Int.reduceBEq, Int.reduceBNe, Int.reduceLT, Int.reduceLE, Int.reduceGT, Int.reduceGE, Int.reduceNeg, Int.reduceAdd, Int.reduceSub, reduceCtorEq, List.reduceReplicate, ← List.map_take, ← List.map_drop]
    refine callI_pure (h4 w l) rfl rfl ?_
    simp -dsimp -implicitDefEqProofs only [qq, Nat.reduceBEq, reduceIte, Nat.reduceAdd, Nat.reduceSub, Nat.reduceLeDiff, Nat.reduceLT, Nat.reduceMul, Nat.reduceEqDiff, Int.reduceEq, Int.reduceBEq, Int.reduceBNe, Int.reduceLT, Int.reduceLE, Int.reduceGT, Int.reduceGE, Int.reduceNeg, Int.reduceAdd, Int.reduceSub, reduceCtorEq, List.reduceReplicate, ← List.map_take, ← List.map_drop]
    refine callI_pure (h5 m) rfl rfl ?_
    simp -dsimp -implicitDefEqProofs only [qq, Nat.reduceBEq, reduceIte, Nat.reduceAdd, Nat.reduceSub, Nat.reduceLeDiff, Nat.reduceLT, Nat.reduceMul, Nat.reduceEqDiff, Int.reduceEq, Int.reduceBEq, Int.reduceBNe, Int.reduceLT, Int.reduceLE, Int.reduceGT, Int.reduceGE, Int.reduceNeg, Int.reduceAdd, Int.reduceSub, reduceCtorEq, List.reduceReplicate, ← List.map_take, ← List.map_drop]
    refine callI_pure (h6 m) rfl rfl ?_
    simp -dsimp -implicitDefEqProofs only [qq, Nat.reduceBEq, reduceIte, Nat.reduceAdd, Nat.reduceSub, Nat.reduceLeDiff, Nat.reduceLT, Nat.reduceMul, Nat.reduceEqDiff, Int.reduceEq, Int.reduceBEq, Int.reduceBNe, Int.reduceLT, Int.reduceLE, Int.reduceGT, Int.reduceGE, Int.reduceNeg, Int.reduceAdd, Int.reduceSub, reduceCtorEq, List.reduceReplicate, ← List.map_take, ← List.map_drop]
    refine callI_pure (h7 s) rfl rfl ?_
    simp -dsimp -implicitDefEqProofs only [qq, Nat.reduceBEq, reduceIte, Nat.reduceAdd, Nat.reduceSub, Nat.reduceLeDiff, Nat.reduceLT, Nat.reduceMul, Nat.reduceEqDiff, Int.reduceEq, Int.reduceBEq, Int.reduceBNe, Int.reduceLT, Int.reduceLE, Int.reduceGT, Int.reduceGE, Int.reduceNeg, Int.reduceAdd, Int.reduceSub, reduceCtorEq, List.reduceReplicate, ← List.map_take, ← List.map_drop]
    refine callI_pure (h8 s) rfl rfl ?_
    simp -dsimp -implicitDefEqProofs only [qq, Nat.reduceBEq, reduceIte, Nat.reduceAdd, Nat.reduceSub, Nat.reduceLeDiff, Nat.reduceLT, Nat.reduceMul, Nat.reduceEqDiff, Int.reduceEq, Int.reduceBEq, Int.reduceBNe, Int.reduceLT, Int.reduceLE, Int.reduceGT, Int.reduceGE, Int.reduceNeg, Int.reduceAdd, Int.reduceSub, reduceCtorEq, List.reduceReplicate, ← List.map_take, ← List.map_drop]
    exact Ends.plain rfl rfl rfl
end Go.Sh.C3
end
section
namespace Go.Sh.C3
open Go.Sh
set_option maxRecDepth 10000
set_option linter.unusedVariables false
set_option linter.unusedSimpArgs false
variable {P : Program}
def ic_potbanklaw03_BungMosts (f0 f1 f2 f3 : Nat) : IC := .seq (.reg [⟨some 2, none, .mov (.c (.b false))⟩] [0]) (.seq (.reg [⟨some 9, none, .calv (.c (.fn (.func f0) [] [])) []⟩, ⟨some 3, none, .mov (.t 9)⟩] [0, 3]) (.seq (.reg [⟨some 11, none, .mov (.t 0)⟩, ⟨some 12, none, .calv (.c (.fn (.func f1) [] [])) [.t 11]⟩, ⟨some 10, none, .mov (.t 12)⟩, ⟨some 13, none, .ext (.t 10) 0⟩, ⟨some 14, none, .ext (.t 10) 1⟩, ⟨some 4, none, .mov (.t 13)⟩, ⟨some 5, none, .mov (.t 14)⟩] [0, 3, 4, 5]) (.seq (.reg [⟨some 16, none, .mov (.t 0)⟩, ⟨some 17, none, .calv (.c (.fn (.func f2) [] [])) [.t 16]⟩, ⟨some 15, none, .mov (.t 17)⟩, ⟨some 18, none, .ext (.t 15) 0⟩, ⟨some 19, none, .ext (.t 15) 1⟩, ⟨some 6, none, .mov (.t 18)⟩, ⟨some 7, none, .mov (.t 19)⟩] [3, 4, 5, 6, 7]) (.seq (.reg [⟨some 20, none, .mov (.t 4)⟩, ⟨some 21, none, .mov (.t 6)⟩, ⟨some 22, none, .calv (.c (.fn (.func f3) [] [])) [.t 20, .t 21]⟩, ⟨some 8, none, .mov (.t 22)⟩] [3, 5, 7, 8]) (.seq (.reg [⟨some 23, none, .mov (.t 3)⟩, ⟨some 24, none, .mov (.t 23)⟩, ⟨some 25, some (24, true), .mov (.t 8)⟩, ⟨some 26, none, .pick (.t 24) (.t 25) (.c (.b false))⟩, ⟨some 27, none, .mov (.t 26)⟩, ⟨some 28, some (27, true), .mov (.t 5)⟩, ⟨some 29, some (27, true), .mov (.t 7)⟩, ⟨some 30, some (27, true), .bin .eql (.t 28) (.t 29)⟩, ⟨some 31, none, .pick (.t 27) (.t 30) (.c (.b false))⟩, ⟨some 2, none, .mov (.t 31)⟩] [2]) (.ret))))))
abbrev Low_potbanklaw03_BungMosts (P : Program) (f f0 f1 f2 f3 : Nat) : Prop := lowF P f = some (32, [.tmp 2], (ic_potbanklaw03_BungMosts f0 f1 f2 f3).erase)

theorem bitsS_ris (mask n : Nat) : Ris n (bitsS mask n) := by
  unfold bitsS
  refine ⟨?_, fun i hi => ?_⟩
  · rw [List.pairwise_map]
    exact ((List.pairwise_lt_range (n := n)).filter _).imp fun h => by omega
  · obtain ⟨k, hk, rfl⟩ := List.mem_map.1 hi
    have := (List.mem_filter.1 hk).1
    simp at this; omega
def betterS (c b : List Int) : Bool := decide (c.length > b.length) || (c.length == b.length && aheadS c b)
def bestS (l : List Sag) : Nat → List Int
  | 0 => []
  | k + 1 => if (canS l (bitsS k l.length) && betterS (bitsS k l.length) (bestS l k)) = true then bitsS k l.length else bestS l k
theorem bestS_len (l : List Sag) : ∀ k, (bestS l k).length ≤ l.length
  | 0 => by simp [bestS]
  | k + 1 => by
    rw [bestS]
    split
    · exact bitsS_len _ _
    · exact bestS_len l k
theorem shl_one : ∀ n : _root_.Fin 10, IntKind.i64.wrap (1 * 2 ^ n.val) = ((2 ^ n.val : Nat) : Int) := by decide +kernel
theorem pow_le (n : Nat) (h : n ≤ 9) : 2 ^ n ≤ 512 := Nat.pow_le_pow_right (n := 2) (by decide) h
theorem canS_pick {l : List Sag} {s : List Int} (hs : okIx l.length s) : canS (pickS l s) (ixS (pickS l s).length) = canS l s := by
  unfold canS
  rw [pickS_len hs, pick_pick hs]
def bestR (l : List Sag) : List Int := if listB l = true ∧ l.length ≤ 9 then bestS l (2 ^ l.length) else []
theorem mostRef (hm : P.follows .mixedOrders = true) {f f0 f1 f2 f3 f4 : Nat} (low : Low_potbankref03_Most P f f0 f1 f2 f3 f4) (h0 : C_CheckList P f0) (h1 : C_chosen P f1) (h2 : C_stacked P f2) (h3 : C_rcanStand P f3) (h4 : C_Ahead P f4) (l : List Sag) :
    Snd P f [.fsl (l.map Sag.c)] [] (.tup [.fsl ((bestR l).map intC), .i .i64 (mostE l)]) [] := by
  have none_ : ∀ (H : List Blk) (e : Int), mostE l = e → ¬ (listB l = true ∧ l.length ≤ 9) → Frz 0 H (resV [.nsl, .i .i64 e]) (.tup [.fsl ((bestR l).map intC), .i .i64 (mostE l)]) := fun H e h1 h2 => by rw [h1, bestR, if_neg h2]; exact frz2 .nil (.keep _ rfl)
  refine snd_ic hm low (by simp) ?_
  unfold ic_potbankref03_Most
  simp -dsimp -implicitDefEqProofs only [qq, Nat.reduceBEq, reduceIte, Nat.reduceAdd, Nat.reduceSub, Nat.reduceLeDiff, Nat.reduceLT, Nat.reduceMul, Nat.reduceEqDiff, Int.reduceEq, Int.reduceBEq, Int.reduceBNe, Int.reduceLT, Int.reduceLE, Int.reduceGT, Int.reduceGE, Int.reduceNeg, Int.reduceAdd, Int.reduceSub, reduceCtorEq, List.reduceReplicate, ← List.map_take, ← List.map_drop]
  refine callI_pure (h0 l) rfl rfl ?_
  cases hv : listB l
  · simp -dsimp -implicitDefEqProofs only [qq, Nat.reduceBEq, reduceIte, Nat.reduceAdd, Nat.reduceSub, Nat.reduceLeDiff, Nat.reduceLT, Nat.reduceMul, Nat.reduceEqDiff, Int.reduceEq, Int.reduceBEq, Int.reduceBNe, Int.reduceLT, Int.reduceLE, Int.reduceGT, Int.reduceGE, Int.reduceNeg, Int.reduceAdd, Int.reduceSub, reduceCtorEq, List.reduceReplicate, ← List.map_take, ← List.map_drop]
    exact Ends.ret rfl (none_ _ 30 (by simp [mostE, hv]) (by simp [hv]))
  have hlen := list_len hv
  rcases Nat.lt_or_ge 9 l.length with h9 | h9
  · have q1 : decide ((l.length : Int) > 9) = true := by simp; omega
    simp -dsimp -implicitDefEqProofs only [q1, qq, Nat.reduceBEq, reduceIte, Nat.reduceAdd, Nat.reduceSub, Nat.reduceLeDiff, Nat.reduceLT, Nat.reduceMul, Nat.reduceEqDiff, Int.reduceEq, Int.reduceBEq, Int.reduceBNe, Int.reduceLT, Int.reduceLE, Int.reduceGT, Int.reduceGE, Int.reduceNeg, Int.reduceAdd, Int.reduceSub, reduceCtorEq, List.reduceReplicate, ← List.map_take, ← List.map_drop]
    exact Ends.ret rfl (none_ _ 36 (by simp [mostE, hv, h9]) (by omega))
  have q1 : decide ((l.length : Int) > 9) = false := by simp; omega
  have q0 : mostE l = 0 := by rw [mostE, if_pos hv, if_neg (by omega)]
  have hpow := pow_le l.length h9
  have qr : bestR l = bestS l (2 ^ l.length) := by rw [bestR, if_pos ⟨hv, h9⟩]
  rw [q0, qr]
  have hsh : (if (l.length : Int) < 0 then none else some (V.i .i64 (IntKind.i64.wrap (1 * 2 ^ min l.length IntKind.i64.bits)))) = some (V.i .i64 ((2 ^ l.length : Nat) : Int)) := by
    rw [if_neg (by omega), Nat.min_eq_left (by simp only [IntKind.bits]; omega), shl_one ⟨l.length, by omega⟩]
  generalize hN : 2 ^ l.length = N at *
  simp -dsimp -implicitDefEqProofs only [q1, qq, Nat.reduceBEq, reduceIte, Nat.reduceAdd, Nat.reduceSub, Nat.reduceLeDiff, Nat.reduceLT, Nat.reduceMul, Nat.reduceEqDiff, Int.reduceEq, Int.reduceBEq, Int.reduceBNe, Int.reduceLT, Int.reduceLE, Int.reduceGT, Int.reduceGE, Int.reduceNeg, Int.reduceAdd, Int.reduceSub, reduceCtorEq, List.reduceReplicate, ← List.map_take, ← List.map_drop]
  refine loopI_st (fun k : Nat => N - k) (fun k E H => k ≤ N ∧ E = [(0, .fsl (l.map Sag.c)), (4, argI (bestS l k)), (5, .i .i64 k)]) 0 ⟨by omega, rfl⟩ ?_
  rintro k _ H ⟨hk, rfl⟩
  rcases Nat.lt_or_ge k N with hkN | hkN
  · have hc : decide ((k : Int) < (N : Int)) = true := decide_eq_true (by omega)
    have hwk : IntKind.i64.wrap ((k : Int) + 1) = ((k + 1 : Nat) : Int) := wrap_succ (by omega)
    have hris := bitsS_ris k l.length
    have hcl := bitsS_len k l.length
    have hbl := bestS_len l k
    have hnext := bestS.eq_2 l k
    have hcan := canS_pick hris.2
    have hpk := listB_pick hv hris.2 hris.nodup
    have h1' := h1 k l.length h9 (by omega)
    generalize bitsS k l.length = c at *
    generalize bestS l k = b at *
    unfold betterS at hnext
    cases hcs : canS l c
    · rw [hcs] at hnext hcan
      simp -dsimp -implicitDefEqProofs only [hc, hsh, qq, Nat.reduceBEq, reduceIte, Nat.reduceAdd, Nat.reduceSub, Nat.reduceLeDiff, Nat.reduceLT, Nat.reduceMul, Nat.reduceEqDiff, Int.reduceEq, Int.reduceBEq, Int.reduceBNe, Int.reduceLT, Int.reduceLE, Int.reduceGT, Int.reduceGE, Int.reduceNeg, Int.reduceAdd, Int.reduceSub, reduceCtorEq, List.reduceReplicate, ← List.map_take, ← List.map_drop]
      refine callI_pure h1' rfl rfl ?_
      simp -dsimp -implicitDefEqProofs only [qq, Nat.reduceBEq, reduceIte, Nat.reduceAdd, Nat.reduceSub, Nat.reduceLeDiff, Nat.reduceLT, Nat.reduceMul, Nat.reduceEqDiff, Int.reduceEq, Int.reduceBEq, Int.reduceBNe, Int.reduceLT, Int.reduceLE, Int.reduceGT, Int.reduceGE, Int.reduceNeg, Int.reduceAdd, Int.reduceSub, reduceCtorEq, List.reduceReplicate, ← List.map_take, ← List.map_drop]
      refine callI_pure (h2 l c (by omega) hris.2) rfl rfl ?_
      simp -dsimp -implicitDefEqProofs only [qq, Nat.reduceBEq, reduceIte, Nat.reduceAdd, Nat.reduceSub, Nat.reduceLeDiff, Nat.reduceLT, Nat.reduceMul, Nat.reduceEqDiff, Int.reduceEq, Int.reduceBEq, Int.reduceBNe, Int.reduceLT, Int.reduceLE, Int.reduceGT, Int.reduceGE, Int.reduceNeg, Int.reduceAdd, Int.reduceSub, reduceCtorEq, List.reduceReplicate, ← List.map_take, ← List.map_drop]
      refine callI_pure (h3 _ hpk) rfl rfl ?_
      simp -dsimp -implicitDefEqProofs only [hcan, hwk, qq, Nat.reduceBEq, reduceIte, Nat.reduceAdd, Nat.reduceSub, Nat.reduceLeDiff, Nat.reduceLT, Nat.reduceMul, Nat.reduceEqDiff, Int.reduceEq, Int.reduceBEq, Int.reduceBNe, Int.reduceLT, Int.reduceLE, Int.reduceGT, Int.reduceGE, Int.reduceNeg, Int.reduceAdd, Int.reduceSub, reduceCtorEq, List.reduceReplicate, ← List.map_take, ← List.map_drop]
      exact ⟨k + 1, by omega, by omega, by rw [hnext]; rfl⟩
    rw [hcs] at hnext hcan
    rcases b with _ | ⟨y, b'⟩
    · cases hgt : decide ((c.length : Int) > 0)
      · have hc0 : c = [] := by simp at hgt; exact hgt
        have hq : ((c.length : Int) == 0) = true := by rw [hc0]; rfl
        simp -dsimp -implicitDefEqProofs only [hc, hsh, argI, qq, Nat.reduceBEq, reduceIte, Nat.reduceAdd, Nat.reduceSub, Nat.reduceLeDiff, Nat.reduceLT, Nat.reduceMul, Nat.reduceEqDiff, Int.reduceEq, Int.reduceBEq, Int.reduceBNe, Int.reduceLT, Int.reduceLE, Int.reduceGT, Int.reduceGE, Int.reduceNeg, Int.reduceAdd, Int.reduceSub, reduceCtorEq, List.reduceReplicate, ← List.map_take, ← List.map_drop]
        refine callI_pure h1' rfl rfl ?_
        simp -dsimp -implicitDefEqProofs only [qq, Nat.reduceBEq, reduceIte, Nat.reduceAdd, Nat.reduceSub, Nat.reduceLeDiff, Nat.reduceLT, Nat.reduceMul, Nat.reduceEqDiff, Int.reduceEq, Int.reduceBEq, Int.reduceBNe, Int.reduceLT, Int.reduceLE, Int.reduceGT, Int.reduceGE, Int.reduceNeg, Int.reduceAdd, Int.reduceSub, reduceCtorEq, List.reduceReplicate, ← List.map_take, ← List.map_drop]
        refine callI_pure (h2 l c (by omega) hris.2) rfl rfl ?_
        simp -dsimp -implicitDefEqProofs only [qq, Nat.reduceBEq, reduceIte, Nat.reduceAdd, Nat.reduceSub, Nat.reduceLeDiff, Nat.reduceLT, Nat.reduceMul, Nat.reduceEqDiff, Int.reduceEq, Int.reduceBEq, Int.reduceBNe, Int.reduceLT, Int.reduceLE, Int.reduceGT, Int.reduceGE, Int.reduceNeg, Int.reduceAdd, Int.reduceSub, reduceCtorEq, List.reduceReplicate, ← List.map_take, ← List.map_drop]
        refine callI_pure (h3 _ hpk) rfl rfl ?_
        simp -dsimp -implicitDefEqProofs only [hcan, hgt, hq, qq, Nat.reduceBEq, reduceIte, Nat.reduceAdd, Nat.reduceSub, Nat.reduceLeDiff, Nat.reduceLT, Nat.reduceMul, Nat.reduceEqDiff, Int.reduceEq, Int.reduceBEq, Int.reduceBNe, Int.reduceLT, Int.reduceLE, Int.reduceGT, Int.reduceGE, Int.reduceNeg, Int.reduceAdd, Int.reduceSub, reduceCtorEq, List.reduceReplicate, ← List.map_take, ← List.map_drop]
        refine callI_give (fun _ => false) (.cons (.keep _) (.cons .nil .nil)) ?_
        rw [killB_no]
        refine callI_pure (h4 c [] (by omega) (by simp)) rfl rfl ?_
        have ha : aheadS c [] = false := by rw [hc0]; rfl
        simp -dsimp -implicitDefEqProofs only [ha, hwk, qq, Nat.reduceBEq, reduceIte, Nat.reduceAdd, Nat.reduceSub, Nat.reduceLeDiff, Nat.reduceLT, Nat.reduceMul, Nat.reduceEqDiff, Int.reduceEq, Int.reduceBEq, Int.reduceBNe, Int.reduceLT, Int.reduceLE, Int.reduceGT, Int.reduceGE, Int.reduceNeg, Int.reduceAdd, Int.reduceSub, reduceCtorEq, List.reduceReplicate, ← List.map_take, ← List.map_drop]
        exact ⟨k + 1, by omega, by omega, by rw [hnext, hc0]; rfl⟩
      · have hcp : 0 < c.length := by simpa using hgt
        simp -dsimp -implicitDefEqProofs only [hc, hsh, argI, qq, Nat.reduceBEq, reduceIte, Nat.reduceAdd, Nat.reduceSub, Nat.reduceLeDiff, Nat.reduceLT, Nat.reduceMul, Nat.reduceEqDiff, Int.reduceEq, Int.reduceBEq, Int.reduceBNe, Int.reduceLT, Int.reduceLE, Int.reduceGT, Int.reduceGE, Int.reduceNeg, Int.reduceAdd, Int.reduceSub, reduceCtorEq, List.reduceReplicate, ← List.map_take, ← List.map_drop]
        refine callI_pure h1' rfl rfl ?_
        simp -dsimp -implicitDefEqProofs only [qq, Nat.reduceBEq, reduceIte, Nat.reduceAdd, Nat.reduceSub, Nat.reduceLeDiff, Nat.reduceLT, Nat.reduceMul, Nat.reduceEqDiff, Int.reduceEq, Int.reduceBEq, Int.reduceBNe, Int.reduceLT, Int.reduceLE, Int.reduceGT, Int.reduceGE, Int.reduceNeg, Int.reduceAdd, Int.reduceSub, reduceCtorEq, List.reduceReplicate, ← List.map_take, ← List.map_drop]
        refine callI_pure (h2 l c (by omega) hris.2) rfl rfl ?_
        simp -dsimp -implicitDefEqProofs only [qq, Nat.reduceBEq, reduceIte, Nat.reduceAdd, Nat.reduceSub, Nat.reduceLeDiff, Nat.reduceLT, Nat.reduceMul, Nat.reduceEqDiff, Int.reduceEq, Int.reduceBEq, Int.reduceBNe, Int.reduceLT, Int.reduceLE, Int.reduceGT, Int.reduceGE, Int.reduceNeg, Int.reduceAdd, Int.reduceSub, reduceCtorEq, List.reduceReplicate, ← List.map_take, ← List.map_drop]
        refine callI_pure (h3 _ hpk) rfl rfl ?_
        simp -dsimp -implicitDefEqProofs only [hcan, hgt, hwk, qq, Nat.reduceBEq, reduceIte, Nat.reduceAdd, Nat.reduceSub, Nat.reduceLeDiff, Nat.reduceLT, Nat.reduceMul, Nat.reduceEqDiff, Int.reduceEq, Int.reduceBEq, Int.reduceBNe, Int.reduceLT, Int.reduceLE, Int.reduceGT, Int.reduceGE, Int.reduceNeg, Int.reduceAdd, Int.reduceSub, reduceCtorEq, List.reduceReplicate, ← List.map_take, ← List.map_drop]
        refine ⟨k + 1, by omega, by omega, ?_⟩
        rw [hnext, if_pos (by simp; left; exact hcp)]
        cases c with
        | nil => simp at hcp
        | cons x c => rfl
    · have ha : argI (y :: b') = .fsl ((y :: b').map intC) := rfl
      have hbp : 0 < (y :: b').length := by simp
      generalize y :: b' = b at *
      have harg : ∀ c : List Int, 0 < c.length → argI c = .fsl (c.map intC) := fun c h => by
        cases c with
        | nil => simp at h
        | cons x c => rfl
      cases hgt : decide ((c.length : Int) > (b.length : Int))
      · have hgt' : ¬ c.length > b.length := by simp at hgt; omega
        cases hq : ((c.length : Int) == (b.length : Int))
        · have hq' : (c.length == b.length) = false := by simp at hq ⊢; omega
          simp -dsimp -implicitDefEqProofs only [hc, hsh, ha, qq, Nat.reduceBEq, reduceIte, Nat.reduceAdd, Nat.reduceSub, Nat.reduceLeDiff, Nat.reduceLT, Nat.reduceMul, Nat.reduceEqDiff, Int.reduceEq, Int.reduceBEq, Int.reduceBNe, Int.reduceLT, Int.reduceLE, Int.reduceGT, Int.reduceGE, Int.reduceNeg, Int.reduceAdd, Int.reduceSub, reduceCtorEq, List.reduceReplicate, ← List.map_take, ← List.map_drop]
          refine callI_pure h1' rfl rfl ?_
          simp -dsimp -implicitDefEqProofs only [qq, Nat.reduceBEq, reduceIte, Nat.reduceAdd, Nat.reduceSub, Nat.reduceLeDiff, Nat.reduceLT, Nat.reduceMul, Nat.reduceEqDiff, Int.reduceEq, Int.reduceBEq, Int.reduceBNe, Int.reduceLT, Int.reduceLE, Int.reduceGT, Int.reduceGE, Int.reduceNeg, Int.reduceAdd, Int.reduceSub, reduceCtorEq, List.reduceReplicate, ← List.map_take, ← List.map_drop]
          refine callI_pure (h2 l c (by omega) hris.2) rfl rfl ?_
          simp -dsimp -implicitDefEqProofs only [qq, Nat.reduceBEq, reduceIte, Nat.reduceAdd, Nat.reduceSub, Nat.reduceLeDiff, Nat.reduceLT, Nat.reduceMul, Nat.reduceEqDiff, Int.reduceEq, Int.reduceBEq, Int.reduceBNe, Int.reduceLT, Int.reduceLE, Int.reduceGT, Int.reduceGE, Int.reduceNeg, Int.reduceAdd, Int.reduceSub, reduceCtorEq, List.reduceReplicate, ← List.map_take, ← List.map_drop]
          refine callI_pure (h3 _ hpk) rfl rfl ?_
          simp -dsimp -implicitDefEqProofs only [hcan, hgt, hq, hwk, qq, Nat.reduceBEq, reduceIte, Nat.reduceAdd, Nat.reduceSub, Nat.reduceLeDiff, Nat.reduceLT, Nat.reduceMul, Nat.reduceEqDiff, Int.reduceEq, Int.reduceBEq, Int.reduceBNe, Int.reduceLT, Int.reduceLE, Int.reduceGT, Int.reduceGE, Int.reduceNeg, Int.reduceAdd, Int.reduceSub, reduceCtorEq, List.reduceReplicate, ← List.map_take, ← List.map_drop]
          exact ⟨k + 1, by omega, by omega, by rw [hnext, if_neg (by simp [hq', hgt']), ha]⟩
        · have hq' : (c.length == b.length) = true := by simp at hq ⊢; omega
          cases had : aheadS c b
          · simp -dsimp -implicitDefEqProofs only [hc, hsh, ha, qq, Nat.reduceBEq, reduceIte, Nat.reduceAdd, Nat.reduceSub, Nat.reduceLeDiff, Nat.reduceLT, Nat.reduceMul, Nat.reduceEqDiff, Int.reduceEq, Int.reduceBEq, Int.reduceBNe, Int.reduceLT, Int.reduceLE, Int.reduceGT, Int.reduceGE, Int.reduceNeg, Int.reduceAdd, Int.reduceSub, reduceCtorEq, List.reduceReplicate, ← List.map_take, ← List.map_drop]
            refine callI_pure h1' rfl rfl ?_
            simp -dsimp -implicitDefEqProofs only [qq, Nat.reduceBEq, reduceIte, Nat.reduceAdd, Nat.reduceSub, Nat.reduceLeDiff, Nat.reduceLT, Nat.reduceMul, Nat.reduceEqDiff, Int.reduceEq, Int.reduceBEq, Int.reduceBNe, Int.reduceLT, Int.reduceLE, Int.reduceGT, Int.reduceGE, Int.reduceNeg, Int.reduceAdd, Int.reduceSub, reduceCtorEq, List.reduceReplicate, ← List.map_take, ← List.map_drop]
            refine callI_pure (h2 l c (by omega) hris.2) rfl rfl ?_
            simp -dsimp -implicitDefEqProofs only [qq, Nat.reduceBEq, reduceIte, Nat.reduceAdd, Nat.reduceSub, Nat.reduceLeDiff, Nat.reduceLT, Nat.reduceMul, Nat.reduceEqDiff, Int.reduceEq, Int.reduceBEq, Int.reduceBNe, Int.reduceLT, Int.reduceLE, Int.reduceGT, Int.reduceGE, Int.reduceNeg, Int.reduceAdd, Int.reduceSub, reduceCtorEq, List.reduceReplicate, ← List.map_take, ← List.map_drop]
            refine callI_pure (h3 _ hpk) rfl rfl ?_
            simp -dsimp -implicitDefEqProofs only [hcan, hgt, hq, qq, Nat.reduceBEq, reduceIte, Nat.reduceAdd, Nat.reduceSub, Nat.reduceLeDiff, Nat.reduceLT, Nat.reduceMul, Nat.reduceEqDiff, Int.reduceEq, Int.reduceBEq, Int.reduceBNe, Int.reduceLT, Int.reduceLE, Int.reduceGT, Int.reduceGE, Int.reduceNeg, Int.reduceAdd, Int.reduceSub, reduceCtorEq, List.reduceReplicate, ← List.map_take, ← List.map_drop]
            refine callI_pure (h4 c b (by omega) (by omega)) rfl rfl ?_
            simp -dsimp -implicitDefEqProofs only [had, hwk, qq, Nat.reduceBEq, reduceIte, Nat.reduceAdd, Nat.reduceSub, Nat.reduceLeDiff, Nat.reduceLT, Nat.reduceMul, Nat.reduceEqDiff, Int.reduceEq, Int.reduceBEq, Int.reduceBNe, Int.reduceLT, Int.reduceLE, Int.reduceGT, Int.reduceGE, Int.reduceNeg, Int.reduceAdd, Int.reduceSub, reduceCtorEq, List.reduceReplicate, ← List.map_take, ← List.map_drop]
            exact ⟨k + 1, by omega, by omega, by rw [hnext, if_neg (by simp [had]; omega), ha]⟩
          · simp -dsimp -implicitDefEqProofs only [hc, hsh, ha, qq, Nat.reduceBEq, reduceIte, Nat.reduceAdd, Nat.reduceSub, Nat.reduceLeDiff, Nat.reduceLT, Nat.reduceMul, Nat.reduceEqDiff, Int.reduceEq, Int.reduceBEq, Int.reduceBNe, Int.reduceLT, Int.reduceLE, Int.reduceGT, Int.reduceGE, Int.reduceNeg, Int.reduceAdd, Int.reduceSub, reduceCtorEq, List.reduceReplicate, ← List.map_take, ← List.map_drop]
            refine callI_pure h1' rfl rfl ?_
            simp -dsimp -implicitDefEqProofs only [qq, Nat.reduceBEq, reduceIte, Nat.reduceAdd, Nat.reduceSub, Nat.reduceLeDiff, Nat.reduceLT, Nat.reduceMul, Nat.reduceEqDiff, Int.reduceEq, Int.reduceBEq, Int.reduceBNe, Int.reduceLT, Int.reduceLE, Int.reduceGT, Int.reduceGE, Int.reduceNeg, Int.reduceAdd, Int.reduceSub, reduceCtorEq, List.reduceReplicate, ← List.map_take, ← List.map_drop]
            refine callI_pure (h2 l c (by omega) hris.2) rfl rfl ?_
            simp -dsimp -implicitDefEqProofs only [qq, Nat.reduceBEq, reduceIte, Nat.reduceAdd, Nat.reduceSub, Nat.reduceLeDiff, Nat.reduceLT, Nat.reduceMul, Nat.reduceEqDiff, Int.reduceEq, Int.reduceBEq, Int.reduceBNe, Int.reduceLT, Int.reduceLE, Int.reduceGT, Int.reduceGE, Int.reduceNeg, Int.reduceAdd, Int.reduceSub, reduceCtorEq, List.reduceReplicate, ← List.map_take, ← List.map_drop]
            refine callI_pure (h3 _ hpk) rfl rfl ?_
            simp -dsimp -implicitDefEqProofs only [hcan, hgt, hq, qq, Nat.reduceBEq, reduceIte, Nat.reduceAdd, Nat.reduceSub, Nat.reduceLeDiff, Nat.reduceLT, Nat.reduceMul, Nat.reduceEqDiff, Int.reduceEq, Int.reduceBEq, Int.reduceBNe, Int.reduceLT, Int.reduceLE, Int.reduceGT, Int.reduceGE, Int.reduceNeg, Int.reduceAdd, Int.reduceSub, reduceCtorEq, List.reduceReplicate, ← List.map_take, ← List.map_drop]
            refine callI_pure (h4 c b (by omega) (by omega)) rfl rfl ?_
            simp -dsimp -implicitDefEqProofs only [had, hwk, qq, Nat.reduceBEq, reduceIte, Nat.reduceAdd, Nat.reduceSub, Nat.reduceLeDiff, Nat.reduceLT, Nat.reduceMul, Nat.reduceEqDiff, Int.reduceEq, Int.reduceBEq, Int.reduceBNe, Int.reduceLT, Int.reduceLE, Int.reduceGT, Int.reduceGE, Int.reduceNeg, Int.reduceAdd, Int.reduceSub, reduceCtorEq, List.reduceReplicate, ← List.map_take, ← List.map_drop]
            exact ⟨k + 1, by omega, by omega, by rw [hnext, if_pos (by simp [had]; simp at hq'; omega), harg c (by simp at hq'; omega)]⟩
      · have hgt' : c.length > b.length := by simp at hgt; omega
        simp -dsimp -implicitDefEqProofs only [hc, hsh, ha, qq, Nat.reduceBEq, reduceIte, Nat.reduceAdd, Nat.reduceSub, Nat.reduceLeDiff, Nat.reduceLT, Nat.reduceMul, Nat.reduceEqDiff, Int.reduceEq, Int.reduceBEq, Int.reduceBNe, Int.reduceLT, Int.reduceLE, Int.reduceGT, Int.reduceGE, Int.reduceNeg, Int.reduceAdd, Int.reduceSub, reduceCtorEq, List.reduceReplicate, ← List.map_take, ← List.map_drop]
        refine callI_pure h1' rfl rfl ?_
        simp -dsimp -implicitDefEqProofs only [qq, Nat.reduceBEq, reduceIte, Nat.reduceAdd, Nat.reduceSub, Nat.reduceLeDiff, Nat.reduceLT, Nat.reduceMul, Nat.reduceEqDiff, Int.reduceEq, Int.reduceBEq, Int.reduceBNe, Int.reduceLT, Int.reduceLE, Int.reduceGT, Int.reduceGE, Int.reduceNeg, Int.reduceAdd, Int.reduceSub, reduceCtorEq, List.reduceReplicate, ← List.map_take, ← List.map_drop]
        refine callI_pure (h2 l c (by omega) hris.2) rfl rfl ?_
        simp -dsimp -implicitDefEqProofs only [qq, Nat.reduceBEq, reduceIte, Nat.reduceAdd, Nat.reduceSub, Nat.reduceLeDiff, Nat.reduceLT, Nat.reduceMul, Nat.reduceEqDiff, Int.reduceEq, Int.reduceBEq, Int.reduceBNe, Int.reduceLT, Int.reduceLE, Int.reduceGT, Int.reduceGE, Int.reduceNeg, Int.reduceAdd, Int.reduceSub, reduceCtorEq, List.reduceReplicate, ← List.map_take, ← List.map_drop]
        refine callI_pure (h3 _ hpk) rfl rfl ?_
        simp -dsimp -implicitDefEqProofs only [hcan, hgt, hwk, qq, Nat.reduceBEq, reduceIte, Nat.reduceAdd, Nat.reduceSub, Nat.reduceLeDiff, Nat.reduceLT, Nat.reduceMul, Nat.reduceEqDiff, Int.reduceEq, Int.reduceBEq, Int.reduceBNe, Int.reduceLT, Int.reduceLE, Int.reduceGT, Int.reduceGE, Int.reduceNeg, Int.reduceAdd, Int.reduceSub, reduceCtorEq, List.reduceReplicate, ← List.map_take, ← List.map_drop]
        exact ⟨k + 1, by omega, by omega, by rw [hnext, if_pos (by simp; omega), harg c (by omega)]⟩
  · obtain rfl : k = N := by omega
    have hc : decide ((k : Int) < (k : Int)) = false := by simp
    simp -dsimp -implicitDefEqProofs only [hc, hsh, qq, Nat.reduceBEq, reduceIte, Nat.reduceAdd, Nat.reduceSub, Nat.reduceLeDiff, Nat.reduceLT, Nat.reduceMul, Nat.reduceEqDiff, Int.reduceEq, Int.reduceBEq, Int.reduceBNe, Int.reduceLT, Int.reduceLE, Int.reduceGT, Int.reduceGE, Int.reduceNeg, Int.reduceAdd, Int.reduceSub, reduceCtorEq, List.reduceReplicate, ← List.map_take, ← List.map_drop]
    refine Ends.ret rfl ?_
    cases bestS l k with
    | nil => exact frz2 .nil (.keep _ rfl)
    | cons y b => exact frz_keep2 rfl rfl
end Go.Sh.C3
end
section
namespace Go.Sh.C3
open Go.Sh
variable {P : Program}

theorem aheadS_irrefl : ∀ a : List Int, aheadS a a = false
  | [] => rfl
  | x :: a => by rw [aheadS, if_pos rfl]; exact aheadS_irrefl a
theorem aheadS_trans : ∀ {a b c : List Int}, a.length = b.length → b.length = c.length → aheadS a b = true → aheadS b c = true → aheadS a c = true
  | [], b, c, h1, h2, h, _ => by
    have : b = [] := List.length_eq_zero_iff.1 h1.symm
    rw [this] at h; cases h
  | x :: a, [], c, h1, _, _, _ => by cases h1
  | x :: a, y :: b, [], _, h2, _, _ => by cases h2
  | x :: a, y :: b, z :: c, h1, h2, h, g => by
    rw [aheadS] at h g ⊢
    split at h
    · rename_i e; subst e
      split at g
      · rename_i e; subst e
        rw [if_pos rfl]
        exact aheadS_trans (by simpa using h1) (by simpa using h2) h g
      · rename_i e
        rw [if_neg e]; exact g
    · rename_i e
      split at g
      · rename_i e2; subst e2
        rw [if_neg e]; exact h
      · rename_i e2
        have h' := of_decide_eq_true h
        have g' := of_decide_eq_true g
        rw [if_neg (by omega)]; exact decide_eq_true (by omega)
theorem aheadS_tri : ∀ {a b : List Int}, a.length = b.length → aheadS a b = false → aheadS b a = false → a = b
  | [], b, h, _, _ => (List.length_eq_zero_iff.1 h.symm).symm
  | x :: a, [], h, _, _ => by cases h
  | x :: a, y :: b, h, h1, h2 => by
    rw [aheadS] at h1 h2
    split at h1
    · rename_i e; subst e
      rw [if_pos rfl] at h2
      rw [aheadS_tri (by simpa using h) h1 h2]
    · rename_i e
      rw [if_neg (fun g => e g.symm)] at h2
      have h1' := of_decide_eq_false h1
      have h2' := of_decide_eq_false h2
      omega
theorem aheadS_append (l : List Int) (a b : List Int) : aheadS (l ++ a) (l ++ b) = aheadS a b := by
  induction l with
  | nil => rfl
  | cons x l ih => rw [List.cons_append, List.cons_append, aheadS, if_pos rfl, ih]
theorem combS_sorted (n : Nat) : ∀ (r lo : Nat) (l : List Int), (combS n r lo l).Pairwise fun a b => aheadS a b = true
  | 0, lo, l => by simp [combS]
  | r + 1, lo, l => by
    rw [combS, List.pairwise_flatMap]
    refine ⟨fun i _ => combS_sorted n r (i + 1) _, ?_⟩
    refine (List.pairwise_lt_range' (s := lo) (n := n - lo)).imp ?_
    intro i j hij a ha b hb
    obtain ⟨t, rfl, _⟩ := mem_combS.1 ha
    obtain ⟨u, rfl, _⟩ := mem_combS.1 hb
    rw [List.append_assoc, List.append_assoc, aheadS_append, List.singleton_append, List.singleton_append, aheadS, if_neg (by omega)]
    exact decide_eq_true (by omega)
theorem bitsS_congr {a b : Nat} : ∀ {n : Nat}, (∀ i, i < n → a.testBit i = b.testBit i) → bitsS a n = bitsS b n
  | 0, _ => rfl
  | n + 1, h => by rw [bitsS_succ, bitsS_succ, bitsS_congr fun i hi => h i (by omega), h n (by omega)]
theorem bits_all : ∀ {n : Nat} {c : List Int}, Ris n c → ∃ m, m < 2 ^ n ∧ bitsS m n = c
  | 0, c, h => ⟨0, by simp, by
    cases c with
    | nil => rfl
    | cons x c => have := h.2 x (by simp); omega⟩
  | n + 1, c, h => by
    rcases List.eq_nil_or_concat c with rfl | ⟨c', x, rfl⟩
    · exact ⟨0, Nat.pow_pos (by decide), by
        have : ∀ n, bitsS 0 n = [] := fun n => by simp [bitsS]
        exact this _⟩
    · rw [List.concat_eq_append] at h ⊢
      have hx := h.2 x (by simp)
      have hp := List.pairwise_append.1 h.1
      by_cases hxn : x = n
      · obtain ⟨m, hm, hb⟩ := bits_all (n := n) (c := c') ⟨hp.1, fun i hi => by
          have h1 := hp.2.2 i hi x (by simp)
          have h2 := h.2 i (by simp [hi]); omega⟩
        refine ⟨2 ^ n + m, by rw [Nat.pow_succ]; omega, ?_⟩
        have ht : (2 ^ n + m).testBit n = true := by rw [Nat.testBit_two_pow_add_eq, Nat.testBit_lt_two_pow hm]; rfl
        rw [bitsS_succ, ht, if_pos rfl, bitsS_congr (b := m) fun i hi => Nat.testBit_two_pow_add_gt hi _, hb, hxn]
      · obtain ⟨m, hm, hb⟩ := bits_all (n := n) (c := c' ++ [x]) ⟨h.1, fun i hi => by
          have h2 := h.2 i hi
          rcases List.mem_append.1 hi with g | g
          · have h1 := hp.2.2 i g x (by simp); omega
          · simp at g; omega⟩
        refine ⟨m, by rw [Nat.pow_succ]; omega, ?_⟩
        rw [bitsS_succ, Nat.testBit_lt_two_pow hm, hb]; simp
theorem better_trans {a b c : List Int} (h1 : betterS a b = true) (h2 : betterS b c = true) : betterS a c = true := by
  simp only [betterS, Bool.or_eq_true, decide_eq_true_eq, Bool.and_eq_true, beq_iff_eq] at h1 h2 ⊢
  rcases h1 with h1 | ⟨h1, g1⟩
  · rcases h2 with h2 | ⟨h2, g2⟩
    · left; omega
    · left; omega
  · rcases h2 with h2 | ⟨h2, g2⟩
    · left; omega
    · right; exact ⟨by omega, aheadS_trans h1 h2 g1 g2⟩
theorem best_spec (l : List Sag) : ∀ k, (bestS l k = [] ∨ ∃ m, bestS l k = bitsS m l.length ∧ canS l (bestS l k) = true) ∧ ∀ m, m < k → canS l (bitsS m l.length) = true → betterS (bitsS m l.length) (bestS l k) = false
  | 0 => ⟨.inl rfl, fun m hm => by omega⟩
  | k + 1 => by
    obtain ⟨h1, h2⟩ := best_spec l k
    rw [bestS]
    split
    · rename_i h
      simp only [Bool.and_eq_true] at h
      refine ⟨.inr ⟨k, rfl, h.1⟩, fun m hm hc => ?_⟩
      rcases Nat.lt_succ_iff_lt_or_eq.1 hm with g | rfl
      · cases hb : betterS (bitsS m l.length) (bitsS k l.length) with
        | false => rfl
        | true => have := h2 m g hc; rw [better_trans hb h.2] at this; cases this
      · simp [betterS, aheadS_irrefl]
    · rename_i h
      refine ⟨h1, fun m hm hc => ?_⟩
      rcases Nat.lt_succ_iff_lt_or_eq.1 hm with g | rfl
      · exact h2 m g hc
      · rw [hc] at h; simpa using h
theorem mostF_spec (l : List Sag) : ∀ k, k ≤ l.length + 1 → match mostF l k with
    | none => ∀ c, Ris l.length c → c.length < k → canS l c = false
    | some c => Ris l.length c ∧ canS l c = true ∧ ∀ c', Ris l.length c' → c'.length < k → canS l c' = true → betterS c' c = false
  | 0, _ => fun c _ h => by omega
  | k + 1, hk => by
    have ih := mostF_spec l k (by omega)
    rw [mostF]
    cases hf : (chooseS l.length k).find? (canS l) with
    | none =>
      have hn : ∀ c, Ris l.length c → c.length = k → canS l c = false := fun c hc hl => by
        have := List.find?_eq_none.1 hf c (mem_choose.2 ⟨hl, hc⟩); simpa using this
      rw [Option.none_or]
      cases hm : mostF l k with
      | none =>
        rw [hm] at ih
        exact fun c hc hl => by
          rcases Nat.lt_succ_iff_lt_or_eq.1 hl with g | g
          · exact ih c hc g
          · exact hn c hc g
      | some c =>
        rw [hm] at ih
        exact ⟨ih.1, ih.2.1, fun c' hc' hl hcan => by
          rcases Nat.lt_succ_iff_lt_or_eq.1 hl with g | g
          · exact ih.2.2 c' hc' g hcan
          · rw [hn c' hc' g] at hcan; cases hcan⟩
    | some c =>
      rw [Option.some_or]
      obtain ⟨hc0, i0, hi0, hce, hbef⟩ := List.find?_eq_some_iff_getElem.1 hf
      obtain ⟨hcl, hcr⟩ := mem_choose.1 (List.mem_of_find?_eq_some hf)
      refine ⟨hcr, hc0, fun c' hc' hl hcan => ?_⟩
      cases hb : betterS c' c with
      | false => rfl
      | true =>
        exfalso
        simp only [betterS, Bool.or_eq_true, decide_eq_true_eq, Bool.and_eq_true, beq_iff_eq] at hb
        rcases hb with hb | ⟨hb, ha⟩
        · omega
        · obtain ⟨j, hj, hje⟩ := List.mem_iff_getElem.1 (mem_choose.2 ⟨hb.trans hcl, hc'⟩)
          have hs := combS_sorted l.length k 0 []
          rcases Nat.lt_trichotomy j i0 with g | g | g
          · have := hbef j g
            rw [hje, hcan] at this; cases this
          · subst g
            rw [← hje, hce, aheadS_irrefl] at ha; cases ha
          · have h1 := List.pairwise_iff_getElem.1 hs i0 j hi0 hj g
            have h1' : aheadS c c' = true := by
              have e1 : (combS l.length k 0 [])[i0] = c := hce
              have e2 : (combS l.length k 0 [])[j] = c' := hje
              rw [e1, e2] at h1; exact h1
            have := aheadS_trans hb hb.symm ha h1'
            rw [aheadS_irrefl] at this; cases this
theorem best_most (l : List Sag) : bestS l (2 ^ l.length) = (mostF l (l.length + 1)).getD [] := by
  obtain ⟨h1, h2⟩ := best_spec l (2 ^ l.length)
  have h3 := mostF_spec l (l.length + 1) (Nat.le_refl _)
  have hall : ∀ c, Ris l.length c → canS l c = true → betterS c (bestS l (2 ^ l.length)) = false := fun c hc hcan => by
    obtain ⟨m, hm, rfl⟩ := bits_all hc
    exact h2 m hm hcan
  have hlen : ∀ c, Ris l.length c → c.length < l.length + 1 := fun c hc => by
    have := nodup_bound l.length c hc.nodup hc.2; omega
  cases hm : mostF l (l.length + 1) with
  | none =>
    rw [hm] at h3
    rcases h1 with h1 | ⟨m, h1, hc⟩
    · exact h1
    · have hr := bitsS_ris m l.length
      rw [h1] at hc
      rw [h3 _ hr (hlen _ hr)] at hc; cases hc
  | some c =>
    rw [hm] at h3
    obtain ⟨hr, hc, hbest⟩ := h3
    have g1 := hall c hr hc
    simp only [Option.getD_some]
    generalize bestS l (2 ^ l.length) = b at *
    simp only [betterS, Bool.or_eq_false_iff, decide_eq_false_iff_not, Bool.and_eq_false_iff, beq_eq_false_iff_ne] at g1
    rcases h1 with rfl | ⟨m, h1, hcb⟩
    · have : c.length = 0 := by simp at g1; simp [g1]
      exact (List.length_eq_zero_iff.1 this).symm
    · have hrb : Ris l.length b := by rw [h1]; exact bitsS_ris m l.length
      have g2 := hbest b hrb (hlen b hrb) hcb
      simp only [betterS, Bool.or_eq_false_iff, decide_eq_false_iff_not, Bool.and_eq_false_iff, beq_eq_false_iff_ne] at g2
      have hle : b.length = c.length := by omega
      refine aheadS_tri hle ?_ ?_
      · rcases g2.2 with g | g
        · exact absurd hle g
        · exact g
      · rcases g1.2 with g | g
        · exact absurd hle.symm g
        · exact g
end Go.Sh.C3
end
section
namespace Go.Sh.C3
open Go.Sh
set_option maxRecDepth 10000
set_option linter.unusedVariables false
set_option linter.unusedSimpArgs false
variable {P : Program}

theorem bestR_eq (l : List Sag) : bestR l = mostR l := by
  unfold bestR mostR
  split
  · exact best_most l
  · rfl
theorem bestR_len (l : List Sag) : (bestR l).length ≤ 1000000 := by
  unfold bestR
  split
  · rename_i h
    have := bestS_len l (2 ^ l.length)
    omega
  · simp
theorem ok_rMost (hm : P.follows .mixedOrders = true) {f f0 f1 f2 f3 f4 : Nat} (low : Low_potbankref03_Most P f f0 f1 f2 f3 f4) (h0 : C_CheckList P f0) (h1 : C_chosen P f1) (h2 : C_stacked P f2) (h3 : C_rcanStand P f3) (h4 : C_Ahead P f4) : C_Most P f := fun l => by
  rw [← bestR_eq]; exact mostRef hm low h0 h1 h2 h3 h4 l
def L_BungMosts (P : Program) (f : Nat) : Prop := ∀ l : List Sag, Snd P f [.fsl (l.map Sag.c)] [] (.b true) []
theorem ok_BungMosts (hm : P.follows .mixedOrders = true) {f f0 f1 f2 f3 : Nat} (low : Low_potbanklaw03_BungMosts P f f0 f1 f2 f3) (h0 : C_sane P f0) (h1 : C_Most P f1) (h2 : C_Most P f2) (h3 : C_Same P f3) : L_BungMosts P f := by
  intro l
  have hl := bestR_len l
  rw [bestR_eq] at hl
  refine snd_ic hm low (by simp) ?_
  unfold ic_potbanklaw03_BungMosts
  simp -dsimp -implicitDefEqProofs only [qq, Nat.reduceBEq, reduceIte, Nat.reduceAdd, Nat.reduceSub, Nat.reduceLeDiff, Nat.reduceLT, Nat.reduceMul, Nat.reduceEqDiff, Int.reduceEq, Int.reduceBEq, Int.reduceBNe, Int.reduceLT, Int.reduceLE, Int.reduceGT, Int.reduceGE, Int.reduceNeg, Int.reduceAdd, Int.reduceSub, reduceCtorEq, List.reduceReplicate, ← List.map_take, ← List.map_drop]
  refine callI_pure h0 rfl rfl ?_
  simp -dsimp -implicitDefEqProofs only [qq, Nat.reduceBEq, reduceIte, Nat.reduceAdd, Nat.reduceSub, Nat.reduceLeDiff, Nat.reduceLT, Nat.reduceMul, Nat.reduceEqDiff, Int.reduceEq, Int.reduceBEq, Int.reduceBNe, Int.reduceLT, Int.reduceLE, Int.reduceGT, Int.reduceGE, Int.reduceNeg, Int.reduceAdd, Int.reduceSub, reduceCtorEq, List.reduceReplicate, ← List.map_take, ← List.map_drop]
  refine callI_pure (h1 l) rfl rfl ?_
  simp -dsimp -implicitDefEqProofs only [qq, Nat.reduceBEq, reduceIte, Nat.reduceAdd, Nat.reduceSub, Nat.reduceLeDiff, Nat.reduceLT, Nat.reduceMul, Nat.reduceEqDiff, Int.reduceEq, Int.reduceBEq, Int.reduceBNe, Int.reduceLT, Int.reduceLE, Int.reduceGT, Int.reduceGE, Int.reduceNeg, Int.reduceAdd, Int.reduceSub, reduceCtorEq, List.reduceReplicate, ← List.map_take, ← List.map_drop]
  refine callI_pure (h2 l) rfl rfl ?_
  simp -dsimp -implicitDefEqProofs only [qq, Nat.reduceBEq, reduceIte, Nat.reduceAdd, Nat.reduceSub, Nat.reduceLeDiff, Nat.reduceLT, Nat.reduceMul, Nat.reduceEqDiff, Int.reduceEq, Int.reduceBEq, Int.reduceBNe, Int.reduceLT, Int.reduceLE, Int.reduceGT, Int.reduceGE, Int.reduceNeg, Int.reduceAdd, Int.reduceSub, reduceCtorEq, List.reduceReplicate, ← List.map_take, ← List.map_drop]
  refine callI_pure (h3 _ _ (by omega)) rfl rfl ?_
  simp -dsimp -implicitDefEqProofs only [qq, Nat.reduceBEq, reduceIte, Nat.reduceAdd, Nat.reduceSub, Nat.reduceLeDiff, Nat.reduceLT, Nat.reduceMul, Nat.reduceEqDiff, Int.reduceEq, Int.reduceBEq, Int.reduceBNe, Int.reduceLT, Int.reduceLE, Int.reduceGT, Int.reduceGE, Int.reduceNeg, Int.reduceAdd, Int.reduceSub, reduceCtorEq, List.reduceReplicate, ← List.map_take, ← List.map_drop]
  exact Ends.plain rfl rfl rfl
end Go.Sh.C3
end
section
namespace Go.Sh
open Go.Proofs Go.Sort Go.Shelf Go.RowKit Go.Lib
variable {P : Program} {ρ : Ren}
theorem sortsI_of (L : SlLaysF.n6 P ρ) (hf : isFn P (ρ.f 6)) : SortsI P (ρ.f 6) :=
  ⟨hf, fun p cap fv w => AnyF.slices_SortFunc_none { L with } p cap fv w, fun enc h1 cf hO g cb blk off cap d w eg hcmp hH hblk hsz hT => Any.slices_SortFunc_total L enc h1 cf hO g cb blk off cap d w eg hcmp hH hblk hsz hT⟩
end Go.Sh
end
section
namespace Go.Proofs
open Go.Shelf
def Try.sortInt_ren : Go.Shelf.Ren := ⟨fun | 6 => 133 | 15 => 148 | 14 => 147 | 28 => 158 | 29 => 159 | 20 => 150 | 21 => 151 | 22 => 152 | 23 => 153 | 24 => 154 | 25 => 155 | 26 => 156 | 27 => 157 | 46 => 160 | 47 => 161 | 48 => 162 | 49 => 163 | 50 => 164 | 57 => 165 | n => n, fun | 22 => 38 | 24 => 3 | 25 => 49 | 3 => 3 | 39 => 172 | 0 => 0 | 53 => 183 | 55 => 185 | 4 => 4 | 46 => 176 | 45 => 175 | 50 => 180 | 5 => 5 | 9 => 9 | 66 => 186 | 70 => 190 | 76 => 192 | 77 => 193 | n => n, fun | n => n⟩
theorem Try.sortInt : Go.Proofs.SlLaysF.n6 Try.prog Try.sortInt_ren := {
  mixed := by kernel_rfl
  f6 := ⟨Try.f133.name, by decide, Try.func133.trans (congrArg some (by kernel_rfl))⟩
  f14 := ⟨Try.f147.name, by decide, Try.func147.trans (congrArg some (by kernel_rfl))⟩
  f15 := Try.func148.trans (congrArg some (by kernel_rfl))
  f20 := ⟨Try.f150.name, by decide, Try.func150.trans (congrArg some (by kernel_rfl))⟩
  f21 := ⟨Try.f151.name, by decide, Try.func151.trans (congrArg some (by kernel_rfl))⟩
  f22 := ⟨Try.f152.name, by decide, Try.func152.trans (congrArg some (by kernel_rfl))⟩
  f23 := ⟨Try.f153.name, by decide, Try.func153.trans (congrArg some (by kernel_rfl))⟩
  f24 := ⟨Try.f154.name, by decide, Try.func154.trans (congrArg some (by kernel_rfl))⟩
  f25 := ⟨Try.f155.name, by decide, Try.func155.trans (congrArg some (by kernel_rfl))⟩
  f26 := ⟨Try.f156.name, by decide, Try.func156.trans (congrArg some (by kernel_rfl))⟩
  f27 := ⟨Try.f157.name, by decide, Try.func157.trans (congrArg some (by kernel_rfl))⟩
  f28 := Try.func158.trans (congrArg some (by kernel_rfl))
  f29 := Try.func159.trans (congrArg some (by kernel_rfl))
  f46 := ⟨Try.f160.name, by decide, Try.func160.trans (congrArg some (by kernel_rfl))⟩
  f47 := Try.func161.trans (congrArg some (by kernel_rfl))
  f48 := Try.func162.trans (congrArg some (by kernel_rfl))
  f49 := ⟨Try.f163.name, by decide, Try.func163.trans (congrArg some (by kernel_rfl))⟩
  f50 := ⟨Try.f164.name, by decide, Try.func164.trans (congrArg some (by kernel_rfl))⟩
  f57 := ⟨Try.f165.name, by decide, Try.func165.trans (congrArg some (by kernel_rfl))⟩
  t0 := Try.underlying0
  a0 := Try.isAgg0
  z0 := Try.sizeOf0
  v0 := Try.zeroValue0
  t3 := Try.underlying3
  a3 := Try.isAgg3
  z3 := Try.sizeOf3
  v3 := Try.zeroValue3
  t4 := Try.underlying4
  a4 := Try.isAgg4
  z4 := Try.sizeOf4
  v4 := Try.zeroValue4
  t5 := Try.underlying5
  a5 := Try.isAgg5
  z5 := Try.sizeOf5
  v5 := Try.zeroValue5
  t9 := Try.underlying9
  a9 := Try.isAgg9
  z9 := Try.sizeOf9
  v9 := Try.zeroValue9
  t22 := Try.underlying38
  a22 := Try.isAgg38
  z22 := Try.sizeOf38
  v22 := Try.zeroValue38
  a24 := Try.isAgg3
  z24 := Try.sizeOf3
  t25 := Try.underlying49
  a25 := Try.isAgg49
  z25 := Try.sizeOf49
  v25 := Try.zeroValue49
  t39 := Try.underlying172
  a39 := Try.isAgg172
  z39 := Try.sizeOf172
  v39 := Try.zeroValue172
  t45 := Try.underlying175
  a45 := Try.isAgg175
  z45 := Try.sizeOf175
  v45 := Try.zeroValue175
  t46 := Try.underlying176
  a46 := Try.isAgg176
  z46 := Try.sizeOf176
  v46 := Try.zeroValue176
  t50 := Try.underlying180
  a50 := Try.isAgg180
  z50 := Try.sizeOf180
  v50 := Try.zeroValue180
  t53 := Try.underlying183
  a53 := Try.isAgg183
  z53 := Try.sizeOf183
  v53 := Try.zeroValue183
  t55 := Try.underlying185
  a55 := Try.isAgg185
  z55 := Try.sizeOf185
  v55 := Try.zeroValue185
  t66 := Try.underlying186
  a66 := Try.isAgg186
  z66 := Try.sizeOf186
  v66 := Try.zeroValue186
  t70 := Try.underlying190
  a70 := Try.isAgg190
  z70 := Try.sizeOf190
  v70 := Try.zeroValue190
  t76 := Try.underlying192
  a76 := Try.isAgg192
  z76 := Try.sizeOf192
  v76 := Try.zeroValue192
  t77 := Try.underlying193
  a77 := Try.isAgg193
  z77 := Try.sizeOf193
  v77 := Try.zeroValue193 }
end Go.Proofs
end
section
namespace Go.Sh.C3
open Go.Sh Go.Proofs
set_option maxRecDepth 100000
set_option linter.unusedVariables false
theorem mixed : Try.prog.follows .mixedOrders = true := by kernel_rfl
theorem low_16 : lowF Try.prog 16 = some (32, [.tmp 2], (ic_potbanklaw03_BungMosts 19 71 72 40).erase) := by kernel_rfl
theorem low_19 : lowF Try.prog 19 = some (146, [.tmp 0], (ic_potbanklaw03_sane 75 59 32 24 26 53 20 39 22 40).erase) := by kernel_rfl
theorem low_75 : lowF Try.prog 75 = some (14, [.tmp 0], (ic_potbanklaw03_example).erase) := by kernel_rfl
theorem c_C_example_75 : C_example Try.prog 75 := ok_example mixed low_75
theorem low_59 : lowF Try.prog 59 = some (53, [.cell 6 (some 3), .tmp 7], (ic_bung_Set 110 94 111 112).erase) := by kernel_rfl
theorem low_110 : lowF Try.prog 110 = some (5, [.tmp 2], (ic_bung_isWad 139).erase) := by kernel_rfl
theorem low_139 : lowF Try.prog 139 = some (24, [.tmp 6], (ic_bung_isRange).erase) := by kernel_rfl
theorem c_C_isRange_139 : C_isRange Try.prog 139 := ok_isRange mixed low_139
theorem c_C_isWad_110 : C_isWad Try.prog 110 := ok_isWad mixed low_110 c_C_isRange_139
theorem low_94 : lowF Try.prog 94 = some (29, [.tmp 2], (ic_bung_isList 100).erase) := by kernel_rfl
theorem low_100 : lowF Try.prog 100 = some (26, [.tmp 2], (ic_bung_isSaggar 111 139).erase) := by kernel_rfl
theorem low_111 : lowF Try.prog 111 = some (15, [.tmp 6], (ic_bung_within).erase) := by kernel_rfl
theorem c_C_within_111 : C_within Try.prog 111 := ok_within mixed low_111
theorem c_C_isSaggar_100 : C_isSaggar Try.prog 100 := ok_isSaggar mixed low_100 c_C_within_111 c_C_isRange_139
theorem c_C_isList_94 : C_isList Try.prog 94 := ok_isList mixed low_94 c_C_isSaggar_100
theorem low_112 : lowF Try.prog 112 = some (23, [.tmp 4], (ic_bung_stacked).erase) := by kernel_rfl
theorem c_C_stacked_112 : C_stacked Try.prog 112 := ok_stacked mixed low_112
theorem c_C_Set_59 : C_Set Try.prog 59 := ok_Set mixed low_59 c_C_isWad_110 c_C_isList_94 c_C_within_111 c_C_stacked_112
theorem low_32 : lowF Try.prog 32 = some (10, [.tmp 2, .tmp 3], (ic_bung_Loads 80 88).erase) := by kernel_rfl
theorem low_80 : lowF Try.prog 80 = some (17, [.tmp 2], (ic_bung_isBung 110 94).erase) := by kernel_rfl
theorem c_C_isBung_80 : C_isBung Try.prog 80 := ok_isBung mixed low_80 c_C_isWad_110 c_C_isList_94
theorem low_88 : lowF Try.prog 88 = some (18, [.tmp 2], (ic_bung_loads 130).erase) := by kernel_rfl
theorem low_130 : lowF Try.prog 130 = some (4, [.tmp 2], (ic_bung_down 145).erase) := by kernel_rfl
theorem low_145 : lowF Try.prog 145 = some (25, [], (ic_bung_down_1 129).erase) := by kernel_rfl
theorem low_129 : lowF Try.prog 129 = some (26, [.cell 2 (some 2)], (ic_bung_sum).erase) := by kernel_rfl
theorem c_C_sum_129 : C_sum Try.prog 129 := ok_sum mixed low_129
theorem c_C_down_130 : C_down Try.prog 130 := ok_down mixed low_130 low_145 c_C_sum_129
theorem c_C_loads_88 : C_loads Try.prog 88 := ok_loads mixed low_88 c_C_down_130
theorem c_C_Loads_32 : C_Loads Try.prog 32 := ok_Loads mixed low_32 c_C_isBung_80 c_C_loads_88
theorem low_24 : lowF Try.prog 24 = some (11, [.tmp 2, .tmp 3], (ic_bung_Stands 80 82 81).erase) := by kernel_rfl
theorem low_82 : lowF Try.prog 82 = some (26, [.tmp 2], (ic_bung_courses 88 128).erase) := by kernel_rfl
theorem low_128 : lowF Try.prog 128 = some (17, [.tmp 4], (ic_bung_answer).erase) := by kernel_rfl
theorem c_C_answer_128 : C_answer Try.prog 128 := ok_answer mixed low_128
theorem c_C_courses_82 : C_courses Try.prog 82 := ok_courses mixed low_82 c_C_loads_88 c_C_answer_128
theorem low_81 : lowF Try.prog 81 = some (9, [.tmp 2], (ic_bung_all 127).erase) := by kernel_rfl
theorem low_127 : lowF Try.prog 127 = some (9, [.tmp 4], (ic_slices_Contains_Sint_int 144).erase) := by kernel_rfl
theorem low_144 : lowF Try.prog 144 = some (19, [.tmp 4], (ic_slices_Index_Sint_int).erase) := by kernel_rfl
theorem c_C_Index_144 : C_Index Try.prog 144 := ok_Index mixed low_144
theorem c_C_Contains_127 : C_Contains Try.prog 127 := ok_Contains mixed low_127 c_C_Index_144
theorem c_C_all_81 : C_all Try.prog 81 := ok_all mixed low_81 c_C_Contains_127
theorem c_C_Stands_24 : C_Stands Try.prog 24 := ok_Stands mixed low_24 c_C_isBung_80 c_C_courses_82 c_C_all_81
theorem low_26 : lowF Try.prog 26 = some (9, [.tmp 2, .tmp 3], (ic_bung_Lean 80 84).erase) := by kernel_rfl
theorem low_84 : lowF Try.prog 84 = some (41, [.tmp 2], (ic_bung_lean).erase) := by kernel_rfl
theorem c_C_lean_84 : C_lean Try.prog 84 := ok_lean mixed low_84
theorem c_C_Lean_26 : C_Lean Try.prog 26 := ok_Lean mixed low_26 c_C_isBung_80 c_C_lean_84
theorem low_53 : lowF Try.prog 53 = some (55, [.cell 2 (some 3), .tmp 3], (ic_bung_Breaks 80 82).erase) := by kernel_rfl
theorem c_C_Breaks_53 : C_Breaks Try.prog 53 := ok_Breaks mixed low_53 c_C_isBung_80 c_C_courses_82
theorem low_20 : lowF Try.prog 20 = some (45, [.tmp 6, .tmp 7], (ic_bung_Fewest 76 77).erase) := by kernel_rfl
theorem low_76 : lowF Try.prog 76 = some (19, [.tmp 6], (ic_bung_asked 110 94 85).erase) := by kernel_rfl
theorem low_85 : lowF Try.prog 85 = some (11, [.tmp 2], (ic_bung_isSpot 111).erase) := by kernel_rfl
theorem c_C_isSpot_85 : C_isSpot Try.prog 85 := ok_isSpot mixed low_85 c_C_within_111
theorem c_C_asked_76 : C_asked Try.prog 76 := ok_asked mixed low_76 c_C_isWad_110 c_C_isList_94 c_C_isSpot_85
theorem low_77 : lowF Try.prog 77 = some (69, [.tmp 8], (ic_bung_packer_pack 124 125 126 77).erase) := by kernel_rfl
theorem low_124 : lowF Try.prog 124 = some (8, [.tmp 2], (ic_slices_Clone_SSint_Sint).erase) := by kernel_rfl
theorem c_C_CloneR_124 : C_CloneR Try.prog 124 := ok_CloneR mixed low_124
theorem low_125 : lowF Try.prog 125 = some (8, [.tmp 2], (ic_slices_Clone_Sint_int).erase) := by kernel_rfl
theorem c_C_CloneI_125 : C_CloneI Try.prog 125 := ok_CloneI mixed low_125
theorem low_126 : lowF Try.prog 126 = some (36, [.tmp 4], (ic_bung_packer_known 107).erase) := by kernel_rfl
theorem low_107 : lowF Try.prog 107 = some (19, [.tmp 4], (ic_bung_packer_do 95 112 86).erase) := by kernel_rfl
theorem low_95 : lowF Try.prog 95 = some (14, [.tmp 4], (ic_bung_rule 132 125 134 133).erase) := by kernel_rfl
theorem isFn_134 : isFn Try.prog 134 := ⟨_, Try.func134, by kernel_rfl, by kernel_rfl⟩
theorem low_132 : lowF Try.prog 132 = some (17, [.tmp 3], (ic_bung_rule_1).erase) := by kernel_rfl
theorem c_C_strong_132 : C_strong Try.prog 132 := ok_strong mixed low_132
theorem low_134 : lowF Try.prog 134 = some (27, [.tmp 6], (ic_bung_rule_2 136 135).erase) := by kernel_rfl
theorem low_136 : lowF Try.prog 136 = some (20, [.tmp 4], (ic_cmp_Compare_int 149).erase) := by kernel_rfl
theorem low_149 : lowF Try.prog 149 = some (6, [.tmp 2], (ic_cmp_isNaN_int).erase) := by kernel_rfl
theorem c_C_isNaN_149 : C_isNaN Try.prog 149 := ok_isNaN mixed low_149
theorem c_C_Compare_136 : C_Compare Try.prog 136 := ok_Compare mixed low_136 c_C_isNaN_149
theorem low_135 : lowF Try.prog 135 = some (18, [.tmp 2], (ic_cmp_Or_int).erase) := by kernel_rfl
theorem c_C_Or_135 : C_Or Try.prog 135 := ok_Or mixed low_135
theorem c_C_order_134_132 : C_order Try.prog 134 132 := ok_order mixed low_134 c_C_Compare_136 c_C_Or_135 c_C_strong_132
theorem isFn_133 : isFn Try.prog 133 := ⟨_, Try.func133, by kernel_rfl, by kernel_rfl⟩
theorem c_C_rule_95 : C_rule Try.prog 95 := ok_rule mixed low_95 isFn_134 c_C_strong_132 c_C_CloneI_125 c_C_order_134_132 (sortsI_of Try.sortInt isFn_133)
theorem low_86 : lowF Try.prog 86 = some (40, [.tmp 4], (ic_bung_fits 83 82 81 84).erase) := by kernel_rfl
theorem low_83 : lowF Try.prog 83 = some (29, [.cell 2 (some 2)], (ic_bung_height 129).erase) := by kernel_rfl
theorem c_C_height_83 : C_height Try.prog 83 := ok_height mixed low_83 c_C_sum_129
theorem c_C_fits_86 : C_fits Try.prog 86 := ok_fits mixed low_86 c_C_height_83 c_C_courses_82 c_C_all_81 c_C_lean_84
theorem c_C_do_107 : C_do Try.prog 107 := ok_do mixed low_107 c_C_rule_95 c_C_stacked_112 c_C_fits_86
theorem c_C_known_126 : C_known Try.prog 126 := ok_known' mixed low_126 c_C_do_107
theorem c_C_pack_77 : C_pack Try.prog 77 := ok_pack mixed low_77 c_C_CloneR_124 c_C_CloneI_125 c_C_known_126
theorem c_C_Fewest_20 : C_Fewest Try.prog 20 := ok_Fewest mixed low_20 c_C_asked_76 c_C_pack_77
theorem low_39 : lowF Try.prog 39 = some (31, [.tmp 4], (ic_potbankref03_SameRanges).erase) := by kernel_rfl
theorem c_C_SameRanges_39 : C_SameRanges Try.prog 39 := ok_SameRanges mixed low_39
theorem low_22 : lowF Try.prog 22 = some (31, [.tmp 4], (ic_potbankref03_SameParts 40).erase) := by kernel_rfl
theorem low_40 : lowF Try.prog 40 = some (26, [.tmp 4], (ic_potbankref01_Same).erase) := by kernel_rfl
theorem c_C_Same_40 : C_Same Try.prog 40 := ok_Same mixed low_40
theorem c_C_SameParts_22 : C_SameParts Try.prog 22 := ok_SameParts mixed low_22 c_C_Same_40
theorem c_C_sane_19 : C_sane Try.prog 19 := ok_sane mixed low_19 c_C_example_75 c_C_Set_59 c_C_Loads_32 c_C_Stands_24 c_C_Lean_26 c_C_Breaks_53 c_C_Fewest_20 c_C_SameRanges_39 c_C_SameParts_22 c_C_Same_40
theorem low_71 : lowF Try.prog 71 = some (31, [.tmp 2, .tmp 3], (ic_bung_Most 94 121 98).erase) := by kernel_rfl
theorem low_121 : lowF Try.prog 121 = some (6, [.tmp 4], (ic_bung_choices 142).erase) := by kernel_rfl
theorem low_142 : lowF Try.prog 142 = some (8, [], (ic_bung_choices_1 143).erase) := by kernel_rfl
theorem low_143_s1 : lowF Try.prog 143 1 = some (40, [.tmp 6], (ic_bung_choices_1_1_s1 125).erase) := by kernel_rfl
theorem c_C_CloneT_125 : C_CloneT Try.prog 125 := ok_CloneT mixed low_125
theorem c_C_choices_121 : C_choices Try.prog 121 := ok_choices mixed low_121 low_142 low_143_s1 c_C_CloneT_125
theorem low_98 : lowF Try.prog 98 = some (11, [.tmp 4], (ic_bung_can 95 112 138).erase) := by kernel_rfl
theorem low_138 : lowF Try.prog 138 = some (7, [.tmp 2], (ic_bung_stands 82 81).erase) := by kernel_rfl
theorem c_C_stands_138 : C_stands Try.prog 138 := ok_stands mixed low_138 c_C_courses_82 c_C_all_81
theorem c_C_can_98 : C_can Try.prog 98 := ok_can mixed low_98 c_C_rule_95 c_C_stacked_112 c_C_stands_138
theorem c_C_Most_71 : C_Most Try.prog 71 := ok_Most mixed low_71 c_C_isList_94 c_C_choices_121 c_C_can_98
theorem low_72 : lowF Try.prog 72 = some (49, [.tmp 2, .tmp 3], (ic_potbankref03_Most 50 122 115 99 123).erase) := by kernel_rfl
theorem low_50 : lowF Try.prog 50 = some (30, [.tmp 2], (ic_potbankref03_CheckList 46 104).erase) := by kernel_rfl
theorem low_46 : lowF Try.prog 46 = some (31, [.tmp 2], (ic_potbankref03_CheckSaggar 101 102).erase) := by kernel_rfl
theorem low_101 : lowF Try.prog 101 = some (15, [.tmp 6], (ic_potbankref03_In).erase) := by kernel_rfl
theorem c_C_within_101 : C_within Try.prog 101 := ok_rIn mixed low_101
theorem low_102 : lowF Try.prog 102 = some (24, [.tmp 6], (ic_potbankref03_part).erase) := by kernel_rfl
theorem c_C_isRange_102 : C_isRange Try.prog 102 := ok_rpart mixed low_102
theorem c_C_CheckSaggar_46 : C_CheckSaggar Try.prog 46 := ok_rCheckSaggar mixed low_46 c_C_within_101 c_C_isRange_102
theorem low_104 : lowF Try.prog 104 = some (19, [.tmp 4], (ic_potbankref03_has).erase) := by kernel_rfl
theorem c_C_has_104 : C_has Try.prog 104 := ok_has mixed low_104
theorem c_C_CheckList_50 : C_CheckList Try.prog 50 := ok_rCheckList mixed low_50 c_C_CheckSaggar_46 c_C_has_104
theorem low_122 : lowF Try.prog 122 = some (22, [.tmp 4], (ic_potbankref03_chosen).erase) := by kernel_rfl
theorem c_C_chosen_122 : C_chosen Try.prog 122 := ok_chosen mixed low_122
theorem low_115 : lowF Try.prog 115 = some (24, [.tmp 4], (ic_potbankref03_some).erase) := by kernel_rfl
theorem c_C_stacked_115 : C_stacked Try.prog 115 := ok_some mixed low_115
theorem low_99 : lowF Try.prog 99 = some (9, [.tmp 2], (ic_potbankref03_canStand 97 115 91).erase) := by kernel_rfl
theorem low_97 : lowF Try.prog 97 = some (45, [.tmp 2], (ic_potbankref03_rule 137).erase) := by kernel_rfl
theorem low_137 : lowF Try.prog 137 = some (36, [.tmp 4], (ic_potbankref03_lower).erase) := by kernel_rfl
theorem c_C_lower_137 : C_lower Try.prog 137 := ok_lower mixed low_137
theorem c_C_rrule_97 : C_rrule Try.prog 97 := ok_rrule mixed low_97 c_C_lower_137
theorem low_91 : lowF Try.prog 91 = some (20, [.tmp 2], (ic_potbankref03_stands 90).erase) := by kernel_rfl
theorem low_90 : lowF Try.prog 90 = some (27, [.tmp 4], (ic_potbankref03_answer 89).erase) := by kernel_rfl
theorem low_89 : lowF Try.prog 89 = some (36, [.cell 4 (some 2)], (ic_potbankref03_load).erase) := by kernel_rfl
theorem c_C_rload_89 : C_rload Try.prog 89 := ok_rload mixed low_89
theorem c_C_ranswer_90 : C_ranswer Try.prog 90 := ok_ranswer mixed low_90 c_C_rload_89
theorem c_C_rstands_91 : C_rstands Try.prog 91 := ok_rstands mixed low_91 c_C_ranswer_90
theorem c_C_rcanStand_99 : C_rcanStand Try.prog 99 := ok_rcanStand mixed low_99 c_C_rrule_97 c_C_stacked_115 c_C_rstands_91
theorem low_123 : lowF Try.prog 123 = some (41, [.tmp 4], (ic_potbankref03_Ahead).erase) := by kernel_rfl
theorem c_C_Ahead_123 : C_Ahead Try.prog 123 := ok_Ahead mixed low_123
theorem c_C_Most_72 : C_Most Try.prog 72 := ok_rMost mixed low_72 c_C_CheckList_50 c_C_chosen_122 c_C_stacked_115 c_C_rcanStand_99 c_C_Ahead_123
theorem c_L_BungMosts_16 : L_BungMosts Try.prog 16 := ok_BungMosts mixed low_16 c_C_sane_19 c_C_Most_71 c_C_Most_72 c_C_Same_40
theorem isFn_16 : isFn Try.prog 16 := ⟨_, Try.func16, by kernel_rfl, by kernel_rfl⟩
end Go.Sh.C3
end
