/- The calculus over shadows, and contracts: B5J, B7A, B7B, B7C, B7D, B8A, B4C, B7E, B5B, B5C, B8B, ShSp, TryShelfP, S3BungWithout. -/
import Derived.Test.YthaiheabibapiaaK4
import Derived.Shelf.SlSortCmp.NoneTotal
import Derived.Shelf.SlLaysF
import Derived.Shelf.SlGeneric
import Derived.Ground.SlsfProg
import Derived.Test.YthaiheabibapiaaProg
set_option linter.all false
section
namespace Go.Sh.C3
open Go.Sh
set_option maxRecDepth 10000
set_option linter.unusedVariables false
set_option linter.unusedSimpArgs false
variable {P : Program}
def ic_potbankref03_given : IC := .seq (.reg [⟨some 6, none, .mov (.c (.nsl))⟩] [0, 1, 2]) (.seq (.reg [⟨some 7, none, .mov (.c (.nsl))⟩] [0, 1, 2, 7]) (.seq (.seq (.reg [⟨some 8, none, .mov (.c (.i .i64 (0)))⟩] [0, 1, 2, 7, 8]) (.block 0 (.loop (.seq (.seq (.reg [⟨some 9, none, .mov (.t 8)⟩, ⟨some 10, none, .mov (.t 0)⟩, ⟨some 11, none, .len false (.t 10)⟩, ⟨some 12, none, .bin .lss (.t 9) (.t 11)⟩] [0, 1, 2, 7, 8, 12]) (.cond (.t 12) (.skip) (.exit 0))) (.seq (.block 1 (.reg [⟨some 15, none, .mov (.t 7)⟩, ⟨some 16, none, .bsl false 1 0 [.i .i64 (0)] []⟩, ⟨some 17, none, .mov (.t 0)⟩, ⟨some 18, none, .mov (.t 8)⟩, ⟨some 19, none, .ixs 1 (.t 17) (.t 18)⟩, ⟨some 20, none, .ld none (.t 19)⟩, ⟨some 21, none, .app 1 8 (.t 16) (.t 20)⟩, ⟨some 22, none, .bsl false 1 1 [.nsl] [(0, (.t 21))]⟩, ⟨some 23, none, .app 1 24 (.t 15) (.t 22)⟩, ⟨some 7, none, .mov (.t 23)⟩] [0, 1, 2, 7, 8])) (.reg [⟨some 13, none, .mov (.t 8)⟩, ⟨some 14, none, .bin .add (.t 13) (.c (.i .i64 (1)))⟩, ⟨some 8, none, .mov (.t 14)⟩] [0, 1, 2, 7, 8])))))) (.seq (.seq (.reg [⟨some 24, none, .mov (.t 1)⟩, ⟨some 25, none, .mov (.t 7)⟩, ⟨some 26, none, .len false (.t 25)⟩, ⟨some 27, none, .bin .eql (.t 24) (.t 26)⟩] [1, 2, 7, 27]) (.cond (.t 27) (.reg [⟨some 28, none, .mov (.t 7)⟩, ⟨some 29, none, .bsl false 1 1 [.nsl] [(0, (.c (.nsl)))]⟩, ⟨some 30, none, .app 1 24 (.t 28) (.t 29)⟩, ⟨some 7, none, .mov (.t 30)⟩] [1, 2, 7]) (.skip))) (.seq (.reg [⟨some 31, none, .mov (.t 7)⟩, ⟨some 32, none, .mov (.t 1)⟩, ⟨some 33, none, .mov (.t 7)⟩, ⟨some 34, none, .mov (.t 1)⟩, ⟨some 35, none, .ixs 1 (.t 33) (.t 34)⟩, ⟨some 36, none, .ld none (.t 35)⟩, ⟨some 37, none, .mov (.t 2)⟩, ⟨some 38, none, .bsl false 1 1 [.i .i64 (0)] [(0, (.t 37))]⟩, ⟨some 39, none, .app 1 8 (.t 36) (.t 38)⟩, ⟨some 40, none, .ixs 1 (.t 31) (.t 32)⟩, ⟨none, none, .st 1 (.t 40) (.t 39)⟩] [7]) (.seq (.reg [⟨some 41, none, .mov (.t 7)⟩, ⟨some 6, none, .mov (.t 41)⟩] [6]) (.ret))))))
abbrev Low_potbankref03_given (P : Program) (f : Nat) : Prop := lowF P f = some (42, [.tmp 6], (ic_potbankref03_given).erase)
def ic_potbankref03_parted (f0 f1 f2 : Nat) : IC := .seq (.reg [⟨some 3, none, .box (.t 0)⟩, ⟨some 6, none, .mov (.c (.nsl))⟩, ⟨some 7, none, .mov (.c (.b false))⟩] [1, 2, 3]) (.seq (.reg [⟨some 8, none, .mov (.c (.i .i64 (0)))⟩] [1, 2, 3, 8]) (.seq (.seq (.reg [⟨some 9, none, .mov (.c (.i .i64 (0)))⟩] [1, 2, 3, 8, 9]) (.block 0 (.loop (.seq (.seq (.reg [⟨some 13, none, .mov (.t 9)⟩, ⟨some 14, none, .mov (.t 1)⟩, ⟨some 15, none, .len false (.t 14)⟩, ⟨some 16, none, .bin .lss (.t 13) (.t 15)⟩] [1, 2, 3, 8, 9, 16]) (.cond (.t 16) (.skip) (.exit 0))) (.seq (.block 1 (.reg [⟨some 19, none, .mov (.t 8)⟩, ⟨some 20, none, .mov (.t 1)⟩, ⟨some 21, none, .mov (.t 9)⟩, ⟨some 22, none, .ixs 1 (.t 20) (.t 21)⟩, ⟨some 23, none, .ld none (.t 22)⟩, ⟨some 24, none, .len false (.t 23)⟩, ⟨some 25, none, .bin .add (.t 19) (.t 24)⟩, ⟨some 8, none, .mov (.t 25)⟩] [1, 2, 3, 8, 9])) (.reg [⟨some 17, none, .mov (.t 9)⟩, ⟨some 18, none, .bin .add (.t 17) (.c (.i .i64 (1)))⟩, ⟨some 9, none, .mov (.t 18)⟩] [1, 2, 3, 8, 9])))))) (.seq (.seq (.reg [⟨some 26, none, .mov (.t 8)⟩, ⟨some 27, none, .fad 2 (.t 3)⟩, ⟨some 28, none, .ld none (.t 27)⟩, ⟨some 29, none, .len false (.t 28)⟩, ⟨some 30, none, .bin .eql (.t 26) (.t 29)⟩] [1, 2, 3, 8, 30]) (.cond (.t 30) (.seq (.reg [⟨some 31, none, .mov (.t 1)⟩, ⟨some 32, none, .ld (some 5) (.t 3)⟩, ⟨some 33, none, .mov (.t 1)⟩, ⟨some 34, none, .calv (.c (.fn (.func f0) [] [])) [.t 32, .t 33]⟩, ⟨some 6, none, .mov (.t 31)⟩, ⟨some 7, none, .mov (.t 34)⟩] [6, 7]) (.ret)) (.skip))) (.seq (.seq (.reg [⟨some 10, none, .mov (.c (.i .i64 (0)))⟩] [1, 2, 3, 8, 10]) (.block 2 (.loop (.seq (.seq (.reg [⟨some 35, none, .mov (.t 10)⟩, ⟨some 36, none, .mov (.t 1)⟩, ⟨some 37, none, .len false (.t 36)⟩, ⟨some 38, none, .bin .leq (.t 35) (.t 37)⟩, ⟨some 39, none, .mov (.t 38)⟩, ⟨some 40, some (39, true), .mov (.t 10)⟩, ⟨some 41, some (39, true), .mov (.t 2)⟩, ⟨some 42, some (39, true), .bin .lss (.t 40) (.t 41)⟩, ⟨some 43, none, .pick (.t 39) (.t 42) (.c (.b false))⟩] [1, 2, 3, 8, 10, 43]) (.cond (.t 43) (.skip) (.exit 2))) (.seq (.block 3 (.seq (.drg [(0, ⟨some 47, none, .ld (some 5) (.t 3)⟩), (0, ⟨some 48, none, .mov (.t 1)⟩), (0, ⟨some 49, none, .mov (.t 10)⟩), (0, ⟨some 50, none, .mov (.t 8)⟩), (0, ⟨some 51, none, .calv (.c (.fn (.func f1) [] [])) [.t 48, .t 49, .t 50]⟩), (0, ⟨some 52, none, .mov (.t 2)⟩), (0, ⟨some 53, none, .calv (.c (.fn (.func f2) [] [])) [.t 47, .t 51, .t 52]⟩), (0, ⟨some 46, none, .mov (.t 53)⟩), (0, ⟨some 54, none, .ext (.t 46) 0⟩), (0, ⟨some 55, none, .ext (.t 46) 1⟩), (0, ⟨some 11, none, .mov (.t 54)⟩), (0, ⟨some 12, none, .mov (.t 55)⟩)] 11 [1, 2, 3, 8, 10, 11, 12]) (.seq (.reg [⟨some 56, none, .mov (.t 12)⟩] [1, 2, 3, 8, 10, 11, 56]) (.cond (.t 56) (.seq (.reg [⟨some 57, none, .mov (.t 11)⟩, ⟨some 6, none, .mov (.t 57)⟩, ⟨some 7, none, .mov (.c (.b true))⟩] [6, 7]) (.ret)) (.skip))))) (.reg [⟨some 44, none, .mov (.t 10)⟩, ⟨some 45, none, .bin .add (.t 44) (.c (.i .i64 (1)))⟩, ⟨some 10, none, .mov (.t 45)⟩] [1, 2, 3, 8, 10])))))) (.seq (.reg [⟨some 6, none, .mov (.c (.nsl))⟩, ⟨some 7, none, .mov (.c (.b false))⟩] [6, 7]) (.ret))))))
abbrev Low_potbankref03_parted (P : Program) (f f0 f1 f2 : Nat) : Prop := lowF P f = some (58, [.tmp 6, .tmp 7], (ic_potbankref03_parted f0 f1 f2).erase)
def ic_potbankref03_Fewest (f0 f1 : Nat) : IC := .seq (.reg [⟨some 1, none, .box (.t 0)⟩, ⟨some 2, none, .mov (.c (.nsl))⟩, ⟨some 3, none, .mov (.c (.i .i64 (0)))⟩] [1]) (.seq (.reg [⟨some 8, none, .ld (some 5) (.t 1)⟩, ⟨some 9, none, .calv (.c (.fn (.func f0) [] [])) [.t 8]⟩, ⟨some 4, none, .mov (.t 9)⟩] [1, 4]) (.seq (.seq (.reg [⟨some 10, none, .mov (.t 4)⟩, ⟨some 11, none, .bin .neq (.t 10) (.c (.i .i64 (0)))⟩] [1, 4, 11]) (.cond (.t 11) (.seq (.reg [⟨some 12, none, .mov (.t 4)⟩, ⟨some 2, none, .mov (.c (.nsl))⟩, ⟨some 3, none, .mov (.t 12)⟩] [2, 3]) (.ret)) (.skip))) (.seq (.seq (.reg [⟨some 13, none, .fad 2 (.t 1)⟩, ⟨some 14, none, .ld none (.t 13)⟩, ⟨some 15, none, .len false (.t 14)⟩, ⟨some 16, none, .bin .gtr (.t 15) (.c (.i .i64 (9)))⟩] [1, 16]) (.cond (.t 16) (.seq (.reg [⟨some 2, none, .mov (.c (.nsl))⟩, ⟨some 3, none, .mov (.c (.i .i64 (36)))⟩] [2, 3]) (.ret)) (.skip))) (.seq (.seq (.reg [⟨some 5, none, .mov (.c (.i .i64 (0)))⟩] [1, 5]) (.block 0 (.loop (.seq (.seq (.reg [⟨some 17, none, .mov (.t 5)⟩, ⟨some 18, none, .fad 2 (.t 1)⟩, ⟨some 19, none, .ld none (.t 18)⟩, ⟨some 20, none, .len false (.t 19)⟩, ⟨some 21, none, .bin .leq (.t 17) (.t 20)⟩] [1, 5, 21]) (.cond (.t 21) (.skip) (.exit 0))) (.seq (.block 1 (.seq (.reg [⟨some 25, none, .ld (some 5) (.t 1)⟩, ⟨some 26, none, .mov (.t 5)⟩, ⟨some 27, none, .calv (.c (.fn (.func f1) [] [])) [.t 25, .c (.nsl), .t 26]⟩, ⟨some 24, none, .mov (.t 27)⟩, ⟨some 28, none, .ext (.t 24) 0⟩, ⟨some 29, none, .ext (.t 24) 1⟩, ⟨some 6, none, .mov (.t 28)⟩, ⟨some 7, none, .mov (.t 29)⟩] [1, 5, 6, 7]) (.seq (.reg [⟨some 30, none, .mov (.t 7)⟩] [1, 5, 6, 30]) (.cond (.t 30) (.seq (.reg [⟨some 31, none, .mov (.t 6)⟩, ⟨some 2, none, .mov (.t 31)⟩, ⟨some 3, none, .mov (.c (.i .i64 (0)))⟩] [2, 3]) (.ret)) (.skip))))) (.reg [⟨some 22, none, .mov (.t 5)⟩, ⟨some 23, none, .bin .add (.t 22) (.c (.i .i64 (1)))⟩, ⟨some 5, none, .mov (.t 23)⟩] [1, 5])))))) (.seq (.reg [⟨some 2, none, .mov (.c (.nsl))⟩, ⟨some 3, none, .mov (.c (.i .i64 (3)))⟩] [2, 3]) (.ret))))))
abbrev Low_potbankref03_Fewest (P : Program) (f f0 f1 : Nat) : Prop := lowF P f = some (32, [.tmp 2, .tmp 3], (ic_potbankref03_Fewest f0 f1).erase)

/-- An append that leaves all other slices as they were. -/
theorem app_ownA {k bytes : Nat} {x y : V} {H l : List Blk} {rows ys : List (List V)} {K : V → List Blk → Prop} (hx : OwnS H k rows x) (h0 : 0 < k) (hb : bytes ≤ 1000000) (hy : Sh.shown (H ++ l) y = some ys) (hys : ∀ r ∈ ys, r.length = k ∧ r.all V.one = true)
    (hl : rows.length + ys.length ≤ 1000000) (hK : ∀ x' H', OwnS H' k (rows ++ ys) x' → (∀ kv rv v, OwnS H kv rv v → Dis x v → OwnS H' kv rv v ∧ Dis x' v) → K x' H') : appI k bytes x y (H ++ l) K :=
  app_own (hx.app l) h0 hb hy hys hl fun x' H' h1 h2 h3 => hK x' H' h1 fun kv rv v hv hd =>
    ⟨hv.move fun p b c e hp hve => h2.keep p b (get_app hp l) fun k o l c e hxe => hd _ _ _ _ _ _ _ _ _ _ _ hxe hve,
    fun p k o l' c e k' o' l'' c' e' he hve => by
      rcases h3 p k o l' c e he with g | g
      · exact hd _ _ _ _ _ _ _ _ _ _ _ g hve
      · have := hv.lt hve; simp at g; omega⟩
theorem frz_set {H : List Blk} {p i n c : Nat} {e : Bool} {rows z : List (List V)} {u : V} (h : H[p]? = some (.row 1 (rows.set i [u]))) (hn : rows.length = n) (hb : ∀ row ∈ rows.set i [.fsl z], belL 0 row = true) (hu : Frz 0 H u (.fsl z)) : Frz 0 H (.rsl p 1 0 n c e) (.fsl (rows.set i [.fsl z])) := by
  subst hn
  refine .sl p 1 0 rows.length c e _ _ (Nat.zero_le _) h (by simp) (by simp) hb ?_ ?_
  · intro j row row' h1 h3
    rw [List.drop_zero, List.take_of_length_le (by simp)] at h1
    rw [List.getElem?_set] at h1 h3
    split at h1
    · rename_i hij
      rw [if_pos hij] at h3
      split at h1
      · rename_i hl
        rw [if_pos hl] at h3
        cases h1; cases h3; rfl
      · cases h1
    · rename_i hij
      rw [if_neg hij] at h3
      rw [h1] at h3; cases h3; rfl
  · intro j row row' q x x' h1 h3 e1 e2
    rw [List.drop_zero, List.take_of_length_le (by simp)] at h1
    have hmem := List.mem_of_getElem? h3
    rw [List.getElem?_set] at h1 h3
    split at h1
    · rename_i hij
      rw [if_pos hij] at h3
      split at h1
      · rename_i hl
        rw [if_pos hl] at h3
        cases h1; cases h3
        cases q with
        | zero => simp at e1 e2; subst e1 e2; exact hu
        | succ q => simp at e1
      · cases h1
    · rename_i hij
      rw [if_neg hij] at h3
      rw [h1] at h3; cases h3
      rw [e1] at e2; cases e2; exact .keep _ (belL_get (hb _ hmem) e1)

def C_given (P : Program) (f : Nat) : Prop := ∀ (bs : List (List Int)) (k : Nat) (i : Int), k ≤ bs.length → bs.length ≤ 1000 → (∀ b ∈ bs, b ≠ [] ∧ b.length ≤ 1000) → Snd P f [.fsl (bs.map rowC), .i .i64 k, .i .i64 i] [] (.fsl ((addS bs k i).map rowC)) []
/-- The rows that were laid, the k-th one a slice of one's own. -/
def Rows (bs : List (List Int)) (k n : Nat) (H : List Blk) (v : V) : Prop := ∃ rows, OwnS H 1 rows v ∧ rows.length = n ∧ ((n ≤ k ∧ rows = (bs.take n).map rowC) ∨ (k < n ∧ ∃ u b, bs[k]? = some b ∧ rows = ((bs.take n).map rowC).set k [u] ∧ OwnS H 1 (b.map intC) u ∧ Dis v u))
theorem rows_next {bs : List (List Int)} {k n : Nat} {H H' : List Blk} {v v' x : V} {rows : List (List V)} {b : List Int} (hb : bs[n]? = some b) (ho : OwnS H 1 rows v) (hn : rows.length = n) (hs : (n ≤ k ∧ rows = (bs.take n).map rowC) ∨ (k < n ∧ ∃ u b, bs[k]? = some b ∧ rows = ((bs.take n).map rowC).set k [u] ∧ OwnS H 1 (b.map intC) u ∧ Dis v u))
    (hv' : OwnS H' 1 (rows ++ [[x]]) v') (hx' : OwnS H' 1 (b.map intC) x) (hd' : Dis v' x) (hmv : ∀ kv rv w, OwnS H kv rv w → Dis v w → OwnS H' kv rv w ∧ Dis v' w ∧ Dis x w) : ∃ H2, (∀ E : Env, Shift E H' E H2) ∧ Rows bs k (n + 1) H2 v' := by
  have hlt := (List.getElem?_eq_some_iff.1 hb).1
  have htk : bs.take (n + 1) = bs.take n ++ [b] := by rw [List.take_add_one, hb]; rfl
  have hbel : ∀ r ∈ b.map intC, belL 0 r = true := bel_ints b
  rcases Nat.lt_trichotomy n k with h | h | h
  · obtain ⟨H2, hs2, hv2, _, _⟩ := shift_last hv' hx' hd' hbel
    have hr : rows = (bs.take n).map rowC := by rcases hs with ⟨_, g⟩ | ⟨g, _⟩ <;> first | exact g | omega
    exact ⟨H2, hs2, _, hv2, by simp [hn], .inl ⟨by omega, by rw [htk, List.map_append, hr]; rfl⟩⟩
  · subst h
    have hr : rows = (bs.take n).map rowC := by rcases hs with ⟨_, g⟩ | ⟨g, _⟩ <;> first | exact g | omega
    refine ⟨H', fun E => .refl _ _, _, hv', by simp [hn], .inr ⟨by omega, x, b, hb, ?_, hx', hd'⟩⟩
    rw [htk, List.map_append, hr, List.set_append_right _ _ (by simp; omega)]
    simp [Nat.min_eq_left (show n ≤ bs.length by omega)]
  · obtain ⟨u, bk, hbk, hr, hu, hdu⟩ : ∃ u bk, bs[k]? = some bk ∧ rows = ((bs.take n).map rowC).set k [u] ∧ OwnS H 1 (bk.map intC) u ∧ Dis v u := by rcases hs with ⟨g, _⟩ | ⟨_, g⟩ <;> first | exact g | omega
    obtain ⟨H2, hs2, hv2, _, hkeep⟩ := shift_last hv' hx' hd' hbel
    obtain ⟨m1, m2, m3⟩ := hmv _ _ _ hu hdu
    refine ⟨H2, hs2, _, hv2, by simp [hn], .inr ⟨by omega, u, bk, hbk, ?_, m1.move fun p b c e hp hue => hkeep p b hp (fun k o l c e he => m2 _ _ _ _ _ _ _ _ _ _ _ he hue) (fun k o l c e he => m3 _ _ _ _ _ _ _ _ _ _ _ he hue), m2⟩⟩
    rw [htk, List.map_append, hr, List.set_append_left _ _ (by simp; omega)]
    rfl
theorem ok_given (hm : P.follows .mixedOrders = true) {f : Nat} (low : Low_potbankref03_given P f) : C_given P f := by
  intro bs k i hk hl hbs
  refine snd_ic hm low (by simp) ?_
  unfold ic_potbankref03_given
  simp -dsimp -implicitDefEqProofs only [qq, Nat.reduceBEq, reduceIte, Nat.reduceAdd, Nat.reduceSub, Nat.reduceLeDiff, Nat.reduceLT, Nat.reduceMul, Nat.reduceEqDiff, Int.reduceEq, Int.reduceBEq, Int.reduceBNe, Int.reduceLT, Int.reduceLE, Int.reduceGT, Int.reduceGE, Int.reduceNeg, Int.reduceAdd, Int.reduceSub, reduceCtorEq, List.reduceReplicate, ← List.map_take, ← List.map_drop]
  refine loopI_sh (fun n : Nat => bs.length - n) (fun n E H => n ≤ bs.length ∧ ∃ v, E = [(0, .fsl (bs.map rowC)), (1, .i .i64 k), (2, .i .i64 i), (7, v), (8, .i .i64 n)] ∧ Rows bs k n H v) 0 (.refl _ _) ⟨by omega, _, rfl, [], .nil _ _, rfl, .inl ⟨by omega, rfl⟩⟩ ?_
  rintro n _ H ⟨hn, v, rfl, rows, ho, hrl, hs⟩
  rcases Nat.lt_or_ge n bs.length with hkl | hkl
  · have hc : decide ((n : Int) < (bs.length : Int)) = true := by simpa using hkl
    obtain ⟨b, hb, hbm, _, _⟩ := next_of hkl
    obtain ⟨hbne, hbl⟩ := hbs b hbm
    have hwn : IntKind.i64.wrap ((n : Int) + 1) = ((n + 1 : Nat) : Int) := wrap_succ (by omega)
    simp -dsimp -implicitDefEqProofs only [hc, hb, rowC, qq, Nat.reduceBEq, reduceIte, Nat.reduceAdd, Nat.reduceSub, Nat.reduceLeDiff, Nat.reduceLT, Nat.reduceMul, Nat.reduceEqDiff, Int.reduceEq, Int.reduceBEq, Int.reduceBNe, Int.reduceLT, Int.reduceLE, Int.reduceGT, Int.reduceGE, Int.reduceNeg, Int.reduceAdd, Int.reduceSub, reduceCtorEq, List.reduceReplicate, ← List.map_take, ← List.map_drop]
    refine app_emp (ys := b.map intC) (by decide) (by decide) rfl (fun r hr => by obtain ⟨x, _, rfl⟩ := List.mem_map.1 hr; exact ⟨rfl, rfl⟩) (by simp; omega) fun x H' hx => ?_
    have hxo : OwnS H' 1 (b.map intC) x := hx.own
    obtain ⟨px, cx, ex, rfl, hpx⟩ := hxo.pos (by simpa using hbne)
    have hfx := hx.fresh _ _ _ _ _ _ rfl
    have hov : OwnS H' 1 rows v := ho.move fun p b c e hp _ => hx.keep p b hp
    have hdv : Dis v (.rsl px 1 0 (b.map intC).length cx ex) := fun p k o l c e k' o' l' c' e' h1 h2 => by have := ho.lt h1; cases h2; omega
    simp -dsimp -implicitDefEqProofs only [qq, Nat.reduceBEq, reduceIte, Nat.reduceAdd, Nat.reduceSub, Nat.reduceLeDiff, Nat.reduceLT, Nat.reduceMul, Nat.reduceEqDiff, Int.reduceEq, Int.reduceBEq, Int.reduceBNe, Int.reduceLT, Int.reduceLE, Int.reduceGT, Int.reduceGE, Int.reduceNeg, Int.reduceAdd, Int.reduceSub, reduceCtorEq, List.reduceReplicate, ← List.map_take, ← List.map_drop]
    refine app_ownA (ys := [[.rsl px 1 0 (b.map intC).length cx ex]]) hov (by decide) (by decide) (by simp [Sh.shown, gapp]) (by simp [V.one]) (by simp; omega) fun v' H3 hv' hA => ?_
    obtain ⟨hx3, hd3⟩ := hA _ _ _ hxo hdv
    simp -dsimp -implicitDefEqProofs only [hwn, qq, Nat.reduceBEq, reduceIte, Nat.reduceAdd, Nat.reduceSub, Nat.reduceLeDiff, Nat.reduceLT, Nat.reduceMul, Nat.reduceEqDiff, Int.reduceEq, Int.reduceBEq, Int.reduceBNe, Int.reduceLT, Int.reduceLE, Int.reduceGT, Int.reduceGE, Int.reduceNeg, Int.reduceAdd, Int.reduceSub, reduceCtorEq, List.reduceReplicate, ← List.map_take, ← List.map_drop]
    obtain ⟨H2, hs2, hR⟩ := rows_next (k := k) hb ho hrl hs hv' hx3 hd3 fun kv rv w hw hd => by
      have hw' : OwnS H' kv rv w := hw.move fun p b c e hp _ => hx.keep p b hp
      obtain ⟨g1, g2⟩ := hA _ _ _ hw' hd
      exact ⟨g1, g2, fun p k o l c e k' o' l' c' e' h1 h2 => by have := hw.lt h2; cases h1; omega⟩
    exact ⟨n + 1, by omega, _, H2, hs2 _, by omega, v', rfl, hR⟩
  have hc : decide ((n : Int) < (bs.length : Int)) = false := by simp; omega
  obtain rfl : n = bs.length := by omega
  rw [List.take_of_length_le (Nat.le_refl _)] at hs
  rcases hs with ⟨hle, rfl⟩ | ⟨hlt, u, b, hb, rfl, hu, hd⟩
  case' inr =>
    obtain ⟨p2, c2, e2, hve, hp2⟩ := ho.pos (by simp; intro e; rw [e] at hlt; simp at hlt)
    obtain ⟨n2, hn2⟩ : ∃ n2, n2 = bs.length := ⟨_, rfl⟩
    have hN : ((bs.map rowC).set k [u]).length = n2 := by simp [hn2]
    rw [hN] at hve
    subst hve
    have hq : ((k : Int) == (n2 : Int)) = false := by simp; omega
    have hset : ((bs.map rowC).set k [u]).set k [V.fsl ((b ++ [i]).map intC)] = (addS bs k i).map rowC := by
      rw [List.set_set]; simp only [addS, if_pos hlt, hb, Option.getD_some, List.map_set]
    have hrow : ((bs.map rowC).set k [u])[k]? = some [u] := by rw [List.getElem?_set_self (by simpa using hlt)]
    have hbl : b.length ≤ 1000 := (hbs b (List.mem_of_getElem? hb)).2
    replace hd := hd.symm
    simp -dsimp -implicitDefEqProofs only [hc, hq, qq, Nat.reduceBEq, reduceIte, Nat.reduceAdd, Nat.reduceSub, Nat.reduceLeDiff, Nat.reduceLT, Nat.reduceMul, Nat.reduceEqDiff, Int.reduceEq, Int.reduceBEq, Int.reduceBNe, Int.reduceLT, Int.reduceLE, Int.reduceGT, Int.reduceGE, Int.reduceNeg, Int.reduceAdd, Int.reduceSub, reduceCtorEq, List.reduceReplicate, ← List.map_take, ← List.map_drop]
    generalize hR : (bs.map rowC).set k [u] = R at *
    generalize hH : H = H2 at *
  case' inl =>
    have hkk : k = bs.length := by omega
    have hgap : ∀ {Q : V → List Blk → Prop}, (∀ v' H3, OwnS H3 1 (bs.map rowC ++ [[V.nsl]]) v' → Q v' H3) → appI 1 24 v (.rsl H.length 1 0 1 1 true) (H ++ [.row 1 [[V.nsl]]]) Q := fun hQ => app_ownA (ys := [[.nsl]]) ho (by decide) (by decide) (by simp [Sh.shown]) (by simp [V.one]) (by simp; omega) fun v' H3 hv' _ => hQ v' H3 hv'
    have hq : ((k : Int) == (bs.length : Int)) = true := by simp [hkk]
    rcases ho with ⟨hnil, rfl⟩ | ⟨pv, cv, ev, hve, hpv⟩
    case' inl =>
      have hq0 : ((k : Int) == 0) = true := by simp at hnil; simp [hkk, hnil]
      simp -dsimp -implicitDefEqProofs only [hc, hq0, qq, Nat.reduceBEq, reduceIte, Nat.reduceAdd, Nat.reduceSub, Nat.reduceLeDiff, Nat.reduceLT, Nat.reduceMul, Nat.reduceEqDiff, Int.reduceEq, Int.reduceBEq, Int.reduceBNe, Int.reduceLT, Int.reduceLE, Int.reduceGT, Int.reduceGE, Int.reduceNeg, Int.reduceAdd, Int.reduceSub, reduceCtorEq, List.reduceReplicate, ← List.map_take, ← List.map_drop]
    case' inr =>
      rw [List.length_map] at hve
      subst hve
      simp -dsimp -implicitDefEqProofs only [hc, hq, qq, Nat.reduceBEq, reduceIte, Nat.reduceAdd, Nat.reduceSub, Nat.reduceLeDiff, Nat.reduceLT, Nat.reduceMul, Nat.reduceEqDiff, Int.reduceEq, Int.reduceBEq, Int.reduceBNe, Int.reduceLT, Int.reduceLE, Int.reduceGT, Int.reduceGE, Int.reduceNeg, Int.reduceAdd, Int.reduceSub, reduceCtorEq, List.reduceReplicate, ← List.map_take, ← List.map_drop]
    all_goals
      refine hgap fun v2 H2 hv2 => ?_
      obtain ⟨p2, c2, e2, rfl, hp2⟩ := hv2.pos (by simp)
      generalize hN0 : (bs.map rowC ++ [[V.nsl]]).length = n2 at *
      obtain ⟨R, u, b, hp2, hset, hrow, hu, hd, hN, hbl⟩ : ∃ R u, ∃ b : List Int, H2[p2]? = some (.row 1 R) ∧ R.set k [V.fsl ((b ++ [i]).map intC)] = (addS bs k i).map rowC ∧ R[k]? = some [u] ∧ OwnS H2 1 (b.map intC) u ∧ Dis u (.rsl p2 1 0 n2 c2 e2) ∧ R.length = n2 ∧ b.length ≤ 1000 :=
        ⟨_, .nsl, [], hp2, by simp [addS, hkk, List.set_append_right], by rw [hkk, List.getElem?_append_right (by simp)]; simp, .nil _ _, .nil _, hN0, by simp⟩
  all_goals
    have hlr : k < R.length := (List.getElem?_eq_some_iff.1 hrow).1
    have hRo : OwnS H2 1 R (.rsl p2 1 0 n2 c2 e2) := .inr ⟨p2, c2, e2, by rw [hN], hp2⟩
    simp -dsimp -implicitDefEqProofs only [hp2, hrow, qq, Nat.reduceBEq, reduceIte, Nat.reduceAdd, Nat.reduceSub, Nat.reduceLeDiff, Nat.reduceLT, Nat.reduceMul, Nat.reduceEqDiff, Int.reduceEq, Int.reduceBEq, Int.reduceBNe, Int.reduceLT, Int.reduceLE, Int.reduceGT, Int.reduceGE, Int.reduceNeg, Int.reduceAdd, Int.reduceSub, reduceCtorEq, List.reduceReplicate, ← List.map_take, ← List.map_drop]
    refine ⟨by omega, by omega, ?_⟩
    refine app_ownA (ys := [[.i .i64 i]]) hu (by decide) (by decide) (by simp [Sh.shown]) (by simp [V.one]) (by rw [List.length_map]; simp; omega) fun u' H3 hu' hA => ?_
    obtain ⟨hR3, hd3⟩ := hA _ _ _ hRo hd
    obtain ⟨p3, c3, e3, rfl, hp3⟩ := hu'.pos (by simp)
    have hpR : H3[p2]? = some (.row 1 R) := by
      obtain ⟨p, c, e, he, hp⟩ := hR3.pos (by intro e; rw [e] at hlr; simp at hlr)
      cases he; exact hp
    have hne : p2 ≠ p3 := fun e => hd3 _ _ _ _ _ _ _ _ _ _ _ rfl (by rw [← e])
    simp -dsimp -implicitDefEqProofs only [hpR, qq, Nat.reduceBEq, reduceIte, Nat.reduceAdd, Nat.reduceSub, Nat.reduceLeDiff, Nat.reduceLT, Nat.reduceMul, Nat.reduceEqDiff, Int.reduceEq, Int.reduceBEq, Int.reduceBNe, Int.reduceLT, Int.reduceLE, Int.reduceGT, Int.reduceGE, Int.reduceNeg, Int.reduceAdd, Int.reduceSub, reduceCtorEq, List.reduceReplicate, ← List.map_take, ← List.map_drop]
    refine ⟨by omega, by omega, ?_⟩
    refine ⟨_, hrow, Nat.le_refl _, ?_⟩
    rw [← hset]
    refine Ends.ret rfl ?_
    have hb2 : ∀ row ∈ R.set k [V.fsl ((b ++ [i]).map intC)], belL 0 row = true := by rw [hset]; exact bel_rows _
    refine frz_set (u := .rsl p3 1 0 (b.length + 1) c3 e3) (by rw [List.getElem?_set_self (get_lt hpR)]; rfl) hN hb2 ?_
    refine OwnS.frz (k := 1) (.inr ⟨p3, c3, e3, by simp, ?_⟩) (bel_ints _)
    rw [List.getElem?_set_ne hne, hp3, List.map_append]
    rfl

/-- What parted gives besides: at the end the bungs as they came. -/
def partR (d : List Int → Bool) (n most : Nat) : Nat → List (List Int) → List (List Int)
  | 0, bs => bs
  | r + 1, bs => (partS d n most (r + 1) bs).getD []
theorem partR_some {d : List Int → Bool} {n most r : Nat} {bs b : List (List Int)} (h : partS d n most r bs = some b) : partR d n most r bs = b := by
  cases r with
  | zero =>
    rw [partS] at h
    split at h
    · exact Option.some.inj h
    · cases h
  | succ r => rw [partR, h]; rfl
def partV (d : List Int → Bool) (n most r : Nat) (bs : List (List Int)) : V := .tup [.fsl ((partR d n most r bs).map rowC), .b (partS d n most r bs).isSome]
def C_parted (P : Program) (f : Nat) : Prop := ∀ (r : Nat) (w : Rg) (l : List Sag) (s : Spt) (bs : List (List Int)) (most : Nat), rgB w 0 200 = true → listB l = true → l.length ≤ 9 → r ≤ l.length → okBs (l.length - r) bs → bs.flatten.length = l.length - r → most ≤ 9 →
  Snd P f [.agg (jobC w l s), .fsl (bs.map rowC), .i .i64 most] [] (partV (doS w l s) l.length most r bs) []
theorem addS_flat {n k : Nat} {bs : List (List Int)} {i : Int} (h : bs.flatten.length = n) : (addS bs k i).flatten.length = n + 1 := by
  unfold addS
  split
  · rename_i hlt
    obtain ⟨b, hb, _, htk, hdr⟩ := next_of hlt
    rw [hb, List.set_eq_take_append_cons_drop, if_pos hlt]
    have e : bs.flatten = (bs.take k).flatten ++ (b ++ (bs.drop (k + 1)).flatten) := by
      conv => lhs; rw [← List.take_append_drop k bs, hdr]
      simp
    rw [e] at h
    simp only [Option.getD_some, List.flatten_append, List.flatten_cons, List.length_append, List.length_cons, List.length_nil] at h ⊢
    omega
  · simp only [List.flatten_append, List.flatten_cons, List.flatten_nil, List.length_append, List.length_cons, List.length_nil]
    omega
theorem mem_flat_len {bs : List (List Int)} {b : List Int} (h : b ∈ bs) : b.length ≤ bs.flatten.length := by
  induction bs with
  | nil => simp at h
  | cons x bs ih =>
    rcases List.mem_cons.1 h with rfl | h
    · simp
    · have := ih h; simp only [List.flatten_cons, List.length_append]; omega
theorem take_flat_len (bs : List (List Int)) (k : Nat) : (bs.take k).flatten.length ≤ bs.flatten.length := by
  conv => rhs; rw [← List.take_append_drop k bs]
  simp only [List.flatten_append, List.length_append]; omega
set_option maxHeartbeats 2000000 in
theorem ok_parted (hm : P.follows .mixedOrders = true) {f f0 f1 : Nat} (low : Low_potbankref03_parted P f f0 f1 f) (h0 : C_allDo P f0) (h1 : C_given P f1) : C_parted P f := by
  intro r
  induction r using Nat.strongRecOn with
  | _ r ih =>
  intro w l s bs most hw hv h9 hr hok hfl hmost
  have hbl := hok.len
  have hbs : ∀ b ∈ bs, okIx l.length b ∧ b.Nodup ∧ b ≠ [] := fun b hb => ⟨fun i hi => by have := hok.ix b hb i hi; omega, (List.pairwise_flatten.1 hok.nd).1 b hb, hok.ne b hb⟩
  refine snd_ic hm low (by simp) ?_
  unfold ic_potbankref03_parted
  simp -dsimp -implicitDefEqProofs only [qq, Nat.reduceBEq, reduceIte, Nat.reduceAdd, Nat.reduceSub, Nat.reduceLeDiff, Nat.reduceLT, Nat.reduceMul, Nat.reduceEqDiff, Int.reduceEq, Int.reduceBEq, Int.reduceBNe, Int.reduceLT, Int.reduceLE, Int.reduceGT, Int.reduceGE, Int.reduceNeg, Int.reduceAdd, Int.reduceSub, reduceCtorEq, List.reduceReplicate, ← List.map_take, ← List.map_drop]
  refine loopI_st (fun k : Nat => bs.length - k) (fun k E H => k ≤ bs.length ∧ E = [(1, .fsl (bs.map rowC)), (2, .i .i64 most), (3, .rpt 0 5 0 0), (8, .i .i64 (bs.take k).flatten.length), (9, .i .i64 k)] ∧ H = [.row 5 [jobC w l s]]) 0 ⟨by omega, rfl, rfl⟩ ?_
  rintro k _ _ ⟨hk, rfl, rfl⟩
  have hkf := take_flat_len bs k
  rcases Nat.lt_or_ge k bs.length with hkl | hkl
  · have hc : decide ((k : Int) < (bs.length : Int)) = true := by simpa using hkl
    obtain ⟨x, hx, hxm, htk, _⟩ := next_of hkl
    have hxl := take_flat_len bs (k + 1)
    have hsum : (bs.take (k + 1)).flatten.length = (bs.take k).flatten.length + x.length := by rw [htk]; simp
    have hwk : IntKind.i64.wrap ((k : Int) + 1) = ((k + 1 : Nat) : Int) := wrap_succ (by omega)
    have hws : IntKind.i64.wrap (((bs.take k).flatten.length : Int) + (x.length : Int)) = (((bs.take (k + 1)).flatten.length : Nat) : Int) := by rw [wrap_id (by omega) (by omega)]; omega
    generalize hsk : (bs.take k).flatten.length = sk at *
    simp -dsimp -implicitDefEqProofs only [hc, hx, rowC, hwk, hws, qq, Nat.reduceBEq, reduceIte, Nat.reduceAdd, Nat.reduceSub, Nat.reduceLeDiff, Nat.reduceLT, Nat.reduceMul, Nat.reduceEqDiff, Int.reduceEq, Int.reduceBEq, Int.reduceBNe, Int.reduceLT, Int.reduceLE, Int.reduceGT, Int.reduceGE, Int.reduceNeg, Int.reduceAdd, Int.reduceSub, reduceCtorEq, List.reduceReplicate, ← List.map_take, ← List.map_drop]
    exact ⟨k + 1, by omega, by omega, rfl⟩
  have hc : decide ((k : Int) < (bs.length : Int)) = false := by simp; omega
  have hsum : (bs.take k).flatten.length = l.length - r := by rw [List.take_of_length_le hkl]; exact hfl
  rw [hsum]
  clear hsum hkf
  rcases r with _ | r
  · have hq : (((l.length - 0 : Nat) : Int) == (l.length : Int)) = true := by simp
    simp -dsimp -implicitDefEqProofs only [hc, hq, Nat.sub_zero, qq, Nat.reduceBEq, reduceIte, Nat.reduceAdd, Nat.reduceSub, Nat.reduceLeDiff, Nat.reduceLT, Nat.reduceMul, Nat.reduceEqDiff, Int.reduceEq, Int.reduceBEq, Int.reduceBNe, Int.reduceLT, Int.reduceLE, Int.reduceGT, Int.reduceGE, Int.reduceNeg, Int.reduceAdd, Int.reduceSub, reduceCtorEq, List.reduceReplicate, ← List.map_take, ← List.map_drop]
    refine callI_pure (h0 w l s bs hw hv hbs (by omega)) rfl rfl ?_
    simp -dsimp -implicitDefEqProofs only [qq, Nat.reduceBEq, reduceIte, Nat.reduceAdd, Nat.reduceSub, Nat.reduceLeDiff, Nat.reduceLT, Nat.reduceMul, Nat.reduceEqDiff, Int.reduceEq, Int.reduceBEq, Int.reduceBNe, Int.reduceLT, Int.reduceLE, Int.reduceGT, Int.reduceGE, Int.reduceNeg, Int.reduceAdd, Int.reduceSub, reduceCtorEq, List.reduceReplicate, ← List.map_take, ← List.map_drop]
    refine Ends.ret rfl ?_
    have e : (partS (doS w l s) l.length most 0 bs).isSome = bs.all (doS w l s) := by rw [partS]; cases bs.all (doS w l s) <;> rfl
    rw [partV, e]
    exact frz_keep2 rfl rfl
  have hq : (((l.length - (r + 1) : Nat) : Int) == (l.length : Int)) = false := by simp; omega
  simp -dsimp -implicitDefEqProofs only [hc, hq, qq, Nat.reduceBEq, reduceIte, Nat.reduceAdd, Nat.reduceSub, Nat.reduceLeDiff, Nat.reduceLT, Nat.reduceMul, Nat.reduceEqDiff, Int.reduceEq, Int.reduceBEq, Int.reduceBNe, Int.reduceLT, Int.reduceLE, Int.reduceGT, Int.reduceGE, Int.reduceNeg, Int.reduceAdd, Int.reduceSub, reduceCtorEq, List.reduceReplicate, ← List.map_take, ← List.map_drop]
  clear hc hkl hk
  refine loopI_st (fun k : Nat => bs.length + 1 - k) (fun k E H => k ≤ min (bs.length + 1) most ∧ E = [(1, .fsl (bs.map rowC)), (2, .i .i64 most), (3, .rpt 0 5 0 0), (8, .i .i64 (l.length - (r + 1) : Nat)), (10, .i .i64 k)] ∧ H = [.row 5 [jobC w l s]] ∧ (∀ j, j < k → partS (doS w l s) l.length most r (addS bs j (l.length - (r + 1) : Nat)) = none)) 0 ⟨by omega, rfl, rfl, fun j hj => by omega⟩ ?_
  rintro k _ _ ⟨hk, rfl, rfl, hno⟩
  have gone : ¬ k < min (bs.length + 1) most → ∀ H, Ends [.tmp 6, .tmp 7] [] (partV (doS w l s) l.length most (r + 1) bs) [] .ret [(6, .nsl), (7, .b false)] H := fun hge H => by
    have : partS (doS w l s) l.length most (r + 1) bs = none := partS_none fun j hj => hno j (by omega)
    rw [partV, partR, this]
    exact Ends.ret rfl (frz2 .nil (.keep _ rfl))
  cases hc : decide ((k : Int) ≤ (bs.length : Int)) <;> simp -dsimp -implicitDefEqProofs only [hc, qq, Nat.reduceBEq, reduceIte, Nat.reduceAdd, Nat.reduceSub, Nat.reduceLeDiff, Nat.reduceLT, Nat.reduceMul, Nat.reduceEqDiff, Int.reduceEq, Int.reduceBEq, Int.reduceBNe, Int.reduceLT, Int.reduceLE, Int.reduceGT, Int.reduceGE, Int.reduceNeg, Int.reduceAdd, Int.reduceSub, reduceCtorEq, List.reduceReplicate, ← List.map_take, ← List.map_drop]
  · exact gone (by simp at hc; omega) _
  cases hc2 : decide ((k : Int) < (most : Int)) <;> simp -dsimp -implicitDefEqProofs only [hc2, qq, Nat.reduceBEq, reduceIte, Nat.reduceAdd, Nat.reduceSub, Nat.reduceLeDiff, Nat.reduceLT, Nat.reduceMul, Nat.reduceEqDiff, Int.reduceEq, Int.reduceBEq, Int.reduceBNe, Int.reduceLT, Int.reduceLE, Int.reduceGT, Int.reduceGE, Int.reduceNeg, Int.reduceAdd, Int.reduceSub, reduceCtorEq, List.reduceReplicate, ← List.map_take, ← List.map_drop]
  · exact gone (by simp at hc2; omega) _
  have hkb : k ≤ bs.length := by simp at hc; omega
  have hkm : k < most := by simp at hc2; omega
  have hwk : IntKind.i64.wrap ((k : Int) + 1) = ((k + 1 : Nat) : Int) := wrap_succ (by omega)
  have hok2 := okBs_add hok hkb
  rw [show l.length - (r + 1) + 1 = l.length - r by omega] at hok2
  have hfl2 : (addS bs k ((l.length - (r + 1) : Nat) : Int)).flatten.length = l.length - r := by rw [addS_flat hfl]; omega
  refine callI_pure (h1 bs k (l.length - (r + 1) : Nat) hkb (by omega) fun b hb => ⟨hok.ne b hb, by have := mem_flat_len hb; omega⟩) rfl rfl ?_
  simp -dsimp -implicitDefEqProofs only [qq, Nat.reduceBEq, reduceIte, Nat.reduceAdd, Nat.reduceSub, Nat.reduceLeDiff, Nat.reduceLT, Nat.reduceMul, Nat.reduceEqDiff, Int.reduceEq, Int.reduceBEq, Int.reduceBNe, Int.reduceLT, Int.reduceLE, Int.reduceGT, Int.reduceGE, Int.reduceNeg, Int.reduceAdd, Int.reduceSub, reduceCtorEq, List.reduceReplicate, ← List.map_take, ← List.map_drop]
  refine callI_pure (ih r (by omega) w l s _ most hw hv h9 (by omega) hok2 hfl2 hmost) rfl rfl ?_
  unfold partV
  cases hres : partS (doS w l s) l.length most r (addS bs k (l.length - (r + 1) : Nat)) with
  | none =>
    simp -dsimp -implicitDefEqProofs only [Option.isSome, hwk, qq, Nat.reduceBEq, reduceIte, Nat.reduceAdd, Nat.reduceSub, Nat.reduceLeDiff, Nat.reduceLT, Nat.reduceMul, Nat.reduceEqDiff, Int.reduceEq, Int.reduceBEq, Int.reduceBNe, Int.reduceLT, Int.reduceLE, Int.reduceGT, Int.reduceGE, Int.reduceNeg, Int.reduceAdd, Int.reduceSub, reduceCtorEq, List.reduceReplicate, ← List.map_take, ← List.map_drop]
    exact ⟨k + 1, by omega, by omega, rfl, fun j hj => by
      rcases Nat.lt_succ_iff_lt_or_eq.1 hj with g | rfl
      · exact hno j g
      · exact hres⟩
  | some b =>
    have hfin : partS (doS w l s) l.length most (r + 1) bs = some b := partS_some (by omega) hno hres
    rw [partR_some hres, partR_some hfin, hfin]
    simp -dsimp -implicitDefEqProofs only [Option.isSome, qq, Nat.reduceBEq, reduceIte, Nat.reduceAdd, Nat.reduceSub, Nat.reduceLeDiff, Nat.reduceLT, Nat.reduceMul, Nat.reduceEqDiff, Int.reduceEq, Int.reduceBEq, Int.reduceBNe, Int.reduceLT, Int.reduceLE, Int.reduceGT, Int.reduceGE, Int.reduceNeg, Int.reduceAdd, Int.reduceSub, reduceCtorEq, List.reduceReplicate, ← List.map_take, ← List.map_drop]
    exact Ends.ret rfl (frz_keep2 rfl rfl)
theorem few_found {w : Rg} {l : List Sag} {s : Spt} (hw : rgB w 0 200 = true) (hv : listB l = true) (ha : askedE w l s = 0) (h9 : l.length ≤ 9) : fewE w l s = (if (fewP (doS w l s) l.length).isSome then 0 else 3) ∧ fewR w l s = (fewP (doS w l s) l.length).getD [] := by
  rcases Nat.eq_zero_or_pos l.length with h | h
  · have e : fewP (doS w l s) l.length = some [] := by rw [h]; rfl
    rw [e]
    refine ⟨by rw [fewE, if_neg (by simp [ha]), if_neg (by omega), if_pos h]; rfl, ?_⟩
    rw [fewR, if_pos ⟨ha, h9⟩, h]; rfl
  · rw [few_eq (fun b x hs hn hb hd => doS_sub hw hv hs hn hb hd) h]
    exact ⟨by rw [fewE, if_neg (by simp [ha]), if_neg (by omega), if_neg (by omega)], by rw [fewR, if_pos ⟨ha, h9⟩]⟩
def C_rFewest (P : Program) (f : Nat) : Prop := ∀ (w : Rg) (l : List Sag) (s : Spt), Snd P f [.agg (jobC w l s)] [] (.tup [.fsl ((fewR w l s).map rowC), .i .i64 (fewE w l s)]) []
theorem ok_rFewest (hm : P.follows .mixedOrders = true) {f f0 f1 : Nat} (low : Low_potbankref03_Fewest P f f0 f1) (h0 : C_checked P f0) (h1 : C_parted P f1) : C_rFewest P f := by
  intro w l s
  have none_ : ∀ (H : List Blk) (e : Int), fewE w l s = e → fewR w l s = [] → Frz 0 H (resV [.nsl, .i .i64 e]) (.tup [.fsl ((fewR w l s).map rowC), .i .i64 (fewE w l s)]) := fun H e h1 h2 => by rw [h1, h2]; exact frz2 .nil (.keep _ rfl)
  refine snd_ic hm low (by simp) ?_
  unfold ic_potbankref03_Fewest
  simp -dsimp -implicitDefEqProofs only [qq, Nat.reduceBEq, reduceIte, Nat.reduceAdd, Nat.reduceSub, Nat.reduceLeDiff, Nat.reduceLT, Nat.reduceMul, Nat.reduceEqDiff, Int.reduceEq, Int.reduceBEq, Int.reduceBNe, Int.reduceLT, Int.reduceLE, Int.reduceGT, Int.reduceGE, Int.reduceNeg, Int.reduceAdd, Int.reduceSub, reduceCtorEq, List.reduceReplicate, ← List.map_take, ← List.map_drop]
  refine callI_pure (h0 w l s) rfl rfl ?_
  simp -dsimp -implicitDefEqProofs only [qq, Nat.reduceBEq, reduceIte, Nat.reduceAdd, Nat.reduceSub, Nat.reduceLeDiff, Nat.reduceLT, Nat.reduceMul, Nat.reduceEqDiff, Int.reduceEq, Int.reduceBEq, Int.reduceBNe, Int.reduceLT, Int.reduceLE, Int.reduceGT, Int.reduceGE, Int.reduceNeg, Int.reduceAdd, Int.reduceSub, reduceCtorEq, List.reduceReplicate, ← List.map_take, ← List.map_drop]
  refine brG_of (fun he => ?_) (fun he => ?_) <;> simp -dsimp -implicitDefEqProofs only [qq, Nat.reduceBEq, reduceIte, Nat.reduceAdd, Nat.reduceSub, Nat.reduceLeDiff, Nat.reduceLT, Nat.reduceMul, Nat.reduceEqDiff, Int.reduceEq, Int.reduceBEq, Int.reduceBNe, Int.reduceLT, Int.reduceLE, Int.reduceGT, Int.reduceGE, Int.reduceNeg, Int.reduceAdd, Int.reduceSub, reduceCtorEq, List.reduceReplicate, ← List.map_take, ← List.map_drop]
  · have he' : askedE w l s ≠ 0 := by simpa using he
    exact Ends.ret rfl (none_ _ _ (by simp [fewE, he']) (by simp [fewR, he']))
  have he' : askedE w l s = 0 := by simpa using he
  obtain ⟨hw, hv, hsp⟩ := asked_ok he'
  refine brG_of (fun h9 => ?_) (fun h9 => ?_) <;> simp -dsimp -implicitDefEqProofs only [qq, Nat.reduceBEq, reduceIte, Nat.reduceAdd, Nat.reduceSub, Nat.reduceLeDiff, Nat.reduceLT, Nat.reduceMul, Nat.reduceEqDiff, Int.reduceEq, Int.reduceBEq, Int.reduceBNe, Int.reduceLT, Int.reduceLE, Int.reduceGT, Int.reduceGE, Int.reduceNeg, Int.reduceAdd, Int.reduceSub, reduceCtorEq, List.reduceReplicate, ← List.map_take, ← List.map_drop]
  · have h9' : 9 < l.length := by simp at h9; omega
    exact Ends.ret rfl (none_ _ _ (by simp [fewE, he', h9']) (by simp [fewR]; omega))
  have h9' : l.length ≤ 9 := by simp at h9; omega
  obtain ⟨q1, q2⟩ := few_found (s := s) hw hv he' h9'
  refine loopI_st (fun k : Nat => l.length + 1 - k) (fun k E H => k ≤ l.length + 1 ∧ E = [(1, .rpt 0 5 0 0), (5, .i .i64 k)] ∧ H = [.row 5 [jobC w l s]] ∧ (∀ j, j < k → partS (doS w l s) l.length j l.length [] = none)) 0 ⟨by omega, rfl, rfl, fun j hj => by omega⟩ ?_
  rintro k _ _ ⟨hk, rfl, rfl, hno⟩
  cases hc : decide ((k : Int) ≤ (l.length : Int)) <;> simp -dsimp -implicitDefEqProofs only [hc, qq, Nat.reduceBEq, reduceIte, Nat.reduceAdd, Nat.reduceSub, Nat.reduceLeDiff, Nat.reduceLT, Nat.reduceMul, Nat.reduceEqDiff, Int.reduceEq, Int.reduceBEq, Int.reduceBNe, Int.reduceLT, Int.reduceLE, Int.reduceGT, Int.reduceGE, Int.reduceNeg, Int.reduceAdd, Int.reduceSub, reduceCtorEq, List.reduceReplicate, ← List.map_take, ← List.map_drop]
  · have hn : fewP (doS w l s) l.length = none := by
      rw [fewP, List.findSome?_eq_none_iff]
      exact fun j hj => hno j (by simp at hj hc; omega)
    rw [hn] at q1 q2
    exact Ends.ret rfl (none_ _ 3 q1 q2)
  have hkl : k ≤ l.length := by simp at hc; omega
  have hwk : IntKind.i64.wrap ((k : Int) + 1) = ((k + 1 : Nat) : Int) := wrap_succ (by omega)
  refine callI_give (fun _ => false) (.cons (.keep _) (.cons .nil (.same _))) ?_
  rw [killB_no]
  refine callI_pure (h1 l.length w l s [] k hw hv h9' (Nat.le_refl _) (okBs_nil (by omega)) (by simp) (by omega)) rfl rfl ?_
  unfold partV
  cases hres : partS (doS w l s) l.length k l.length [] with
  | none =>
    simp -dsimp -implicitDefEqProofs only [Option.isSome, hwk, qq, Nat.reduceBEq, reduceIte, Nat.reduceAdd, Nat.reduceSub, Nat.reduceLeDiff, Nat.reduceLT, Nat.reduceMul, Nat.reduceEqDiff, Int.reduceEq, Int.reduceBEq, Int.reduceBNe, Int.reduceLT, Int.reduceLE, Int.reduceGT, Int.reduceGE, Int.reduceNeg, Int.reduceAdd, Int.reduceSub, reduceCtorEq, List.reduceReplicate, ← List.map_take, ← List.map_drop]
    exact ⟨k + 1, by omega, by omega, rfl, fun j hj => by
      rcases Nat.lt_succ_iff_lt_or_eq.1 hj with g | rfl
      · exact hno j g
      · exact hres⟩
  | some b =>
    have hn : fewP (doS w l s) l.length = some b := findSome_range (by omega) hno hres
    rw [hn] at q1 q2
    rw [partR_some hres, q1, q2]
    simp -dsimp -implicitDefEqProofs only [Option.isSome, qq, Nat.reduceBEq, reduceIte, Nat.reduceAdd, Nat.reduceSub, Nat.reduceLeDiff, Nat.reduceLT, Nat.reduceMul, Nat.reduceEqDiff, Int.reduceEq, Int.reduceBEq, Int.reduceBNe, Int.reduceLT, Int.reduceLE, Int.reduceGT, Int.reduceGE, Int.reduceNeg, Int.reduceAdd, Int.reduceSub, reduceCtorEq, List.reduceReplicate, ← List.map_take, ← List.map_drop]
    exact Ends.ret rfl (frz_keep2 rfl rfl)
end Go.Sh.C3
end
section
namespace Go.Sh.C3
open Go.Sh
set_option maxRecDepth 10000
set_option linter.unusedVariables false
set_option linter.unusedSimpArgs false
variable {P : Program}
def ic_potbankref03_Mod : IC := .seq (.reg [⟨some 4, none, .mov (.c (.i .i64 (0)))⟩] [0, 1]) (.seq (.reg [⟨some 5, none, .mov (.t 0)⟩, ⟨some 6, none, .mov (.t 1)⟩, ⟨some 7, none, .bin .rem (.t 5) (.t 6)⟩, ⟨some 8, none, .mov (.t 1)⟩, ⟨some 9, none, .bin .add (.t 7) (.t 8)⟩, ⟨some 10, none, .mov (.t 1)⟩, ⟨some 11, none, .bin .rem (.t 9) (.t 10)⟩, ⟨some 4, none, .mov (.t 11)⟩] [4]) (.ret))
abbrev Low_potbankref03_Mod (P : Program) (f : Nat) : Prop := lowF P f = some (12, [.tmp 4], (ic_potbankref03_Mod).erase)
def ic_potbankref03_Made (f0 : Nat) : IC := .seq (.reg [⟨some 4, none, .mov (.c (.nsl))⟩] [0, 1]) (.seq (.reg [⟨some 5, none, .mov (.c (.nsl))⟩] [0, 1, 5]) (.seq (.seq (.reg [⟨some 6, none, .mov (.c (.i .i64 (0)))⟩] [0, 1, 5, 6]) (.block 0 (.loop (.seq (.seq (.reg [⟨some 11, none, .mov (.t 6)⟩, ⟨some 12, none, .mov (.t 0)⟩, ⟨some 13, none, .len false (.t 12)⟩, ⟨some 14, none, .bin .lss (.t 11) (.t 13)⟩, ⟨some 15, none, .mov (.t 14)⟩, ⟨some 16, some (15, true), .mov (.t 6)⟩, ⟨some 17, some (15, true), .mov (.t 1)⟩, ⟨some 18, some (15, true), .bin .lss (.t 16) (.t 17)⟩, ⟨some 19, none, .pick (.t 15) (.t 18) (.c (.b false))⟩] [0, 1, 5, 6, 19]) (.cond (.t 19) (.skip) (.exit 0))) (.seq (.block 1 (.seq (.reg [⟨some 22, none, .mov (.t 0)⟩, ⟨some 23, none, .mov (.t 6)⟩, ⟨some 24, none, .ixs 7 (.t 22) (.t 23)⟩, ⟨some 25, none, .ld (some 7) (.t 24)⟩, ⟨some 7, none, .alloc [.i .i64 (0), .i .i64 (0), .i .i64 (0), .i .i64 (0), .i .i64 (0), .i .i64 (0), .i .i64 (0)]⟩, ⟨none, none, .st 7 (.t 7) (.t 25)⟩] [0, 1, 5, 6, 7]) (.seq (.reg [⟨some 26, none, .ixa 7 1 (.t 7) (.c (.i .i64 (0)))⟩, ⟨some 27, none, .ld none (.t 26)⟩, ⟨some 28, none, .calv (.c (.fn (.func f0) [] [])) [.t 27, .c (.i .i64 (200))]⟩, ⟨some 8, none, .mov (.t 28)⟩] [0, 1, 5, 6, 7, 8]) (.seq (.reg [⟨some 29, none, .ixa 7 1 (.t 7) (.c (.i .i64 (2)))⟩, ⟨some 30, none, .ld none (.t 29)⟩, ⟨some 31, none, .calv (.c (.fn (.func f0) [] [])) [.t 30, .c (.i .i64 (900))]⟩, ⟨some 9, none, .mov (.t 31)⟩] [0, 1, 5, 6, 7, 8, 9]) (.seq (.reg [⟨some 32, none, .ixa 7 1 (.t 7) (.c (.i .i64 (4)))⟩, ⟨some 33, none, .ld none (.t 32)⟩, ⟨some 34, none, .calv (.c (.fn (.func f0) [] [])) [.t 33, .c (.i .i64 (300))]⟩, ⟨some 35, none, .bin .add (.c (.i .i64 (20))) (.t 34)⟩, ⟨some 10, none, .mov (.t 35)⟩] [0, 1, 5, 6, 7, 8, 9, 10]) (.drg [(0, ⟨some 36, none, .mov (.t 5)⟩), (0, ⟨some 37, none, .mov (.t 6)⟩), (0, ⟨some 38, none, .bin .add (.c (.i .i64 (1))) (.t 37)⟩), (0, ⟨some 39, none, .ixa 7 1 (.t 7) (.c (.i .i64 (6)))⟩), (0, ⟨some 40, none, .ld none (.t 39)⟩), (0, ⟨some 41, none, .calv (.c (.fn (.func f0) [] [])) [.t 40, .c (.i .i64 (20))]⟩), (0, ⟨some 42, none, .bin .mul (.c (.i .i64 (40))) (.t 41)⟩), (0, ⟨some 43, none, .bin .add (.t 38) (.t 42)⟩), (0, ⟨some 44, none, .mov (.t 8)⟩), (0, ⟨some 45, none, .mov (.t 8)⟩), (0, ⟨some 46, none, .ixa 7 1 (.t 7) (.c (.i .i64 (1)))⟩), (0, ⟨some 47, none, .ld none (.t 46)⟩), (0, ⟨some 48, none, .calv (.c (.fn (.func f0) [] [])) [.t 47, .c (.i .i64 (40))]⟩), (0, ⟨some 49, none, .bin .add (.t 45) (.t 48)⟩), (0, ⟨some 50, none, .bld [.i .i64 (0), .i .i64 (0)] [(0, 1, (.t 44)), (1, 1, (.t 49))]⟩), (0, ⟨some 51, none, .mov (.t 9)⟩), (0, ⟨some 52, none, .mov (.t 9)⟩), (0, ⟨some 53, none, .ixa 7 1 (.t 7) (.c (.i .i64 (3)))⟩), (0, ⟨some 54, none, .ld none (.t 53)⟩), (0, ⟨some 55, none, .calv (.c (.fn (.func f0) [] [])) [.t 54, .c (.i .i64 (60))]⟩), (0, ⟨some 56, none, .bin .add (.t 52) (.t 55)⟩), (0, ⟨some 57, none, .bld [.i .i64 (0), .i .i64 (0)] [(0, 1, (.t 51)), (1, 1, (.t 56))]⟩), (0, ⟨some 58, none, .mov (.t 10)⟩), (0, ⟨some 59, none, .mov (.t 10)⟩), (0, ⟨some 60, none, .ixa 7 1 (.t 7) (.c (.i .i64 (5)))⟩), (0, ⟨some 61, none, .ld none (.t 60)⟩), (0, ⟨some 62, none, .calv (.c (.fn (.func f0) [] [])) [.t 61, .c (.i .i64 (12))]⟩), (0, ⟨some 63, none, .bin .add (.t 59) (.t 62)⟩), (0, ⟨some 64, none, .bld [.i .i64 (0), .i .i64 (0)] [(0, 1, (.t 58)), (1, 1, (.t 63))]⟩), (0, ⟨some 65, none, .ixa 7 1 (.t 7) (.c (.i .i64 (6)))⟩), (0, ⟨some 66, none, .ld none (.t 65)⟩), (0, ⟨some 67, none, .calv (.c (.fn (.func f0) [] [])) [.t 66, .c (.i .i64 (25))]⟩), (0, ⟨some 68, none, .bld [.i .i64 (0), .i .i64 (0), .i .i64 (0), .i .i64 (0), .i .i64 (0), .i .i64 (0), .i .i64 (0), .i .i64 (0)] [(0, 1, (.t 43)), (1, 2, (.t 50)), (3, 2, (.t 57)), (5, 2, (.t 64)), (7, 1, (.t 67))]⟩), (1, ⟨some 69, none, .bsl false 8 1 [.i .i64 (0), .i .i64 (0), .i .i64 (0), .i .i64 (0), .i .i64 (0), .i .i64 (0), .i .i64 (0), .i .i64 (0)] [(0, (.t 68))]⟩), (1, ⟨some 70, none, .app 8 64 (.t 36) (.t 69)⟩), (0, ⟨some 5, none, .mov (.t 70)⟩)] 34 [0, 1, 5, 6])))))) (.reg [⟨some 20, none, .mov (.t 6)⟩, ⟨some 21, none, .bin .add (.t 20) (.c (.i .i64 (1)))⟩, ⟨some 6, none, .mov (.t 21)⟩] [0, 1, 5, 6])))))) (.seq (.reg [⟨some 71, none, .mov (.t 5)⟩, ⟨some 4, none, .mov (.t 71)⟩] [4]) (.ret))))
abbrev Low_potbankref03_Made (P : Program) (f f0 : Nat) : Prop := lowF P f = some (72, [.tmp 4], (ic_potbankref03_Made f0).erase)
def ic_potbankref03_Wad (f0 : Nat) : IC := .seq (.reg [⟨some 1, none, .box (.t 0)⟩, ⟨some 2, none, .alloc [.i .i64 (0), .i .i64 (0)]⟩] [1, 2]) (.seq (.reg [⟨some 4, none, .ixa 2 1 (.t 1) (.c (.i .i64 (0)))⟩, ⟨some 5, none, .ld none (.t 4)⟩, ⟨some 6, none, .calv (.c (.fn (.func f0) [] [])) [.t 5, .c (.i .i64 (15))]⟩, ⟨some 3, none, .mov (.t 6)⟩] [1, 2, 3]) (.seq (.reg [⟨some 7, none, .mov (.t 3)⟩, ⟨some 8, none, .mov (.t 3)⟩, ⟨some 9, none, .ixa 2 1 (.t 1) (.c (.i .i64 (1)))⟩, ⟨some 10, none, .ld none (.t 9)⟩, ⟨some 11, none, .calv (.c (.fn (.func f0) [] [])) [.t 10, .c (.i .i64 (10))]⟩, ⟨some 12, none, .bin .add (.t 8) (.t 11)⟩, ⟨some 13, none, .bld [.i .i64 (0), .i .i64 (0)] [(0, 1, (.t 7)), (1, 1, (.t 12))]⟩, ⟨none, none, .st 2 (.t 2) (.t 13)⟩] [2]) (.ret)))
abbrev Low_potbankref03_Wad (P : Program) (f f0 : Nat) : Prop := lowF P f = some (14, [.cell 2 (some 2)], (ic_potbankref03_Wad f0).erase)
def ic_potbankref03_Shuffled (f0 : Nat) : IC := .seq (.reg [⟨some 4, none, .mov (.c (.nsl))⟩] [0, 1]) (.seq (.reg [⟨some 5, none, .mov (.c (.nsl))⟩] [0, 1, 5]) (.seq (.seq (.reg [⟨some 6, none, .mov (.c (.i .i64 (0)))⟩] [0, 1, 5, 6]) (.block 0 (.loop (.seq (.seq (.reg [⟨some 10, none, .mov (.t 6)⟩, ⟨some 11, none, .mov (.t 0)⟩, ⟨some 12, none, .bin .lss (.t 10) (.t 11)⟩] [0, 1, 5, 6, 12]) (.cond (.t 12) (.skip) (.exit 0))) (.seq (.block 1 (.reg [⟨some 15, none, .mov (.t 5)⟩, ⟨some 16, none, .mov (.t 6)⟩, ⟨some 17, none, .bsl false 1 1 [.i .i64 (0)] [(0, (.t 16))]⟩, ⟨some 18, none, .app 1 8 (.t 15) (.t 17)⟩, ⟨some 5, none, .mov (.t 18)⟩] [0, 1, 5, 6])) (.reg [⟨some 13, none, .mov (.t 6)⟩, ⟨some 14, none, .bin .add (.t 13) (.c (.i .i64 (1)))⟩, ⟨some 6, none, .mov (.t 14)⟩] [0, 1, 5, 6])))))) (.seq (.reg [⟨some 7, none, .mov (.c (.nsl))⟩] [0, 1, 5, 7]) (.seq (.seq (.reg [⟨some 8, none, .mov (.c (.i .i64 (0)))⟩] [0, 1, 5, 7, 8]) (.block 2 (.loop (.seq (.seq (.reg [⟨some 19, none, .mov (.t 8)⟩, ⟨some 20, none, .mov (.t 0)⟩, ⟨some 21, none, .bin .lss (.t 19) (.t 20)⟩] [0, 1, 5, 7, 8, 21]) (.cond (.t 21) (.skip) (.exit 2))) (.seq (.block 3 (.seq (.reg [⟨some 9, none, .mov (.c (.i .i64 (0)))⟩] [0, 1, 5, 7, 8, 9]) (.seq (.seq (.reg [⟨some 24, none, .mov (.t 1)⟩, ⟨some 25, none, .len false (.t 24)⟩, ⟨some 26, none, .bin .gtr (.t 25) (.c (.i .i64 (0)))⟩] [0, 1, 5, 7, 8, 9, 26]) (.cond (.t 26) (.reg [⟨some 27, none, .mov (.t 1)⟩, ⟨some 28, none, .mov (.t 8)⟩, ⟨some 29, none, .mov (.t 1)⟩, ⟨some 30, none, .len false (.t 29)⟩, ⟨some 31, none, .bin .rem (.t 28) (.t 30)⟩, ⟨some 32, none, .ixs 1 (.t 27) (.t 31)⟩, ⟨some 33, none, .ld none (.t 32)⟩, ⟨some 34, none, .mov (.t 5)⟩, ⟨some 35, none, .len false (.t 34)⟩, ⟨some 36, none, .calv (.c (.fn (.func f0) [] [])) [.t 33, .t 35]⟩, ⟨some 9, none, .mov (.t 36)⟩] [0, 1, 5, 7, 8, 9]) (.skip))) (.seq (.reg [⟨some 37, none, .mov (.t 7)⟩, ⟨some 38, none, .mov (.t 5)⟩, ⟨some 39, none, .mov (.t 9)⟩, ⟨some 40, none, .ixs 1 (.t 38) (.t 39)⟩, ⟨some 41, none, .ld none (.t 40)⟩, ⟨some 42, none, .bsl false 1 1 [.i .i64 (0)] [(0, (.t 41))]⟩, ⟨some 43, none, .app 1 8 (.t 37) (.t 42)⟩, ⟨some 7, none, .mov (.t 43)⟩] [0, 1, 5, 7, 8, 9]) (.drg [(1, ⟨some 44, none, .bsl false 1 0 [.i .i64 (0)] []⟩), (0, ⟨some 45, none, .mov (.t 5)⟩), (0, ⟨some 46, none, .mov (.t 9)⟩), (0, ⟨some 47, none, .slc 1 (.t 45) none (some (.t 46)) none⟩), (1, ⟨some 48, none, .app 1 8 (.t 44) (.t 47)⟩), (0, ⟨some 49, none, .mov (.t 5)⟩), (0, ⟨some 50, none, .mov (.t 9)⟩), (0, ⟨some 51, none, .bin .add (.t 50) (.c (.i .i64 (1)))⟩), (0, ⟨some 52, none, .slc 1 (.t 49) (some (.t 51)) none none⟩), (1, ⟨some 53, none, .app 1 8 (.t 48) (.t 52)⟩), (0, ⟨some 5, none, .mov (.t 53)⟩)] 9 [0, 1, 5, 7, 8]))))) (.reg [⟨some 22, none, .mov (.t 8)⟩, ⟨some 23, none, .bin .add (.t 22) (.c (.i .i64 (1)))⟩, ⟨some 8, none, .mov (.t 23)⟩] [0, 1, 5, 7, 8])))))) (.seq (.reg [⟨some 54, none, .mov (.t 7)⟩, ⟨some 4, none, .mov (.t 54)⟩] [4]) (.ret))))))
abbrev Low_potbankref03_Shuffled (P : Program) (f f0 : Nat) : Prop := lowF P f = some (55, [.tmp 4], (ic_potbankref03_Shuffled f0).erase)
def ic_potbanklaw03_one (f0 : Nat) : IC := .seq (.reg [⟨some 2, none, .box (.t 0)⟩, ⟨some 4, none, .mov (.c (.i .i64 (0)))⟩] [1, 2]) (.seq (.drg [(0, ⟨some 5, none, .fad 0 (.t 2)⟩), (0, ⟨some 6, none, .ld none (.t 5)⟩), (0, ⟨some 7, none, .mov (.t 1)⟩), (0, ⟨some 8, none, .fad 1 (.t 2)⟩), (0, ⟨some 9, none, .ld none (.t 8)⟩), (0, ⟨some 10, none, .fad 0 (.t 2)⟩), (0, ⟨some 11, none, .ld none (.t 10)⟩), (0, ⟨some 12, none, .bin .sub (.t 9) (.t 11)⟩), (0, ⟨some 13, none, .bin .add (.t 12) (.c (.i .i64 (1)))⟩), (0, ⟨some 14, none, .calv (.c (.fn (.func f0) [] [])) [.t 7, .t 13]⟩), (0, ⟨some 15, none, .bin .add (.t 6) (.t 14)⟩), (0, ⟨some 4, none, .mov (.t 15)⟩)] 10 [4]) (.ret))
abbrev Low_potbanklaw03_one (P : Program) (f f0 : Nat) : Prop := lowF P f = some (16, [.tmp 4], (ic_potbanklaw03_one f0).erase)
def ic_potbanklaw03_at : IC := .seq (.reg [⟨some 4, none, .mov (.c (.i .i64 (0)))⟩] [0, 1]) (.seq (.seq (.reg [⟨some 5, none, .mov (.t 0)⟩, ⟨some 6, none, .len false (.t 5)⟩, ⟨some 7, none, .bin .eql (.t 6) (.c (.i .i64 (0)))⟩] [0, 1, 7]) (.cond (.t 7) (.seq (.reg [⟨some 4, none, .mov (.c (.i .i64 (0)))⟩] [4]) (.ret)) (.skip))) (.seq (.reg [⟨some 8, none, .mov (.t 0)⟩, ⟨some 9, none, .mov (.t 1)⟩, ⟨some 10, none, .mov (.t 0)⟩, ⟨some 11, none, .len false (.t 10)⟩, ⟨some 12, none, .bin .rem (.t 9) (.t 11)⟩, ⟨some 13, none, .ixs 1 (.t 8) (.t 12)⟩, ⟨some 14, none, .ld none (.t 13)⟩, ⟨some 4, none, .mov (.t 14)⟩] [4]) (.ret)))
abbrev Low_potbanklaw03_at (P : Program) (f : Nat) : Prop := lowF P f = some (15, [.tmp 4], (ic_potbanklaw03_at).erase)
def ic_potbanklaw03_stack (f0 f1 f2 : Nat) : IC := .seq (.reg [⟨some 5, none, .box (.t 2)⟩, ⟨some 6, none, .alloc [.i .i64 (0), .i .i64 (0), .nsl]⟩] [0, 1, 5, 6]) (.seq (.reg [⟨some 11, none, .mov (.t 0)⟩, ⟨some 12, none, .calv (.c (.fn (.func f0) [] [])) [.t 11, .c (.i .i64 (12))]⟩, ⟨some 7, none, .mov (.t 12)⟩] [1, 5, 6, 7]) (.seq (.seq (.reg [⟨some 13, none, .mov (.t 7)⟩, ⟨some 14, none, .len false (.t 13)⟩, ⟨some 15, none, .bin .eql (.t 14) (.c (.i .i64 (0)))⟩] [1, 5, 6, 7, 15]) (.cond (.t 15) (.reg [⟨some 16, none, .bld [.i .i64 (0), .i .i64 (0), .i .i64 (0), .i .i64 (0), .i .i64 (0), .i .i64 (0), .i .i64 (0)] []⟩, ⟨some 17, none, .bsl false 7 1 [.i .i64 (0), .i .i64 (0), .i .i64 (0), .i .i64 (0), .i .i64 (0), .i .i64 (0), .i .i64 (0)] [(0, (.t 16))]⟩, ⟨some 18, none, .calv (.c (.fn (.func f0) [] [])) [.t 17, .c (.i .i64 (1))]⟩, ⟨some 7, none, .mov (.t 18)⟩] [1, 5, 6, 7]) (.skip))) (.seq (.reg [⟨some 19, none, .ld (some 2) (.t 5)⟩, ⟨some 20, none, .calv (.c (.fn (.func f1) [] [])) [.t 19]⟩, ⟨some 21, none, .bld [.i .i64 (0), .i .i64 (0), .nsl] [(0, 2, (.t 20))]⟩, ⟨some 8, none, .alloc [.i .i64 (0), .i .i64 (0), .nsl]⟩, ⟨none, none, .st 3 (.t 8) (.t 21)⟩] [1, 6, 7, 8]) (.seq (.reg [⟨some 22, none, .mov (.t 7)⟩, ⟨some 23, none, .len false (.t 22)⟩, ⟨some 24, none, .mov (.t 1)⟩, ⟨some 25, none, .calv (.c (.fn (.func f2) [] [])) [.t 23, .t 24]⟩, ⟨some 9, none, .mov (.t 25)⟩] [6, 7, 8, 9]) (.seq (.seq (.reg [⟨some 10, none, .mov (.c (.i .i64 (0)))⟩] [6, 7, 8, 9, 10]) (.block 0 (.loop (.seq (.seq (.reg [⟨some 26, none, .mov (.t 10)⟩, ⟨some 27, none, .mov (.t 9)⟩, ⟨some 28, none, .len false (.t 27)⟩, ⟨some 29, none, .bin .lss (.t 26) (.t 28)⟩] [6, 7, 8, 9, 10, 29]) (.cond (.t 29) (.skip) (.exit 0))) (.seq (.block 1 (.drg [(0, ⟨some 32, none, .fad 2 (.t 8)⟩), (0, ⟨some 33, none, .ld none (.t 32)⟩), (0, ⟨some 34, none, .mov (.t 7)⟩), (0, ⟨some 35, none, .mov (.t 9)⟩), (0, ⟨some 36, none, .mov (.t 10)⟩), (0, ⟨some 37, none, .ixs 1 (.t 35) (.t 36)⟩), (0, ⟨some 38, none, .ld none (.t 37)⟩), (0, ⟨some 39, none, .ixs 8 (.t 34) (.t 38)⟩), (0, ⟨some 40, none, .ld (some 8) (.t 39)⟩), (1, ⟨some 41, none, .bsl false 8 1 [.i .i64 (0), .i .i64 (0), .i .i64 (0), .i .i64 (0), .i .i64 (0), .i .i64 (0), .i .i64 (0), .i .i64 (0)] [(0, (.t 40))]⟩), (1, ⟨some 42, none, .app 8 64 (.t 33) (.t 41)⟩), (0, ⟨some 43, none, .fad 2 (.t 8)⟩), (1, ⟨none, none, .st 1 (.t 43) (.t 42)⟩)] 10 [6, 7, 8, 9, 10])) (.reg [⟨some 30, none, .mov (.t 10)⟩, ⟨some 31, none, .bin .add (.t 30) (.c (.i .i64 (1)))⟩, ⟨some 10, none, .mov (.t 31)⟩] [6, 7, 8, 9, 10])))))) (.seq (.reg [⟨some 44, none, .ld (some 3) (.t 8)⟩, ⟨none, none, .st 3 (.t 6) (.t 44)⟩] [6]) (.ret)))))))
abbrev Low_potbanklaw03_stack (P : Program) (f f0 f1 f2 : Nat) : Prop := lowF P f = some (45, [.cell 6 (some 3)], (ic_potbanklaw03_stack f0 f1 f2).erase)

theorem tn0 : Int.toNat 0 * 1 = 0 := rfl
theorem tl0 : ((0 : Int) < ((7 : Nat) : Int)) = True := by decide
theorem tn1 : Int.toNat 1 * 1 = 1 := rfl
theorem tl1 : ((1 : Int) < ((7 : Nat) : Int)) = True := by decide
theorem tn2 : Int.toNat 2 * 1 = 2 := rfl
theorem tl2 : ((2 : Int) < ((7 : Nat) : Int)) = True := by decide
theorem tn3 : Int.toNat 3 * 1 = 3 := rfl
theorem tl3 : ((3 : Int) < ((7 : Nat) : Int)) = True := by decide
theorem tn4 : Int.toNat 4 * 1 = 4 := rfl
theorem tl4 : ((4 : Int) < ((7 : Nat) : Int)) = True := by decide
theorem tn5 : Int.toNat 5 * 1 = 5 := rfl
theorem tl5 : ((5 : Int) < ((7 : Nat) : Int)) = True := by decide
theorem tn6 : Int.toNat 6 * 1 = 6 := rfl
theorem tl6 : ((6 : Int) < ((7 : Nat) : Int)) = True := by decide
theorem tw0 : ((0 : Int) < ((2 : Nat) : Int)) = True := by decide
theorem tw1 : ((1 : Int) < ((2 : Nat) : Int)) = True := by decide
theorem mod_eq {n m : Int} (hm : 0 < m) : (n.tmod m + m).tmod m = n % m := by
  have h1 : -m < n.tmod m := by have := Int.lt_tmod_of_pos n hm; omega
  have h3 : n.tmod m < m := Int.tmod_lt_of_pos n hm
  rw [Int.tmod_eq_emod_of_nonneg (by omega), Int.add_emod_right]
  have h4 : n.tmod m = n - m * n.tdiv m := by have := Int.mul_tdiv_add_tmod n m; omega
  rw [h4, Int.sub_mul_emod_self_left]
def C_Mod (P : Program) (f : Nat) : Prop := ∀ n m : Int, 0 < m → m ≤ 1000000000 → Snd P f [.i .i64 n, .i .i64 m] [] (.i .i64 (n % m)) []
theorem ok_Mod (hm : P.follows .mixedOrders = true) {f : Nat} (low : Low_potbankref03_Mod P f) : C_Mod P f := by
  intro n m h0 h1
  have h3 : n.tmod m < m := Int.tmod_lt_of_pos n h0
  have h2 : -m < n.tmod m := by have := Int.lt_tmod_of_pos n h0; omega
  have hw : IntKind.i64.wrap (n.tmod m + m) = n.tmod m + m := wrap_id (by omega) (by omega)
  have hme := mod_eq (n := n) h0
  have hz : ∀ x : V, (if m = 0 then none else some x) = some x := fun x => if_neg (by omega)
  refine snd_ic hm low (by simp) ?_
  unfold ic_potbankref03_Mod
  simp -dsimp -implicitDefEqProofs only [qq, Nat.reduceBEq, reduceIte, Nat.reduceAdd, Nat.reduceSub, Nat.reduceLeDiff, Nat.reduceLT, Nat.reduceMul, Nat.reduceEqDiff, Int.reduceEq, Int.reduceBEq, Int.reduceBNe, Int.reduceLT, Int.reduceLE, Int.reduceGT, Int.reduceGE, Int.reduceNeg, Int.reduceAdd, Int.reduceSub, reduceCtorEq, List.reduceReplicate, ← List.map_take, ← List.map_drop]
  simp -dsimp -implicitDefEqProofs only [hz, hw, hme, qq, Nat.reduceBEq, reduceIte, Nat.reduceAdd, Nat.reduceSub, Nat.reduceLeDiff, Nat.reduceLT, Nat.reduceMul, Nat.reduceEqDiff, Int.reduceEq, Int.reduceBEq, Int.reduceBNe, Int.reduceLT, Int.reduceLE, Int.reduceGT, Int.reduceGE, Int.reduceNeg, Int.reduceAdd, Int.reduceSub, reduceCtorEq, List.reduceReplicate, ← List.map_take, ← List.map_drop]
  exact Ends.plain rfl rfl rfl
theorem mod_pos {n m : Int} (h : 0 < m) : 0 ≤ n % m ∧ n % m < m := ⟨Int.emod_nonneg _ (by omega), Int.emod_lt_of_pos _ h⟩
def C_one (P : Program) (f : Nat) : Prop := ∀ (r : Rg) (n : Int), rgB r 0 10000000 = true → Snd P f [.agg r.c, .i .i64 n] [] (.i .i64 (r.lo + n % (r.hi - r.lo + 1))) []
theorem ok_one (hm : P.follows .mixedOrders = true) {f f0 : Nat} (low : Low_potbanklaw03_one P f f0) (h0 : C_Mod P f0) : C_one P f := by
  intro r n hr
  simp [rgB] at hr
  have h1 := mod_pos (n := n) (show 0 < r.hi - r.lo + 1 by omega)
  have w1 : IntKind.i64.wrap (r.hi - r.lo) = r.hi - r.lo := wrap_id (by omega) (by omega)
  have w2 : IntKind.i64.wrap (r.hi - r.lo + 1) = r.hi - r.lo + 1 := wrap_id (by omega) (by omega)
  have w3 : IntKind.i64.wrap (r.lo + n % (r.hi - r.lo + 1)) = r.lo + n % (r.hi - r.lo + 1) := wrap_id (by omega) (by omega)
  generalize hd : r.hi - r.lo + 1 = d at *
  refine snd_ic hm low (by simp) ?_
  unfold ic_potbanklaw03_one
  simp -dsimp -implicitDefEqProofs only [qq, Nat.reduceBEq, reduceIte, Nat.reduceAdd, Nat.reduceSub, Nat.reduceLeDiff, Nat.reduceLT, Nat.reduceMul, Nat.reduceEqDiff, Int.reduceEq, Int.reduceBEq, Int.reduceBNe, Int.reduceLT, Int.reduceLE, Int.reduceGT, Int.reduceGE, Int.reduceNeg, Int.reduceAdd, Int.reduceSub, reduceCtorEq, List.reduceReplicate, ← List.map_take, ← List.map_drop]
  simp -dsimp -implicitDefEqProofs only [Rg.c, w1, hd, w2, qq, Nat.reduceBEq, reduceIte, Nat.reduceAdd, Nat.reduceSub, Nat.reduceLeDiff, Nat.reduceLT, Nat.reduceMul, Nat.reduceEqDiff, Int.reduceEq, Int.reduceBEq, Int.reduceBNe, Int.reduceLT, Int.reduceLE, Int.reduceGT, Int.reduceGE, Int.reduceNeg, Int.reduceAdd, Int.reduceSub, reduceCtorEq, List.reduceReplicate, ← List.map_take, ← List.map_drop]
  refine callI_pure (h0 n d (by omega) (by omega)) rfl rfl ?_
  simp -dsimp -implicitDefEqProofs only [w3, qq, Nat.reduceBEq, reduceIte, Nat.reduceAdd, Nat.reduceSub, Nat.reduceLeDiff, Nat.reduceLT, Nat.reduceMul, Nat.reduceEqDiff, Int.reduceEq, Int.reduceBEq, Int.reduceBNe, Int.reduceLT, Int.reduceLE, Int.reduceGT, Int.reduceGE, Int.reduceNeg, Int.reduceAdd, Int.reduceSub, reduceCtorEq, List.reduceReplicate, ← List.map_take, ← List.map_drop]
  exact Ends.plain rfl rfl rfl
def atS (l : List Int) (i : Nat) : Int := if l.length = 0 then 0 else (l[i % l.length]?).getD 0
def C_at (P : Program) (f : Nat) : Prop := ∀ (l : List Int) (i : Nat), i ≤ 1000 → l.length ≤ 1000000000000000 → Snd P f [.fsl (l.map intC), .i .i64 i] [] (.i .i64 (atS l i)) []
theorem ok_at (hm : P.follows .mixedOrders = true) {f : Nat} (low : Low_potbanklaw03_at P f) : C_at P f := by
  intro l i hi hl
  rcases Nat.eq_zero_or_pos l.length with h | h
  · have q : ((l.length : Int) == 0) = true := by simp [h]
    refine snd_ic hm low (by simp) ?_
    unfold ic_potbanklaw03_at
    simp -dsimp -implicitDefEqProofs only [qq, Nat.reduceBEq, reduceIte, Nat.reduceAdd, Nat.reduceSub, Nat.reduceLeDiff, Nat.reduceLT, Nat.reduceMul, Nat.reduceEqDiff, Int.reduceEq, Int.reduceBEq, Int.reduceBNe, Int.reduceLT, Int.reduceLE, Int.reduceGT, Int.reduceGE, Int.reduceNeg, Int.reduceAdd, Int.reduceSub, reduceCtorEq, List.reduceReplicate, ← List.map_take, ← List.map_drop]
    simp -dsimp -implicitDefEqProofs only [q, qq, Nat.reduceBEq, reduceIte, Nat.reduceAdd, Nat.reduceSub, Nat.reduceLeDiff, Nat.reduceLT, Nat.reduceMul, Nat.reduceEqDiff, Int.reduceEq, Int.reduceBEq, Int.reduceBNe, Int.reduceLT, Int.reduceLE, Int.reduceGT, Int.reduceGE, Int.reduceNeg, Int.reduceAdd, Int.reduceSub, reduceCtorEq, List.reduceReplicate, ← List.map_take, ← List.map_drop]
    exact Ends.plain rfl rfl (by rw [atS, if_pos h]; rfl)
  · have q : ((l.length : Int) == 0) = false := by simp; intro e; rw [e] at h; simp at h
    have hz : ∀ x : V, (if (l.length : Int) = 0 then none else some x) = some x := fun x => if_neg (by omega)
    have ht : (i : Int).tmod (l.length : Int) = ((i % l.length : Nat) : Int) := by rw [Int.tmod_eq_emod_of_nonneg (by omega)]; simp
    obtain ⟨x, hx, _, _, _⟩ := next_of (Nat.mod_lt i h)
    refine snd_ic hm low (by simp) ?_
    unfold ic_potbanklaw03_at
    simp -dsimp -implicitDefEqProofs only [qq, Nat.reduceBEq, reduceIte, Nat.reduceAdd, Nat.reduceSub, Nat.reduceLeDiff, Nat.reduceLT, Nat.reduceMul, Nat.reduceEqDiff, Int.reduceEq, Int.reduceBEq, Int.reduceBNe, Int.reduceLT, Int.reduceLE, Int.reduceGT, Int.reduceGE, Int.reduceNeg, Int.reduceAdd, Int.reduceSub, reduceCtorEq, List.reduceReplicate, ← List.map_take, ← List.map_drop]
    simp -dsimp -implicitDefEqProofs only [q, hz, ht, hx, intC, qq, Nat.reduceBEq, reduceIte, Nat.reduceAdd, Nat.reduceSub, Nat.reduceLeDiff, Nat.reduceLT, Nat.reduceMul, Nat.reduceEqDiff, Int.reduceEq, Int.reduceBEq, Int.reduceBNe, Int.reduceLT, Int.reduceLE, Int.reduceGT, Int.reduceGE, Int.reduceNeg, Int.reduceAdd, Int.reduceSub, reduceCtorEq, List.reduceReplicate, ← List.map_take, ← List.map_drop]
    exact Ends.plain rfl rfl (by rw [atS, if_neg (by omega), hx]; rfl)
abbrev wadS (a b : Int) : Rg := ⟨a % 15, a % 15 + b % 10⟩
def C_Wad (P : Program) (f : Nat) : Prop := ∀ a b : Int, Snd P f [.agg [.i .i64 a, .i .i64 b]] [] (.agg (wadS a b).c) []
theorem ok_Wad (hm : P.follows .mixedOrders = true) {f f0 : Nat} (low : Low_potbankref03_Wad P f f0) (h0 : C_Mod P f0) : C_Wad P f := by
  intro a b
  have h1 := mod_pos (n := a) (m := 15) (by decide)
  have h2 := mod_pos (n := b) (m := 10) (by decide)
  have w1 : IntKind.i64.wrap (a % 15 + b % 10) = a % 15 + b % 10 := wrap_id (by omega) (by omega)
  refine snd_ic hm low (by simp) ?_
  unfold ic_potbankref03_Wad
  simp -dsimp -implicitDefEqProofs only [qq, Nat.reduceBEq, reduceIte, Nat.reduceAdd, Nat.reduceSub, Nat.reduceLeDiff, Nat.reduceLT, Nat.reduceMul, Nat.reduceEqDiff, Int.reduceEq, Int.reduceBEq, Int.reduceBNe, Int.reduceLT, Int.reduceLE, Int.reduceGT, Int.reduceGE, Int.reduceNeg, Int.reduceAdd, Int.reduceSub, reduceCtorEq, List.reduceReplicate, ← List.map_take, ← List.map_drop]
  simp -dsimp -implicitDefEqProofs only [tn0, tn1, tw0, tw1, qq, Nat.reduceBEq, reduceIte, Nat.reduceAdd, Nat.reduceSub, Nat.reduceLeDiff, Nat.reduceLT, Nat.reduceMul, Nat.reduceEqDiff, Int.reduceEq, Int.reduceBEq, Int.reduceBNe, Int.reduceLT, Int.reduceLE, Int.reduceGT, Int.reduceGE, Int.reduceNeg, Int.reduceAdd, Int.reduceSub, reduceCtorEq, List.reduceReplicate, ← List.map_take, ← List.map_drop]
  refine callI_pure (h0 a 15 (by decide) (by decide)) rfl rfl ?_
  simp -dsimp -implicitDefEqProofs only [tn0, tn1, tw0, tw1, qq, Nat.reduceBEq, reduceIte, Nat.reduceAdd, Nat.reduceSub, Nat.reduceLeDiff, Nat.reduceLT, Nat.reduceMul, Nat.reduceEqDiff, Int.reduceEq, Int.reduceBEq, Int.reduceBNe, Int.reduceLT, Int.reduceLE, Int.reduceGT, Int.reduceGE, Int.reduceNeg, Int.reduceAdd, Int.reduceSub, reduceCtorEq, List.reduceReplicate, ← List.map_take, ← List.map_drop]
  refine callI_pure (h0 b 10 (by decide) (by decide)) rfl rfl ?_
  simp -dsimp -implicitDefEqProofs only [w1, qq, Nat.reduceBEq, reduceIte, Nat.reduceAdd, Nat.reduceSub, Nat.reduceLeDiff, Nat.reduceLT, Nat.reduceMul, Nat.reduceEqDiff, Int.reduceEq, Int.reduceBEq, Int.reduceBNe, Int.reduceLT, Int.reduceLE, Int.reduceGT, Int.reduceGE, Int.reduceNeg, Int.reduceAdd, Int.reduceSub, reduceCtorEq, List.reduceReplicate, ← List.map_take, ← List.map_drop]
  exact Ends.plain rfl rfl rfl
/-- A saggar's numbers. -/
structure Raw where
  a : Int
  b : Int
  c : Int
  d : Int
  e : Int
  g : Int
  h : Int
abbrev Raw.C (r : Raw) : List V := [.i .i64 r.a, .i .i64 r.b, .i .i64 r.c, .i .i64 r.d, .i .i64 r.e, .i .i64 r.g, .i .i64 r.h]
def madeF (i : Nat) (r : Raw) : Sag := ⟨1 + i + 40 * (r.h % 20), ⟨r.a % 200, r.a % 200 + r.b % 40⟩, ⟨r.c % 900, r.c % 900 + r.d % 60⟩, ⟨20 + r.e % 300, 20 + r.e % 300 + r.g % 12⟩, r.h % 25⟩
def madeS : Nat → List Raw → List Sag
  | _, [] => []
  | i, r :: l => madeF i r :: madeS (i + 1) l
theorem madeS_snoc (x : Raw) : ∀ (i : Nat) (l : List Raw), madeS i (l ++ [x]) = madeS i l ++ [madeF (i + l.length) x]
  | i, [] => rfl
  | i, r :: l => by
    rw [List.cons_append, madeS, madeS, madeS_snoc x (i + 1) l, List.cons_append, List.length_cons, show i + 1 + l.length = i + (l.length + 1) by omega]
theorem madeS_length : ∀ (i : Nat) (l : List Raw), (madeS i l).length = l.length
  | _, [] => rfl
  | i, r :: l => by rw [madeS, List.length_cons, madeS_length, List.length_cons]
def C_Made (P : Program) (f : Nat) : Prop := ∀ (l : List Raw) (most : Nat), most ≤ 12 → Snd P f [.fsl (l.map Raw.C), .i .i64 most] [] (.fsl ((madeS 0 (l.take most)).map Sag.c)) []
set_option maxHeartbeats 2000000 in
theorem ok_Made (hm : P.follows .mixedOrders = true) {f f0 : Nat} (low : Low_potbankref03_Made P f f0) (h0 : C_Mod P f0) : C_Made P f := by
  intro l most hmost
  have end_ : ∀ (k : Nat) (H : List Blk) (v : V), (l.length ≤ k ∨ most ≤ k) → k ≤ most → OwnS H 8 ((madeS 0 (l.take k)).map Sag.c) v → Ends [.tmp 4] [] (.fsl ((madeS 0 (l.take most)).map Sag.c)) [] .ret [(4, v)] H := fun k H v hk hkm ho => by
    have : l.take most = l.take k := by
      rcases hk with hk | hk
      · rw [List.take_of_length_le (by omega), List.take_of_length_le hk]
      · rw [show most = k by omega]
    rw [this]
    exact Ends.ret rfl (ho.frz (by intro r hr; obtain ⟨x, _, rfl⟩ := List.mem_map.1 hr; rfl))
  refine snd_ic hm low (by simp) ?_
  unfold ic_potbankref03_Made
  simp -dsimp -implicitDefEqProofs only [qq, Nat.reduceBEq, reduceIte, Nat.reduceAdd, Nat.reduceSub, Nat.reduceLeDiff, Nat.reduceLT, Nat.reduceMul, Nat.reduceEqDiff, Int.reduceEq, Int.reduceBEq, Int.reduceBNe, Int.reduceLT, Int.reduceLE, Int.reduceGT, Int.reduceGE, Int.reduceNeg, Int.reduceAdd, Int.reduceSub, reduceCtorEq, List.reduceReplicate, ← List.map_take, ← List.map_drop]
  refine loopI_st (fun k : Nat => most - k) (fun k E H => k ≤ most ∧ ∃ v, E = [(0, .fsl (l.map Raw.C)), (1, .i .i64 most), (5, v), (6, .i .i64 k)] ∧ k ≤ l.length ∧ OwnS H 8 ((madeS 0 (l.take k)).map Sag.c) v) 0 ⟨by omega, _, rfl, by omega, .nil _ _⟩ ?_
  rintro k _ H ⟨hk, v, rfl, hkl, ho⟩
  rcases Nat.lt_or_ge k l.length with hkl | hkl
  · have hc : decide ((k : Int) < (l.length : Int)) = true := decide_eq_true (by omega)
    rcases Nat.lt_or_ge k most with hkm | hkm
    · have hc2 : decide ((k : Int) < (most : Int)) = true := decide_eq_true (by omega)
      have hwk : IntKind.i64.wrap ((k : Int) + 1) = ((k + 1 : Nat) : Int) := wrap_succ (by omega)
      obtain ⟨x, hx, _, htk, _⟩ := next_of hkl
      have h200 := mod_pos (n := x.a) (m := 200) (by decide)
      have h40 := mod_pos (n := x.b) (m := 40) (by decide)
      have h900 := mod_pos (n := x.c) (m := 900) (by decide)
      have h60 := mod_pos (n := x.d) (m := 60) (by decide)
      have h300 := mod_pos (n := x.e) (m := 300) (by decide)
      have h12 := mod_pos (n := x.g) (m := 12) (by decide)
      have h20 := mod_pos (n := x.h) (m := 20) (by decide)
      have h25 := mod_pos (n := x.h) (m := 25) (by decide)
      have w1 : IntKind.i64.wrap (20 + x.e % 300) = 20 + x.e % 300 := wrap_id (by omega) (by omega)
      have w2 : IntKind.i64.wrap (1 + (k : Int)) = 1 + (k : Int) := wrap_id (by omega) (by omega)
      have w3 : IntKind.i64.wrap (40 * (x.h % 20)) = 40 * (x.h % 20) := wrap_id (by omega) (by omega)
      have w4 : IntKind.i64.wrap (1 + (k : Int) + 40 * (x.h % 20)) = 1 + (k : Int) + 40 * (x.h % 20) := wrap_id (by omega) (by omega)
      have w5 : IntKind.i64.wrap (x.a % 200 + x.b % 40) = x.a % 200 + x.b % 40 := wrap_id (by omega) (by omega)
      have w6 : IntKind.i64.wrap (x.c % 900 + x.d % 60) = x.c % 900 + x.d % 60 := wrap_id (by omega) (by omega)
      have w7 : IntKind.i64.wrap (20 + x.e % 300 + x.g % 12) = 20 + x.e % 300 + x.g % 12 := wrap_id (by omega) (by omega)
      have hlen : ((madeS 0 (l.take k)).map Sag.c).length = k := by rw [List.length_map, madeS_length, List.length_take]; omega
      have hnew : (madeS 0 (l.take (k + 1))).map Sag.c = (madeS 0 (l.take k)).map Sag.c ++ [(madeF k x).c] := by
        rw [htk, madeS_snoc, List.map_append, Nat.zero_add, List.length_take, Nat.min_eq_left (by omega)]; rfl
      simp -dsimp -implicitDefEqProofs only [hc, hc2, hx, Raw.C, tn0, tn1, tn2, tn3, tn4, tn5, tn6, tl0, tl1, tl2, tl3, tl4, tl5, tl6, qq, Nat.reduceBEq, reduceIte, Nat.reduceAdd, Nat.reduceSub, Nat.reduceLeDiff, Nat.reduceLT, Nat.reduceMul, Nat.reduceEqDiff, Int.reduceEq, Int.reduceBEq, Int.reduceBNe, Int.reduceLT, Int.reduceLE, Int.reduceGT, Int.reduceGE, Int.reduceNeg, Int.reduceAdd, Int.reduceSub, reduceCtorEq, List.reduceReplicate, ← List.map_take, ← List.map_drop]
      refine callI_pure (h0 x.a 200 (by decide) (by decide)) rfl rfl ?_
      simp -dsimp -implicitDefEqProofs only [Raw.C, tn0, tn1, tn2, tn3, tn4, tn5, tn6, tl0, tl1, tl2, tl3, tl4, tl5, tl6, qq, Nat.reduceBEq, reduceIte, Nat.reduceAdd, Nat.reduceSub, Nat.reduceLeDiff, Nat.reduceLT, Nat.reduceMul, Nat.reduceEqDiff, Int.reduceEq, Int.reduceBEq, Int.reduceBNe, Int.reduceLT, Int.reduceLE, Int.reduceGT, Int.reduceGE, Int.reduceNeg, Int.reduceAdd, Int.reduceSub, reduceCtorEq, List.reduceReplicate, ← List.map_take, ← List.map_drop]
      refine callI_pure (h0 x.c 900 (by decide) (by decide)) rfl rfl ?_
      simp -dsimp -implicitDefEqProofs only [Raw.C, tn0, tn1, tn2, tn3, tn4, tn5, tn6, tl0, tl1, tl2, tl3, tl4, tl5, tl6, qq, Nat.reduceBEq, reduceIte, Nat.reduceAdd, Nat.reduceSub, Nat.reduceLeDiff, Nat.reduceLT, Nat.reduceMul, Nat.reduceEqDiff, Int.reduceEq, Int.reduceBEq, Int.reduceBNe, Int.reduceLT, Int.reduceLE, Int.reduceGT, Int.reduceGE, Int.reduceNeg, Int.reduceAdd, Int.reduceSub, reduceCtorEq, List.reduceReplicate, ← List.map_take, ← List.map_drop]
      refine callI_pure (h0 x.e 300 (by decide) (by decide)) rfl rfl ?_
      simp -dsimp -implicitDefEqProofs only [Raw.C, w1, tn0, tn1, tn2, tn3, tn4, tn5, tn6, tl0, tl1, tl2, tl3, tl4, tl5, tl6, qq, Nat.reduceBEq, reduceIte, Nat.reduceAdd, Nat.reduceSub, Nat.reduceLeDiff, Nat.reduceLT, Nat.reduceMul, Nat.reduceEqDiff, Int.reduceEq, Int.reduceBEq, Int.reduceBNe, Int.reduceLT, Int.reduceLE, Int.reduceGT, Int.reduceGE, Int.reduceNeg, Int.reduceAdd, Int.reduceSub, reduceCtorEq, List.reduceReplicate, ← List.map_take, ← List.map_drop]
      refine callI_pure (h0 x.h 20 (by decide) (by decide)) rfl rfl ?_
      simp -dsimp -implicitDefEqProofs only [Raw.C, w1, w2, w3, w4, w5, w6, w7, tn0, tn1, tn2, tn3, tn4, tn5, tn6, tl0, tl1, tl2, tl3, tl4, tl5, tl6, qq, Nat.reduceBEq, reduceIte, Nat.reduceAdd, Nat.reduceSub, Nat.reduceLeDiff, Nat.reduceLT, Nat.reduceMul, Nat.reduceEqDiff, Int.reduceEq, Int.reduceBEq, Int.reduceBNe, Int.reduceLT, Int.reduceLE, Int.reduceGT, Int.reduceGE, Int.reduceNeg, Int.reduceAdd, Int.reduceSub, reduceCtorEq, List.reduceReplicate, ← List.map_take, ← List.map_drop]
      refine callI_pure (h0 x.b 40 (by decide) (by decide)) rfl rfl ?_
      simp -dsimp -implicitDefEqProofs only [Raw.C, w1, w2, w3, w4, w5, w6, w7, tn0, tn1, tn2, tn3, tn4, tn5, tn6, tl0, tl1, tl2, tl3, tl4, tl5, tl6, qq, Nat.reduceBEq, reduceIte, Nat.reduceAdd, Nat.reduceSub, Nat.reduceLeDiff, Nat.reduceLT, Nat.reduceMul, Nat.reduceEqDiff, Int.reduceEq, Int.reduceBEq, Int.reduceBNe, Int.reduceLT, Int.reduceLE, Int.reduceGT, Int.reduceGE, Int.reduceNeg, Int.reduceAdd, Int.reduceSub, reduceCtorEq, List.reduceReplicate, ← List.map_take, ← List.map_drop]
      refine callI_pure (h0 x.d 60 (by decide) (by decide)) rfl rfl ?_
      simp -dsimp -implicitDefEqProofs only [Raw.C, w1, w2, w3, w4, w5, w6, w7, tn0, tn1, tn2, tn3, tn4, tn5, tn6, tl0, tl1, tl2, tl3, tl4, tl5, tl6, qq, Nat.reduceBEq, reduceIte, Nat.reduceAdd, Nat.reduceSub, Nat.reduceLeDiff, Nat.reduceLT, Nat.reduceMul, Nat.reduceEqDiff, Int.reduceEq, Int.reduceBEq, Int.reduceBNe, Int.reduceLT, Int.reduceLE, Int.reduceGT, Int.reduceGE, Int.reduceNeg, Int.reduceAdd, Int.reduceSub, reduceCtorEq, List.reduceReplicate, ← List.map_take, ← List.map_drop]
      refine callI_pure (h0 x.g 12 (by decide) (by decide)) rfl rfl ?_
      simp -dsimp -implicitDefEqProofs only [Raw.C, w1, w2, w3, w4, w5, w6, w7, tn0, tn1, tn2, tn3, tn4, tn5, tn6, tl0, tl1, tl2, tl3, tl4, tl5, tl6, qq, Nat.reduceBEq, reduceIte, Nat.reduceAdd, Nat.reduceSub, Nat.reduceLeDiff, Nat.reduceLT, Nat.reduceMul, Nat.reduceEqDiff, Int.reduceEq, Int.reduceBEq, Int.reduceBNe, Int.reduceLT, Int.reduceLE, Int.reduceGT, Int.reduceGE, Int.reduceNeg, Int.reduceAdd, Int.reduceSub, reduceCtorEq, List.reduceReplicate, ← List.map_take, ← List.map_drop]
      refine callI_pure (h0 x.h 25 (by decide) (by decide)) rfl rfl ?_
      simp -dsimp -implicitDefEqProofs only [Raw.C, w1, w2, w3, w4, w5, w6, w7, tn0, tn1, tn2, tn3, tn4, tn5, tn6, tl0, tl1, tl2, tl3, tl4, tl5, tl6, qq, Nat.reduceBEq, reduceIte, Nat.reduceAdd, Nat.reduceSub, Nat.reduceLeDiff, Nat.reduceLT, Nat.reduceMul, Nat.reduceEqDiff, Int.reduceEq, Int.reduceBEq, Int.reduceBNe, Int.reduceLT, Int.reduceLE, Int.reduceGT, Int.reduceGE, Int.reduceNeg, Int.reduceAdd, Int.reduceSub, reduceCtorEq, List.reduceReplicate, ← List.map_take, ← List.map_drop]
      refine app_ownA (ys := [(madeF k x).c]) ho (by decide) (by decide) (by simp [Sh.shown, List.getElem?_append_right, madeF]) (by simp [V.one]) (by rw [hlen]; simp; omega) fun v' H' hv' _ => ?_
      simp -dsimp -implicitDefEqProofs only [hwk, qq, Nat.reduceBEq, reduceIte, Nat.reduceAdd, Nat.reduceSub, Nat.reduceLeDiff, Nat.reduceLT, Nat.reduceMul, Nat.reduceEqDiff, Int.reduceEq, Int.reduceBEq, Int.reduceBNe, Int.reduceLT, Int.reduceLE, Int.reduceGT, Int.reduceGE, Int.reduceNeg, Int.reduceAdd, Int.reduceSub, reduceCtorEq, List.reduceReplicate, ← List.map_take, ← List.map_drop]
      exact ⟨k + 1, by omega, by omega, v', rfl, by omega, by rw [hnew]; exact hv'⟩
    · have hc2 : decide ((k : Int) < (most : Int)) = false := decide_eq_false (by omega)
      simp -dsimp -implicitDefEqProofs only [hc, hc2, qq, Nat.reduceBEq, reduceIte, Nat.reduceAdd, Nat.reduceSub, Nat.reduceLeDiff, Nat.reduceLT, Nat.reduceMul, Nat.reduceEqDiff, Int.reduceEq, Int.reduceBEq, Int.reduceBNe, Int.reduceLT, Int.reduceLE, Int.reduceGT, Int.reduceGE, Int.reduceNeg, Int.reduceAdd, Int.reduceSub, reduceCtorEq, List.reduceReplicate, ← List.map_take, ← List.map_drop]
      exact end_ k _ _ (.inr hkm) hk ho
  · have hc : decide ((k : Int) < (l.length : Int)) = false := decide_eq_false (by omega)
    simp -dsimp -implicitDefEqProofs only [hc, qq, Nat.reduceBEq, reduceIte, Nat.reduceAdd, Nat.reduceSub, Nat.reduceLeDiff, Nat.reduceLT, Nat.reduceMul, Nat.reduceEqDiff, Int.reduceEq, Int.reduceBEq, Int.reduceBNe, Int.reduceLT, Int.reduceLE, Int.reduceGT, Int.reduceGE, Int.reduceNeg, Int.reduceAdd, Int.reduceSub, reduceCtorEq, List.reduceReplicate, ← List.map_take, ← List.map_drop]
    exact end_ k _ _ (.inl hkl) hk ho

theorem madeF_ok {i : Nat} (hi : i < 40) (r : Raw) : sagB (madeF i r) = true := by
  have h200 := mod_pos (n := r.a) (m := 200) (by decide)
  have h40 := mod_pos (n := r.b) (m := 40) (by decide)
  have h900 := mod_pos (n := r.c) (m := 900) (by decide)
  have h60 := mod_pos (n := r.d) (m := 60) (by decide)
  have h300 := mod_pos (n := r.e) (m := 300) (by decide)
  have h12 := mod_pos (n := r.g) (m := 12) (by decide)
  have h20 := mod_pos (n := r.h) (m := 20) (by decide)
  have h25 := mod_pos (n := r.h) (m := 25) (by decide)
  simp only [sagB, madeF, inR, rgB, Bool.and_eq_true, decide_eq_true_eq]
  repeat' apply And.intro
  all_goals exact decide_eq_true (by omega)
theorem madeS_mem : ∀ {i : Nat} {l : List Raw} {s : Sag}, s ∈ madeS i l → ∃ j r, i ≤ j ∧ j < i + l.length ∧ s = madeF j r
  | _, [], _, h => by simp [madeS] at h
  | i, r :: l, s, h => by
    rw [madeS, List.mem_cons] at h
    rcases h with rfl | h
    · exact ⟨i, r, by omega, by simp, rfl⟩
    · obtain ⟨j, r, h1, h2, rfl⟩ := madeS_mem h
      exact ⟨j, r, by omega, by simp; omega, rfl⟩
theorem madeS_nodup : ∀ (i : Nat) (l : List Raw), i + l.length ≤ 40 → ((madeS i l).map (·.id)).Nodup
  | _, [], _ => by simp [madeS]
  | i, r :: l, h => by
    simp only [List.length_cons] at h
    rw [madeS, List.map_cons, List.nodup_cons]
    refine ⟨fun hm => ?_, madeS_nodup (i + 1) l (by omega)⟩
    obtain ⟨s, hs, he⟩ := List.mem_map.1 hm
    obtain ⟨j, r2, h1, h2, rfl⟩ := madeS_mem hs
    simp only [madeF] at he
    generalize r.h % 20 = u at he
    generalize r2.h % 20 = v at he
    omega
theorem madeS_ok {l : List Raw} (h : l.length ≤ 12) : listB (madeS 0 l) = true := by
  have h1 : ∀ s ∈ madeS 0 l, sagB s = true := fun s hs => by
    obtain ⟨j, r, _, h2, rfl⟩ := madeS_mem hs
    exact madeF_ok (by omega) r
  have h2 := madeS_nodup 0 l (by omega)
  simp only [listB, Bool.and_eq_true, decide_eq_true_eq, List.all_eq_true]
  exact ⟨⟨by rw [madeS_length]; omega, h1⟩, h2⟩
end Go.Sh.C3
end
section
namespace Go.Sh.C3
open Go.Sh
set_option maxRecDepth 10000
set_option linter.unusedVariables false
set_option linter.unusedSimpArgs false
variable {P : Program}

def kS (picks : List Int) (i m : Nat) : Nat := if picks.length = 0 then 0 else (((picks[i % picks.length]?).getD 0) % (m : Int)).toNat
theorem kS_lt {picks : List Int} {i m : Nat} (h : 0 < m) : kS picks i m < m := by
  unfold kS
  split
  · exact h
  · have := mod_pos (n := (picks[i % picks.length]?).getD 0) (m := (m : Int)) (by omega)
    omega
/-- What is left and what came out, after so many rounds. -/
def shufS (picks : List Int) (n : Nat) : Nat → List Int × List Int
  | 0 => (ixS n, [])
  | i + 1 => ((shufS picks n i).1.eraseIdx (kS picks i (shufS picks n i).1.length), (shufS picks n i).2 ++ [((shufS picks n i).1[kS picks i (shufS picks n i).1.length]?).getD 0])
theorem shufS_len {picks : List Int} {n : Nat} : ∀ i, i ≤ n → (shufS picks n i).1.length = n - i
  | 0, _ => by simp [shufS, ixS_length]
  | i + 1, h => by
    have := shufS_len (picks := picks) (n := n) i (by omega)
    have hk := kS_lt (picks := picks) (i := i) (show 0 < (shufS picks n i).1.length by omega)
    rw [shufS, List.length_eraseIdx_of_lt hk]
    omega
theorem shufS_perm {picks : List Int} {n : Nat} : ∀ i, i ≤ n → ((shufS picks n i).2 ++ (shufS picks n i).1).Perm (ixS n)
  | 0, _ => by simp [shufS]
  | i + 1, h => by
    have hl := shufS_len (picks := picks) i (show i ≤ n by omega)
    refine List.Perm.trans ?_ (shufS_perm (picks := picks) i (by omega))
    rw [shufS]
    have hk := kS_lt (picks := picks) (i := i) (show 0 < (shufS picks n i).1.length by omega)
    generalize kS picks i (shufS picks n i).1.length = k at *
    generalize (shufS picks n i).1 = a at *
    obtain ⟨x, hx, _, _, hdr⟩ := next_of hk
    rw [hx, Option.getD_some, List.append_assoc]
    refine List.Perm.append_left _ ?_
    rw [List.eraseIdx_eq_take_drop_succ, List.singleton_append]
    conv => rhs; rw [← List.take_append_drop k a, hdr]
    exact List.perm_middle.symm
def shuffled (picks : List Int) (n : Nat) : List Int := (shufS picks n n).2
theorem shuffled_perm (picks : List Int) (n : Nat) : (shuffled picks n).Perm (ixS n) := by
  have h1 := shufS_perm (picks := picks) n (Nat.le_refl _)
  have h2 := shufS_len (picks := picks) n (Nat.le_refl _)
  rw [Nat.sub_self] at h2
  rw [List.length_eq_zero_iff.1 h2, List.append_nil] at h1
  exact h1
def C_Shuffled (P : Program) (f : Nat) : Prop := ∀ (n : Nat) (picks : List Int), n ≤ 30 → picks.length ≤ 1000000000000000 → Snd P f [.i .i64 n, .fsl (picks.map intC)] [] (.fsl ((shuffled picks n).map intC)) []
set_option maxHeartbeats 2000000 in
theorem ok_Shuffled (hm : P.follows .mixedOrders = true) {f f0 : Nat} (low : Low_potbankref03_Shuffled P f f0) (h0 : C_Mod P f0) : C_Shuffled P f := by
  intro n picks hn hpl
  refine snd_ic hm low (by simp) ?_
  unfold ic_potbankref03_Shuffled
  simp -dsimp -implicitDefEqProofs only [qq, Nat.reduceBEq, reduceIte, Nat.reduceAdd, Nat.reduceSub, Nat.reduceLeDiff, Nat.reduceLT, Nat.reduceMul, Nat.reduceEqDiff, Int.reduceEq, Int.reduceBEq, Int.reduceBNe, Int.reduceLT, Int.reduceLE, Int.reduceGT, Int.reduceGE, Int.reduceNeg, Int.reduceAdd, Int.reduceSub, reduceCtorEq, List.reduceReplicate, ← List.map_take, ← List.map_drop]
  refine loopI_st (fun i : Nat => n - i) (fun i E H => i ≤ n ∧ ∃ v, E = [(0, .i .i64 n), (1, .fsl (picks.map intC)), (5, v), (6, .i .i64 i)] ∧ OwnS H 1 ((ixS i).map intC) v) 0 ⟨by omega, _, rfl, .nil _ _⟩ ?_
  rintro i _ H ⟨hi, v, rfl, ho⟩
  rcases Nat.lt_or_ge i n with hin | hin
  · have hc : decide ((i : Int) < (n : Int)) = true := decide_eq_true (by omega)
    have hwi : IntKind.i64.wrap ((i : Int) + 1) = ((i + 1 : Nat) : Int) := wrap_succ (by omega)
    simp -dsimp -implicitDefEqProofs only [hc, qq, Nat.reduceBEq, reduceIte, Nat.reduceAdd, Nat.reduceSub, Nat.reduceLeDiff, Nat.reduceLT, Nat.reduceMul, Nat.reduceEqDiff, Int.reduceEq, Int.reduceBEq, Int.reduceBNe, Int.reduceLT, Int.reduceLE, Int.reduceGT, Int.reduceGE, Int.reduceNeg, Int.reduceAdd, Int.reduceSub, reduceCtorEq, List.reduceReplicate, ← List.map_take, ← List.map_drop]
    refine app_ownA (ys := [[.i .i64 i]]) ho (by decide) (by decide) (by simp [Sh.shown]) (by simp [V.one]) (by simp [ixS_length]; omega) fun v' H' hv' _ => ?_
    simp -dsimp -implicitDefEqProofs only [hwi, qq, Nat.reduceBEq, reduceIte, Nat.reduceAdd, Nat.reduceSub, Nat.reduceLeDiff, Nat.reduceLT, Nat.reduceMul, Nat.reduceEqDiff, Int.reduceEq, Int.reduceBEq, Int.reduceBNe, Int.reduceLT, Int.reduceLE, Int.reduceGT, Int.reduceGE, Int.reduceNeg, Int.reduceAdd, Int.reduceSub, reduceCtorEq, List.reduceReplicate, ← List.map_take, ← List.map_drop]
    exact ⟨i + 1, by omega, by omega, v', rfl, by rw [ixS_succ, List.map_append]; exact hv'⟩
  obtain rfl : i = n := by omega
  have hc : decide ((i : Int) < (i : Int)) = false := by simp
  simp -dsimp -implicitDefEqProofs only [hc, qq, Nat.reduceBEq, reduceIte, Nat.reduceAdd, Nat.reduceSub, Nat.reduceLeDiff, Nat.reduceLT, Nat.reduceMul, Nat.reduceEqDiff, Int.reduceEq, Int.reduceBEq, Int.reduceBNe, Int.reduceLT, Int.reduceLE, Int.reduceGT, Int.reduceGE, Int.reduceNeg, Int.reduceAdd, Int.reduceSub, reduceCtorEq, List.reduceReplicate, ← List.map_take, ← List.map_drop]
  clear hc hin hi
  refine loopI_st (fun j : Nat => i - j) (fun j E H => j ≤ i ∧ ∃ v u, E = [(0, .i .i64 i), (1, .fsl (picks.map intC)), (5, v), (7, u), (8, .i .i64 j)] ∧ OwnZ H 1 ((shufS picks i j).1.map intC) v ∧ OwnS H 1 ((shufS picks i j).2.map intC) u ∧ Dis u v) 0 ⟨by omega, v, .nsl, rfl, ho.z, .nil _ _, .nil _⟩ ?_
  clear ho v H
  rintro j _ H ⟨hj, v, u, rfl, ho, hu, hd⟩
  have hll := shufS_len (picks := picks) j hj
  have hperm := (shufS_perm (picks := picks) j hj).length_eq
  rw [List.length_append, ixS_length] at hperm
  rcases Nat.lt_or_ge j i with hji | hji
  · have hc : decide ((j : Int) < (i : Int)) = true := decide_eq_true (by omega)
    have hwj : IntKind.i64.wrap ((j : Int) + 1) = ((j + 1 : Nat) : Int) := wrap_succ (by omega)
    have hkl := kS_lt (picks := picks) (i := j) (show 0 < (shufS picks i j).1.length by omega)
    have hnx1 : (shufS picks i (j + 1)).1 = (shufS picks i j).1.eraseIdx (kS picks j (shufS picks i j).1.length) := rfl
    have hnx2 : (shufS picks i (j + 1)).2 = (shufS picks i j).2 ++ [((shufS picks i j).1[kS picks j (shufS picks i j).1.length]?).getD 0] := rfl
    obtain ⟨kk, hkk⟩ : ∃ kk, kk = kS picks j (shufS picks i j).1.length := ⟨_, rfl⟩
    have hkv : picks.length ≠ 0 → (((picks[j % picks.length]?).getD 0) % (((shufS picks i j).1.length : Nat) : Int)) = (kk : Int) := fun h => by
      rw [hkk, kS, if_neg h]
      have := mod_pos (n := (picks[j % picks.length]?).getD 0) (m := (((shufS picks i j).1.length : Nat) : Int)) (by omega)
      omega
    have hk0 : picks.length = 0 → kk = 0 := fun h => by rw [hkk, kS, if_pos h]
    rw [← hkk] at hkl hnx1 hnx2
    generalize (shufS picks i j).1 = a at *
    generalize (shufS picks i j).2 = o at *
    obtain ⟨x, hx, _, _, _⟩ := next_of hkl
    rw [hx, Option.getD_some] at hnx2
    rw [List.eraseIdx_eq_take_drop_succ] at hnx1
    have hos : OwnS H 1 (a.map intC) v := ho.s (by simp; intro e; rw [e] at hkl; simp at hkl)
    obtain ⟨p, c, e, hve, hp⟩ := ho.pos (by simp; intro e; rw [e] at hkl; simp at hkl)
    rw [List.length_map] at hve
    subst hve
    obtain ⟨n2, hn2⟩ : ∃ n2, n2 = a.length := ⟨_, rfl⟩
    rw [← hn2] at hd hos
    rcases Nat.eq_zero_or_pos picks.length with hp0 | hp0
    case' inl =>
      have hgt : decide ((picks.length : Int) > 0) = false := by simp [List.length_eq_zero_iff.1 hp0]
      have hkk0 := hk0 hp0
      subst hkk0
      have hx0 : (a.map intC)[0]? = some (intC x) := by rw [List.getElem?_map, hx]; rfl
      have tz : Int.toNat 0 = 0 := rfl
      simp -dsimp -implicitDefEqProofs only [hc, hgt, hp, tz, hx0, hx, intC, qq, Nat.reduceBEq, reduceIte, Nat.reduceAdd, Nat.reduceSub, Nat.reduceLeDiff, Nat.reduceLT, Nat.reduceMul, Nat.reduceEqDiff, Int.reduceEq, Int.reduceBEq, Int.reduceBNe, Int.reduceLT, Int.reduceLE, Int.reduceGT, Int.reduceGE, Int.reduceNeg, Int.reduceAdd, Int.reduceSub, reduceCtorEq, List.reduceReplicate, ← List.map_take, ← List.map_drop]
      refine ⟨by omega, ?_⟩
      refine app_ownA (ys := [[.i .i64 x]]) hu (by decide) (by decide) (by simp [Sh.shown]) (by simp [V.one]) (by rw [List.length_map]; simp; omega) fun u' H1 hu' hA => ?_
      obtain ⟨hv1, hd1⟩ := hA _ _ _ (hn2 ▸ hos) (hn2 ▸ hd)
      have hp1 : H1[p]? = some (.row 1 (a.map intC)) := by
        obtain ⟨p', c', e', he, hp'⟩ := hv1.pos (by simp; intro e; rw [e] at hkl; simp at hkl)
        rw [List.length_map] at he
        cases he; exact hp'
      have irow : ∀ {r : List V}, r ∈ a.map intC → r.length = 1 ∧ r.all V.one = true := fun hr => by obtain ⟨x, _, rfl⟩ := List.mem_map.1 hr; exact ⟨rfl, rfl⟩
      have hw1 : IntKind.i64.wrap 1 = 1 := by decide
      have tz1 : Int.toNat 1 = 1 := rfl
      simp -dsimp -implicitDefEqProofs only [hw1, hp1, tz, tz1, qq, Nat.reduceBEq, reduceIte, Nat.reduceAdd, Nat.reduceSub, Nat.reduceLeDiff, Nat.reduceLT, Nat.reduceMul, Nat.reduceEqDiff, Int.reduceEq, Int.reduceBEq, Int.reduceBNe, Int.reduceLT, Int.reduceLE, Int.reduceGT, Int.reduceGE, Int.reduceNeg, Int.reduceAdd, Int.reduceSub, reduceCtorEq, List.reduceReplicate, ← List.map_take, ← List.map_drop]
      refine ⟨by simp, by simp, by omega, app_emp (ys := ((a.map intC).drop 0).take 0) (by decide) (by decide) (shown_drop (get_app hp1 _) (by simp)) (fun r hr => by simp at hr) (by simp) fun v1 H2 hn1 => ⟨hn1.z.take, ?_⟩⟩
      have hp2 := hn1.keep _ _ hp1
      simp -dsimp -implicitDefEqProofs only [hw1, hp2, tz, tz1, qq, Nat.reduceBEq, reduceIte, Nat.reduceAdd, Nat.reduceSub, Nat.reduceLeDiff, Nat.reduceLT, Nat.reduceMul, Nat.reduceEqDiff, Int.reduceEq, Int.reduceBEq, Int.reduceBNe, Int.reduceLT, Int.reduceLE, Int.reduceGT, Int.reduceGE, Int.reduceNeg, Int.reduceAdd, Int.reduceSub, reduceCtorEq, List.reduceReplicate, ← List.map_take, ← List.map_drop]
      refine ⟨by omega, by omega, app_newZ (ys := ((a.map intC).drop 1).take (a.length - 1)) hn1.z (by decide) (by decide) (shown_drop hp2 (by simp; omega)) (fun r hr => irow (List.mem_of_mem_drop (List.mem_of_mem_take hr))) (by simp; omega) fun v3 H4 hn3 => ?_⟩
      simp -dsimp -implicitDefEqProofs only [hwj, qq, Nat.reduceBEq, reduceIte, Nat.reduceAdd, Nat.reduceSub, Nat.reduceLeDiff, Nat.reduceLT, Nat.reduceMul, Nat.reduceEqDiff, Int.reduceEq, Int.reduceBEq, Int.reduceBNe, Int.reduceLT, Int.reduceLE, Int.reduceGT, Int.reduceGE, Int.reduceNeg, Int.reduceAdd, Int.reduceSub, reduceCtorEq, List.reduceReplicate, ← List.map_take, ← List.map_drop]
      have e1 : ((a.map intC).drop 1).take (a.length - 1) = (a.map intC).drop 1 := by rw [List.take_of_length_le (by simp)]
      have hv3 := hn3.own
      rw [e1] at hv3
      exact ⟨j + 1, by omega, by omega, v3, u', rfl, by rw [hnx1]; simpa using hv3, by rw [hnx2, List.map_append]; exact hu'.move (fun p b c e hp _ => hn3.keep p b hp), fun p k o l c e k' o' l' c' e' h1 h2 => by have := hu'.lt h1; have := hn3.fresh _ _ _ _ _ _ h2; omega⟩
    case' inr =>
      have hgt : decide ((picks.length : Int) > 0) = true := decide_eq_true (by omega)
      have hz : ∀ x : V, (if (picks.length : Int) = 0 then none else some x) = some x := fun x => if_neg (by omega)
      have ht : (j : Int).tmod (picks.length : Int) = ((j % picks.length : Nat) : Int) := by rw [Int.tmod_eq_emod_of_nonneg (by omega)]; simp
      obtain ⟨y, hy, _, _, _⟩ := next_of (Nat.mod_lt j hp0)
      have hkv' := hkv (by omega)
      rw [hy, Option.getD_some] at hkv'
      simp -dsimp -implicitDefEqProofs only [hc, hgt, hz, ht, hy, intC, qq, Nat.reduceBEq, reduceIte, Nat.reduceAdd, Nat.reduceSub, Nat.reduceLeDiff, Nat.reduceLT, Nat.reduceMul, Nat.reduceEqDiff, Int.reduceEq, Int.reduceBEq, Int.reduceBNe, Int.reduceLT, Int.reduceLE, Int.reduceGT, Int.reduceGE, Int.reduceNeg, Int.reduceAdd, Int.reduceSub, reduceCtorEq, List.reduceReplicate, ← List.map_take, ← List.map_drop]
      refine callI_pure (h0 y a.length (by omega) (by omega)) rfl rfl ?_
      rw [hkv']
      simp -dsimp -implicitDefEqProofs only [hp, hx, intC, qq, Nat.reduceBEq, reduceIte, Nat.reduceAdd, Nat.reduceSub, Nat.reduceLeDiff, Nat.reduceLT, Nat.reduceMul, Nat.reduceEqDiff, Int.reduceEq, Int.reduceBEq, Int.reduceBNe, Int.reduceLT, Int.reduceLE, Int.reduceGT, Int.reduceGE, Int.reduceNeg, Int.reduceAdd, Int.reduceSub, reduceCtorEq, List.reduceReplicate, ← List.map_take, ← List.map_drop]
      refine ⟨by omega, by omega, ?_⟩
      refine app_ownA (ys := [[.i .i64 x]]) hu (by decide) (by decide) (by simp [Sh.shown]) (by simp [V.one]) (by rw [List.length_map]; simp; omega) fun u' H1 hu' hA => ?_
      obtain ⟨hv1, hd1⟩ := hA _ _ _ (hn2 ▸ hos) (hn2 ▸ hd)
      have hp1 : H1[p]? = some (.row 1 (a.map intC)) := by
        obtain ⟨p', c', e', he, hp'⟩ := hv1.pos (by simp; intro e; rw [e] at hkl; simp at hkl)
        rw [List.length_map] at he
        cases he; exact hp'
      have hwk : IntKind.i64.wrap ((kk : Int) + 1) = ((kk + 1 : Nat) : Int) := wrap_succ (by omega)
      have irow : ∀ {r : List V}, r ∈ a.map intC → r.length = 1 ∧ r.all V.one = true := fun hr => by obtain ⟨x, _, rfl⟩ := List.mem_map.1 hr; exact ⟨rfl, rfl⟩
      simp -dsimp -implicitDefEqProofs only [hwk, hp1, qq, Nat.reduceBEq, reduceIte, Nat.reduceAdd, Nat.reduceSub, Nat.reduceLeDiff, Nat.reduceLT, Nat.reduceMul, Nat.reduceEqDiff, Int.reduceEq, Int.reduceBEq, Int.reduceBNe, Int.reduceLT, Int.reduceLE, Int.reduceGT, Int.reduceGE, Int.reduceNeg, Int.reduceAdd, Int.reduceSub, reduceCtorEq, List.reduceReplicate, ← List.map_take, ← List.map_drop]
      refine ⟨by simp, by omega, by omega, app_emp (ys := ((a.map intC).drop 0).take (kk - 0)) (by decide) (by decide) (shown_drop (get_app hp1 _) (by simp; omega)) (fun r hr => irow (List.mem_of_mem_take (by simpa using hr))) (by simp; omega) fun v1 H2 hn1 => ⟨hn1.z.take, ?_⟩⟩
      have hp2 := hn1.keep _ _ hp1
      simp -dsimp -implicitDefEqProofs only [hwk, hp2, qq, Nat.reduceBEq, reduceIte, Nat.reduceAdd, Nat.reduceSub, Nat.reduceLeDiff, Nat.reduceLT, Nat.reduceMul, Nat.reduceEqDiff, Int.reduceEq, Int.reduceBEq, Int.reduceBNe, Int.reduceLT, Int.reduceLE, Int.reduceGT, Int.reduceGE, Int.reduceNeg, Int.reduceAdd, Int.reduceSub, reduceCtorEq, List.reduceReplicate, ← List.map_take, ← List.map_drop]
      refine ⟨by omega, by omega, by omega, app_newZ (ys := ((a.map intC).drop (kk + 1)).take (a.length - (kk + 1))) hn1.z (by decide) (by decide) (shown_drop hp2 (by simp; omega)) (fun r hr => irow (List.mem_of_mem_drop (List.mem_of_mem_take hr))) (by simp; omega) fun v3 H4 hn3 => ?_⟩
      simp -dsimp -implicitDefEqProofs only [hwj, qq, Nat.reduceBEq, reduceIte, Nat.reduceAdd, Nat.reduceSub, Nat.reduceLeDiff, Nat.reduceLT, Nat.reduceMul, Nat.reduceEqDiff, Int.reduceEq, Int.reduceBEq, Int.reduceBNe, Int.reduceLT, Int.reduceLE, Int.reduceGT, Int.reduceGE, Int.reduceNeg, Int.reduceAdd, Int.reduceSub, reduceCtorEq, List.reduceReplicate, ← List.map_take, ← List.map_drop]
      have e0 : ((a.map intC).drop 0).take (kk - 0) = (a.map intC).take kk := by simp
      have e1 : ((a.map intC).drop (kk + 1)).take (a.length - (kk + 1)) = (a.map intC).drop (kk + 1) := by rw [List.take_of_length_le (by simp)]
      have hv3 := hn3.own
      rw [e0, e1] at hv3
      exact ⟨j + 1, by omega, by omega, v3, u', rfl, by rw [hnx1, List.map_append, List.map_take, List.map_drop]; exact hv3, by rw [hnx2, List.map_append]; exact hu'.move (fun p b c e hp _ => hn3.keep p b hp), fun p k o l c e k' o' l' c' e' h1 h2 => by have := hu'.lt h1; have := hn3.fresh _ _ _ _ _ _ h2; omega⟩
  · obtain rfl : j = i := by omega
    have hc : decide ((j : Int) < (j : Int)) = false := by simp
    simp -dsimp -implicitDefEqProofs only [hc, qq, Nat.reduceBEq, reduceIte, Nat.reduceAdd, Nat.reduceSub, Nat.reduceLeDiff, Nat.reduceLT, Nat.reduceMul, Nat.reduceEqDiff, Int.reduceEq, Int.reduceBEq, Int.reduceBNe, Int.reduceLT, Int.reduceLE, Int.reduceGT, Int.reduceGE, Int.reduceNeg, Int.reduceAdd, Int.reduceSub, reduceCtorEq, List.reduceReplicate, ← List.map_take, ← List.map_drop]
    exact Ends.ret rfl (hu.frz (bel_ints _))
end Go.Sh.C3
end
section
namespace Go.Sh.C3
open Go.Sh
set_option maxRecDepth 10000
set_option linter.unusedVariables false
set_option linter.unusedSimpArgs false
variable {P : Program}

theorem killB_2 (a b c : Blk) : killB (fun i => i == 2) [a, b, c] = [a, b, .dead] := rfl
def rawZ : Raw := ⟨0, 0, 0, 0, 0, 0, 0⟩
def sagsS (l : List Raw) : List Sag := if l.length = 0 then madeS 0 [rawZ] else madeS 0 (l.take 12)
theorem sagsS_ok (l : List Raw) : listB (sagsS l) = true := by
  unfold sagsS
  split
  · exact madeS_ok (by simp)
  · exact madeS_ok (by simp; omega)
theorem sagsS_len (l : List Raw) : 0 < (sagsS l).length ∧ (sagsS l).length ≤ 12 := by
  unfold sagsS
  split
  · simp [madeS_length]
  · rw [madeS_length, List.length_take]; omega
def stackS (l : List Raw) (order : List Int) : List Sag := pickS (sagsS l) (shuffled order (sagsS l).length)
theorem shuffled_ok (picks : List Int) (n : Nat) : okIx n (shuffled picks n) := fun i hi => ixS_ok n i ((shuffled_perm picks n).mem_iff.1 hi)
theorem shuffled_nodup (picks : List Int) (n : Nat) : (shuffled picks n).Nodup := (shuffled_perm picks n).nodup_iff.2 (ixS_nodup n)
theorem shuffled_len (picks : List Int) (n : Nat) : (shuffled picks n).length = n := by rw [(shuffled_perm picks n).length_eq, ixS_length]
theorem stackS_ok (l : List Raw) (order : List Int) : listB (stackS l order) = true := listB_pick (sagsS_ok l) (shuffled_ok _ _) (shuffled_nodup _ _)
theorem stackS_len (l : List Raw) (order : List Int) : (stackS l order).length = (sagsS l).length := by rw [stackS, pickS_len (shuffled_ok _ _), shuffled_len]
def C_stack (P : Program) (f : Nat) : Prop := ∀ (l : List Raw) (order : List Int) (a b : Int), order.length ≤ 1000000000000000 → Snd P f [.fsl (l.map Raw.C), .fsl (order.map intC), .agg [.i .i64 a, .i .i64 b]] [] (.agg (bungC (wadS a b) (stackS l order))) []
set_option maxHeartbeats 2000000 in
theorem ok_stack (hm : P.follows .mixedOrders = true) {f f0 f1 f2 : Nat} (low : Low_potbanklaw03_stack P f f0 f1 f2) (h0 : C_Made P f0) (h1 : C_Wad P f1) (h2 : C_Shuffled P f2) : C_stack P f := by
  intro l order a b hol
  have hsl := sagsS_len l
  have hsok := sagsS_ok l
  refine snd_ic hm low (by simp) ?_
  unfold ic_potbanklaw03_stack
  simp -dsimp -implicitDefEqProofs only [qq, Nat.reduceBEq, reduceIte, Nat.reduceAdd, Nat.reduceSub, Nat.reduceLeDiff, Nat.reduceLT, Nat.reduceMul, Nat.reduceEqDiff, Int.reduceEq, Int.reduceBEq, Int.reduceBNe, Int.reduceLT, Int.reduceLE, Int.reduceGT, Int.reduceGE, Int.reduceNeg, Int.reduceAdd, Int.reduceSub, reduceCtorEq, List.reduceReplicate, ← List.map_take, ← List.map_drop]
  refine callI_pure (h0 l 12 (by decide)) rfl rfl ?_
  have hml : (madeS 0 (l.take 12)).length = min 12 l.length := by rw [madeS_length, List.length_take]
  generalize hx : shuffled order (sagsS l).length = x at *
  have hxl : x.length = (sagsS l).length := by rw [← hx]; exact shuffled_len _ _
  have hxo : okIx (sagsS l).length x := by rw [← hx]; exact shuffled_ok _ _
  have hst : stackS l order = pickS (sagsS l) x := by rw [stackS, hx]
  have h2' := h2 (sagsS l).length order (by omega) hol
  rw [hx] at h2'
  rcases Nat.eq_zero_or_pos l.length with hl0 | hl0
  case' inl =>
    have q : (((madeS 0 (l.take 12)).length : Int) == 0) = true := by rw [hml, hl0]; rfl
    have hs : sagsS l = madeS 0 ([rawZ].take 1) := by rw [sagsS, if_pos hl0]; rfl
    simp -dsimp -implicitDefEqProofs only [q, qq, Nat.reduceBEq, reduceIte, Nat.reduceAdd, Nat.reduceSub, Nat.reduceLeDiff, Nat.reduceLT, Nat.reduceMul, Nat.reduceEqDiff, Int.reduceEq, Int.reduceBEq, Int.reduceBNe, Int.reduceLT, Int.reduceLE, Int.reduceGT, Int.reduceGE, Int.reduceNeg, Int.reduceAdd, Int.reduceSub, reduceCtorEq, List.reduceReplicate, ← List.map_take, ← List.map_drop]
    refine callI_give (fun i => i == 2) (.cons (give_lit (rows := [rawZ].map Raw.C) rfl rfl rfl (by intro r hr; simp at hr; subst hr; rfl)) (.cons (.keep _) .nil)) ?_
    rw [killB_2]
    refine callI_pure (h0 [rawZ] 1 (by decide)) rfl rfl ?_
    rw [← hs]
    simp -dsimp -implicitDefEqProofs only [qq, Nat.reduceBEq, reduceIte, Nat.reduceAdd, Nat.reduceSub, Nat.reduceLeDiff, Nat.reduceLT, Nat.reduceMul, Nat.reduceEqDiff, Int.reduceEq, Int.reduceBEq, Int.reduceBNe, Int.reduceLT, Int.reduceLE, Int.reduceGT, Int.reduceGE, Int.reduceNeg, Int.reduceAdd, Int.reduceSub, reduceCtorEq, List.reduceReplicate, ← List.map_take, ← List.map_drop]
  case' inr =>
    have q : (((madeS 0 (l.take 12)).length : Int) == 0) = false := by
      rw [hml]
      have hz : 0 < min 12 l.length := by omega
      generalize min 12 l.length = z at hz
      exact beq_eq_false_iff_ne.2 (by omega)
    have hs : sagsS l = madeS 0 (l.take 12) := by rw [sagsS, if_neg (by omega)]
    simp -dsimp -implicitDefEqProofs only [q, qq, Nat.reduceBEq, reduceIte, Nat.reduceAdd, Nat.reduceSub, Nat.reduceLeDiff, Nat.reduceLT, Nat.reduceMul, Nat.reduceEqDiff, Int.reduceEq, Int.reduceBEq, Int.reduceBNe, Int.reduceLT, Int.reduceLE, Int.reduceGT, Int.reduceGE, Int.reduceNeg, Int.reduceAdd, Int.reduceSub, reduceCtorEq, List.reduceReplicate, ← List.map_take, ← List.map_drop]
    rw [← hs]
  all_goals
    refine callI_pure (h1 a b) rfl rfl ?_
    simp -dsimp -implicitDefEqProofs only [qq, Nat.reduceBEq, reduceIte, Nat.reduceAdd, Nat.reduceSub, Nat.reduceLeDiff, Nat.reduceLT, Nat.reduceMul, Nat.reduceEqDiff, Int.reduceEq, Int.reduceBEq, Int.reduceBNe, Int.reduceLT, Int.reduceLE, Int.reduceGT, Int.reduceGE, Int.reduceNeg, Int.reduceAdd, Int.reduceSub, reduceCtorEq, List.reduceReplicate, ← List.map_take, ← List.map_drop]
    refine callI_pure h2' rfl rfl ?_
    simp -dsimp -implicitDefEqProofs only [qq, Nat.reduceBEq, reduceIte, Nat.reduceAdd, Nat.reduceSub, Nat.reduceLeDiff, Nat.reduceLT, Nat.reduceMul, Nat.reduceEqDiff, Int.reduceEq, Int.reduceBEq, Int.reduceBNe, Int.reduceLT, Int.reduceLE, Int.reduceGT, Int.reduceGE, Int.reduceNeg, Int.reduceAdd, Int.reduceSub, reduceCtorEq, List.reduceReplicate, ← List.map_take, ← List.map_drop]
  case' inl =>
    refine loopI_st (fun i : Nat => x.length - i) (fun i E H => i ≤ x.length ∧ ∃ v, E = [(6, .rpt 1 3 0 0), (7, .fsl ((sagsS l).map Sag.c)), (8, .rpt 3 3 0 0), (9, .fsl (x.map intC)), (10, .i .i64 i)] ∧ H[1]? = some (.row 3 [[.i .i64 0, .i .i64 0, .nsl]]) ∧ H[3]? = some (.row 3 [[.i .i64 (wadS a b).lo, .i .i64 (wadS a b).hi, v]]) ∧ OwnS H 8 ((pickS (sagsS l) (x.take i)).map Sag.c) v) 0 ⟨by omega, .nsl, rfl, rfl, rfl, .nil _ _⟩ ?_
  case' inr =>
    refine loopI_st (fun i : Nat => x.length - i) (fun i E H => i ≤ x.length ∧ ∃ v, E = [(6, .rpt 1 3 0 0), (7, .fsl ((sagsS l).map Sag.c)), (8, .rpt 2 3 0 0), (9, .fsl (x.map intC)), (10, .i .i64 i)] ∧ H[1]? = some (.row 3 [[.i .i64 0, .i .i64 0, .nsl]]) ∧ H[2]? = some (.row 3 [[.i .i64 (wadS a b).lo, .i .i64 (wadS a b).hi, v]]) ∧ OwnS H 8 ((pickS (sagsS l) (x.take i)).map Sag.c) v) 0 ⟨by omega, .nsl, rfl, rfl, rfl, .nil _ _⟩ ?_
  all_goals
    rintro i _ H ⟨hi, v, rfl, hb1, hbq, ho⟩
    rcases Nat.lt_or_ge i x.length with hix | hix
    · have hc : decide ((i : Int) < (x.length : Int)) = true := decide_eq_true (by omega)
      have hwi : IntKind.i64.wrap ((i : Int) + 1) = ((i + 1 : Nat) : Int) := wrap_succ (by omega)
      obtain ⟨y, hy, hym, htk, _⟩ := next_of hix
      have hyb := hxo y hym
      obtain ⟨z, hz, hzm, _, _⟩ := next_of (show y.toNat < (sagsS l).length by omega)
      have hrow : rowAt ((sagsS l).map Sag.c) y = some z.c := rowAt_int hyb.1 hz
      have hpl := pickS_length (sagsS l) (x.take i)
      rw [List.length_take] at hpl
      have hne : ∀ p b3, H[p]? = some (.row 3 b3) → ∀ k o l c e, v ≠ .rsl p k o l c e := fun p b3 hp k o l c e hve => by
        rcases ho with ⟨_, h⟩ | ⟨p', c', e', h, hp'⟩
        · rw [h] at hve; cases hve
        · rw [h] at hve; cases hve
          rw [hp] at hp'; cases hp'
      simp -dsimp -implicitDefEqProofs only [hc, hbq, hy, hrow, intC, Sag.c, qq, Nat.reduceBEq, reduceIte, Nat.reduceAdd, Nat.reduceSub, Nat.reduceLeDiff, Nat.reduceLT, Nat.reduceMul, Nat.reduceEqDiff, Int.reduceEq, Int.reduceBEq, Int.reduceBNe, Int.reduceLT, Int.reduceLE, Int.reduceGT, Int.reduceGE, Int.reduceNeg, Int.reduceAdd, Int.reduceSub, reduceCtorEq, List.reduceReplicate, ← List.map_take, ← List.map_drop]
      refine app_own (ys := [z.c]) (ho.app _) (by decide) (by decide) (by simp [Sh.shown]) (by simp [V.one]) (by rw [List.length_map]; simp; omega) fun v' H' hv' ha hf => ?_
      have hb1' := ha.keep _ _ (get_app hb1 _) (hne _ _ hb1)
      have hbq' := ha.keep _ _ (get_app hbq _) (hne _ _ hbq)
      obtain ⟨p', c', e', rfl, hp'⟩ := hv'.pos (by simp)
      have hqp : ∀ q b3, H'[q]? = some (.row 3 b3) → q ≠ p' := fun q b3 hq e => by rw [e, hp'] at hq; cases hq
      have hnx : (pickS (sagsS l) (x.take (i + 1))).map Sag.c = (pickS (sagsS l) (x.take i)).map Sag.c ++ [z.c] := by rw [htk, pickS_snoc hz, List.map_append]; rfl
      simp -dsimp -implicitDefEqProofs only [hbq', hwi, qq, Nat.reduceBEq, reduceIte, Nat.reduceAdd, Nat.reduceSub, Nat.reduceLeDiff, Nat.reduceLT, Nat.reduceMul, Nat.reduceEqDiff, Int.reduceEq, Int.reduceBEq, Int.reduceBNe, Int.reduceLT, Int.reduceLE, Int.reduceGT, Int.reduceGE, Int.reduceNeg, Int.reduceAdd, Int.reduceSub, reduceCtorEq, List.reduceReplicate, ← List.map_take, ← List.map_drop]
      exact ⟨i + 1, by omega, by omega, rfl, get_setne hb1' (by decide), _, get_setsame hbq', .inr ⟨p', c', e', by rw [hnx]; simp, by rw [hnx]; exact get_setne hp' (hqp _ _ hbq')⟩⟩
    · have hc : decide ((i : Int) < (x.length : Int)) = false := decide_eq_false (by omega)
      rw [List.take_of_length_le hix] at ho
      simp -dsimp -implicitDefEqProofs only [hc, hbq, hb1, qq, Nat.reduceBEq, reduceIte, Nat.reduceAdd, Nat.reduceSub, Nat.reduceLeDiff, Nat.reduceLT, Nat.reduceMul, Nat.reduceEqDiff, Int.reduceEq, Int.reduceBEq, Int.reduceBNe, Int.reduceLT, Int.reduceLE, Int.reduceGT, Int.reduceGE, Int.reduceNeg, Int.reduceAdd, Int.reduceSub, reduceCtorEq, List.reduceReplicate, ← List.map_take, ← List.map_drop]
      refine ⟨by rcases ho with ⟨_, rfl⟩ | ⟨p, c, e, rfl, _⟩ <;> rfl, ?_⟩
      have hg := get_setsame (b' := .row 3 [[.i .i64 (a % 15), .i .i64 (a % 15 + b % 10), v]]) hb1
      have ho2 : OwnS (H.set 1 (.row 3 [[.i .i64 (a % 15), .i .i64 (a % 15 + b % 10), v]])) 8 ((pickS (sagsS l) x).map Sag.c) v := by
        rcases ho with h | ⟨p', c', e', h, hp'⟩
        · exact .inl h
        · exact .inr ⟨p', c', e', h, get_setne hp' (fun e => by rw [← e, hb1] at hp'; cases hp')⟩
      generalize H.set 1 (.row 3 [[.i .i64 (a % 15), .i .i64 (a % 15 + b % 10), v]]) = H2 at *
      have hr : resIs [(6, .rpt 1 3 0 0)] H2 [.cell 6 (some 3)] = some [.agg [.i .i64 (a % 15), .i .i64 (a % 15 + b % 10), v]] := by
        simp only [resIs, resI1]
        rw [show get [(6, V.rpt 1 3 0 0)] 6 = some (.rpt 1 3 0 0) from rfl]
        simp only [hg]
        rfl
      refine Ends.ret hr ?_
      rw [hst]
      refine .agg _ _ rfl fun j w w' e1 e2 => ?_
      match j with
      | 0 => simp at e1 e2; subst e1 e2; exact .keep _ rfl
      | 1 => simp at e1 e2; subst e1 e2; exact .keep _ rfl
      | 2 => simp at e1 e2; subst e1 e2; exact ho2.frz (by intro r hr; obtain ⟨x, _, rfl⟩ := List.mem_map.1 hr; rfl)
      | j + 3 => simp at e1
end Go.Sh.C3
end
section
namespace Go.Sh.C3
open Go.Sh
variable {P : Program}

def oneS (r : Rg) (n : Int) : Int := r.lo + n % (r.hi - r.lo + 1)
theorem oneS_in {r : Rg} (n : Int) (h : r.lo ≤ r.hi) : r.lo ≤ oneS r n ∧ oneS r n ≤ r.hi := by
  have := mod_pos (n := n) (show 0 < r.hi - r.lo + 1 by omega)
  unfold oneS; omega
/-- The weights chosen for the saggars from the k-th one. -/
def wsF (picks : List Int) : Nat → List Sag → List Int
  | _, [] => []
  | k, s :: r => oneS s.w (atS picks k) :: wsF picks (k + 1) r
theorem wsF_length (picks : List Int) : ∀ (k : Nat) (l : List Sag), (wsF picks k l).length = l.length
  | _, [] => rfl
  | k, s :: r => by rw [wsF, List.length_cons, wsF_length, List.length_cons]
theorem wsF_get (picks : List Int) : ∀ (k : Nat) (l : List Sag) (i : Nat), (wsF picks k l)[i]? = (l[i]?).map fun s => oneS s.w (atS picks (k + i))
  | _, [], i => by simp [wsF]
  | k, s :: r, 0 => by simp [wsF]
  | k, s :: r, i + 1 => by rw [wsF, List.getElem?_cons_succ, List.getElem?_cons_succ, wsF_get, show k + 1 + i = k + (i + 1) by omega]
theorem wsF_sum (picks : List Int) : ∀ (k : Nat) (l : List Sag), (∀ s ∈ l, sagB s = true) → (wOf l).lo ≤ (wsF picks k l).sum ∧ (wsF picks k l).sum ≤ (wOf l).hi
  | _, [], _ => by simp [wsF, wOf, sumR]
  | k, s :: r, h => by
    have h1 := wsF_sum picks (k + 1) r fun x hx => h x (by simp [hx])
    have h2 := h s (by simp)
    simp [sagB, rgB, inR] at h2
    have h3 := oneS_in (r := s.w) (atS picks k) (by omega)
    rw [wsF, List.sum_cons, wOf_cons]
    simp only
    omega
theorem wsF_ok (picks : List Int) (k : Nat) (l : List Sag) (h : ∀ s ∈ l, sagB s = true) : wB (wsF picks k l) l (wsF picks k l).length = true := by
  rw [wB, List.all_eq_true]
  intro i hi
  rw [List.mem_range, wsF_length] at hi
  obtain ⟨s, hs, hsm, _, _⟩ := next_of hi
  have h2 := h s hsm
  simp [sagB, rgB, inR] at h2
  have h3 := oneS_in (r := s.w) (atS picks (k + i)) (by omega)
  simp only [wAt, wsF_get, hs, Option.map_some]
  simp [inR, h3]
/-- A break with chosen numbers is accepted just if the load is more. -/
theorem brk_chosen {l : List Sag} (hv : listB l = true) (picks : List Int) {i : Nat} {s : Sag} (hs : l[i]? = some s) (n : Int) : brkB l i (oneS s.b n) (wsF picks (i + 1) (l.drop (i + 1))) = decide (oneS s.b n < (wsF picks (i + 1) (l.drop (i + 1))).sum) := by
  have hil := (List.getElem?_eq_some_iff.1 hs).1
  have hsm := List.mem_of_getElem? hs
  have h2 := sag_w hv hsm
  simp [sagB, rgB, inR] at h2
  have h3 := oneS_in (r := s.b) n (by omega)
  have h4 := wsF_ok picks (i + 1) (l.drop (i + 1)) fun x hx => sag_w hv (List.mem_of_mem_drop hx)
  have h5 := wsF_length picks (i + 1) (l.drop (i + 1))
  rw [h5] at h4
  unfold brkB
  simp only [Int.toNat_natCast, hs, h4, h5]
  simp only [inR, beq_self_eq_true, Bool.true_and]
  rw [decide_eq_true h3.1, decide_eq_true h3.2, decide_eq_true (show (0 : Int) ≤ i by omega), decide_eq_true (show (i : Int) ≤ l.length - 1 by omega)]
  rfl
theorem answerS_zero {a b : Rg} (h : answerS a b = 0) : a.lo > b.hi := by
  unfold answerS at h
  split at h
  · simp at h
  · split at h
    · assumption
    · simp at h
theorem standsS_zero {l : List Sag} (h : standsS l = 0) : 0 ∈ coursesS l := by
  unfold standsS allS at h
  split at h
  · assumption
  · split at h <;> simp at h
theorem courses_at : ∀ {l : List Sag} {i : Nat} {s : Sag}, l[i]? = some s → (coursesS l)[i]? = some (answerS (wOf (l.drop (i + 1))) s.b)
  | [], i, s, h => by simp at h
  | x :: r, 0, s, h => by simp at h; subst h; simp [coursesS]
  | x :: r, i + 1, s, h => by
    rw [coursesS, List.getElem?_cons_succ, List.drop_succ_cons]
    exact courses_at (by simpa using h)
/-- The load chosen at a course. -/
def loadC (picks : List Int) (l : List Sag) (i : Nat) : Int := (wsF picks (i + 1) (l.drop (i + 1))).sum
/-- What stands breaks nowhere. -/
theorem stands_holds {l : List Sag} (hv : listB l = true) (picks : List Int) (h : standsS l = 1) {i : Nat} {s : Sag} (hs : l[i]? = some s) (n : Int) : loadC picks l i ≤ oneS s.b n := by
  have h1 := standsS_one.1 h _ (List.mem_of_getElem? (courses_at hs))
  rw [answerS_one] at h1
  have h2 := sag_w hv (List.mem_of_getElem? hs)
  simp [sagB, rgB, inR] at h2
  have h3 := oneS_in (r := s.b) n (by omega)
  have h4 := wsF_sum picks (i + 1) (l.drop (i + 1)) fun x hx => sag_w hv (List.mem_of_mem_drop hx)
  unfold loadC; omega
/-- What does not stand surely breaks somewhere. -/
theorem falls_breaks {l : List Sag} (hv : listB l = true) (picks : List Int) (h : standsS l = 0) : ∃ (i : Nat) (s : Sag), l[i]? = some s ∧ ∀ n, oneS s.b n < loadC picks l i := by
  obtain ⟨i, hi⟩ := List.mem_iff_getElem?.1 (standsS_zero h)
  have hil : i < l.length := by have := (List.getElem?_eq_some_iff.1 hi).1; rwa [coursesS_length] at this
  obtain ⟨s, hs, _, _, _⟩ := next_of hil
  rw [courses_at hs] at hi
  have h1 := answerS_zero (Option.some.inj hi)
  have h2 := sag_w hv (List.mem_of_getElem? hs)
  simp [sagB, rgB, inR] at h2
  refine ⟨i, s, hs, fun n => ?_⟩
  have h3 := oneS_in (r := s.b) n (by omega)
  have h4 := wsF_sum picks (i + 1) (l.drop (i + 1)) fun x hx => sag_w hv (List.mem_of_mem_drop hx)
  unfold loadC; omega
theorem brkAt_none {l : List Sag} : brkAt l = none ↔ standsS l = 1 := by
  rw [standsS_one, brkAt, List.findIdx?_eq_none_iff]
  constructor
  · intro h x hx; simpa using h x hx
  · intro h x hx; simpa using h x hx
theorem his_sum : ∀ l : List Sag, (l.map fun s => s.w.hi).sum = (wOf l).hi
  | [] => rfl
  | s :: r => by rw [List.map_cons, List.sum_cons, his_sum r, wOf_cons]
theorem brkAt_ok {l : List Sag} (hv : listB l = true) {i : Nat} (h : brkAt l = some i) : ∃ s, l[i]? = some s ∧ brkB l i s.b.lo ((l.drop (i + 1)).map fun s => s.w.hi) = true := by
  rw [brkAt, List.findIdx?_eq_some_iff_getElem] at h
  obtain ⟨hil, hne, _⟩ := h
  have hil2 : i < l.length := by rwa [coursesS_length] at hil
  obtain ⟨s, hs, hsm, _, _⟩ := next_of hil2
  have hc := courses_at hs
  have he : (coursesS l)[i] = answerS (wOf (l.drop (i + 1))) s.b := by rw [List.getElem?_eq_getElem hil] at hc; exact Option.some.inj hc
  rw [he] at hne
  have h1 : ¬ (wOf (l.drop (i + 1))).hi ≤ s.b.lo := fun g => by rw [answerS_one.2 g] at hne; simp at hne
  have h2 := sag_w hv hsm
  simp [sagB, rgB, inR] at h2
  refine ⟨s, hs, ?_⟩
  have h4 : wB ((l.drop (i + 1)).map fun s => s.w.hi) (l.drop (i + 1)) (l.drop (i + 1)).length = true := by
    rw [wB, List.all_eq_true]
    intro k hk
    rw [List.mem_range] at hk
    obtain ⟨z, hz, hzm, _, _⟩ := next_of hk
    have h5 := sag_w hv (List.mem_of_mem_drop hzm)
    simp [sagB, rgB, inR] at h5
    simp only [wAt, List.getElem?_map, hz, Option.map_some]
    simp [inR]; omega
  unfold brkB
  simp only [Int.toNat_natCast, hs, List.length_map, h4, his_sum]
  simp only [inR, beq_self_eq_true, Bool.true_and]
  rw [decide_eq_true (show s.b.lo ≤ s.b.lo by omega), decide_eq_true (show s.b.lo ≤ s.b.hi by omega), decide_eq_true (show (0 : Int) ≤ i by omega), decide_eq_true (show (i : Int) ≤ l.length - 1 by omega), decide_eq_true (show s.b.lo < (wOf (l.drop (i + 1))).hi by omega)]
  rfl
end Go.Sh.C3
end
section
namespace Go.Sh.C3
open Go.Sh
set_option linter.unusedVariables false
set_option linter.unusedSimpArgs false

/-- It stands, course by course. -/
def StP : List Sag → Prop
  | [] => True
  | s :: r => (wOf r).hi ≤ s.b.lo ∧ StP r
theorem stands_StP {l : List Sag} : standsS l = 1 ↔ StP l := by
  rw [standsS_one]
  induction l with
  | nil => simp [coursesS, StP]
  | cons s r ih => simp only [coursesS, List.mem_cons, forall_eq_or_imp, StP, answerS_one, ih]
theorem wOf_nil : wOf [] = ⟨0, 0⟩ := rfl
theorem wOf_app (a b : List Sag) : wOf (a ++ b) = ⟨(wOf a).lo + (wOf b).lo, (wOf a).hi + (wOf b).hi⟩ := by simp [wOf, sumR_append]
theorem stP_swap {x y : Sag} (hx : 0 ≤ x.w.hi) (hs : strS y ≤ strS x) (v : List Sag) : ∀ u : List Sag, StP (u ++ y :: x :: v) → StP (u ++ x :: y :: v)
  | [], h => by
    simp only [List.nil_append, StP, wOf_cons, strS] at h hs ⊢
    refine ⟨by omega, by omega, h.2.2⟩
  | s :: u, h => by
    simp only [List.cons_append, StP, wOf_app, wOf_cons] at h ⊢
    exact ⟨by have := h.1; omega, stP_swap hx hs v u h.2⟩
theorem stP_ins {x : Sag} (hx : 0 ≤ x.w.hi) (v : List Sag) : ∀ (m u : List Sag), (∀ y ∈ m, strS y ≤ strS x) → StP (u ++ (m ++ x :: v)) → StP (u ++ (x :: m ++ v))
  | [], u, _, h => h
  | y :: m, u, hm, h => by
    have h1 := stP_ins hx v m (u ++ [y]) (fun z hz => hm z (by simp [hz])) (by simpa using h)
    have h2 : StP (u ++ y :: x :: (m ++ v)) := by simpa using h1
    simpa using stP_swap hx (hm y (by simp)) (m ++ v) u h2
/-- The strongest lowest. -/
def DescP (l : List Sag) : Prop := l.Pairwise fun a b => strS b ≤ strS a
theorem pickS_cons {l : List Sag} {i : Int} {x : Sag} (h : l[i.toNat]? = some x) (a : List Int) : pickS l (i :: a) = x :: pickS l a := by simp [pickS, h]
theorem mem_pick {l : List Sag} {a : List Int} {z : Sag} (h : z ∈ pickS l a) : ∃ i ∈ a, l[i.toNat]? = some z := by
  simpa [pickS] using h
theorem stP_insI {l : List Sag} (hv : ∀ s ∈ l, sagB s = true) {x : Int} {X : Sag} (hx : l[x.toNat]? = some X) (v : List Sag) : ∀ (a : List Int) (u : List Sag), okIx l.length a → DescP (pickS l a) →
    DescP (pickS l (insI (ordS l) x a)) ∧ (StP (u ++ (pickS l a ++ X :: v)) → StP (u ++ (pickS l (insI (ordS l) x a) ++ v)))
  | [], u, _, _ => by
    rw [insI, pickS_cons hx]
    exact ⟨by simp [DescP, pickS], fun h => by simpa [pickS] using h⟩
  | y :: r, u, ha, hd => by
    have hyl : 0 ≤ y ∧ y < l.length := ha y (by simp)
    obtain ⟨Y, hY⟩ : ∃ Y, l[y.toNat]? = some Y := ⟨l[y.toNat]'(by omega), by simp⟩
    have hX0 : 0 ≤ X.w.hi := by have := hv X (List.mem_of_getElem? hx); simp [sagB, rgB, inR] at this; omega
    rw [pickS_cons hY] at hd ⊢
    have hd' := List.pairwise_cons.1 hd
    rw [insI]
    by_cases hc : ordS l y x < 0
    · rw [if_pos hc, pickS_cons hY]
      obtain ⟨h1, h2⟩ := stP_insI hv hx v r (u ++ [Y]) (fun i hi => ha i (by simp [hi])) hd'.2
      refine ⟨List.pairwise_cons.2 ⟨fun z hz => ?_, h1⟩, fun h => by simpa using h2 (by simpa using h)⟩
      obtain ⟨i, hi, hzi⟩ := mem_pick hz
      rcases List.mem_cons.1 ((insI_perm _ x r).mem_iff.1 hi) with rfl | hi
      · rw [hx] at hzi; cases hzi
        have := (ordS_lt hY hx).1 hc
        rcases this with h | h
        · omega
        · omega
      · exact hd'.1 z (List.mem_filterMap.2 ⟨i, hi, hzi⟩)
    · rw [if_neg hc, pickS_cons hx, pickS_cons hY]
      have hyx : strS Y ≤ strS X := by
        rw [ordS_lt hY hx] at hc
        exact Int.not_lt.1 fun h => hc (.inl h)
      have hall : ∀ z ∈ Y :: pickS l r, strS z ≤ strS X := fun z hz => by
        rcases List.mem_cons.1 hz with rfl | hz
        · exact hyx
        · exact Int.le_trans (hd'.1 z hz) hyx
      exact ⟨List.pairwise_cons.2 ⟨hall, hd⟩, fun h => stP_ins hX0 v (Y :: pickS l r) u hall h⟩
theorem stP_isort {l : List Sag} (hv : ∀ s ∈ l, sagB s = true) (v : List Sag) : ∀ (s a : List Int), okIx l.length s → okIx l.length a → DescP (pickS l a) → StP (pickS l a ++ (pickS l s ++ v)) → StP (pickS l (s.foldl (fun a x => insI (ordS l) x a) a) ++ v)
  | [], a, _, _, _, h => by simpa [pickS] using h
  | x :: s, a, hs, ha, hd, h => by
    have hxl : 0 ≤ x ∧ x < l.length := hs x (by simp)
    obtain ⟨X, hX⟩ : ∃ X, l[x.toNat]? = some X := ⟨l[x.toNat]'(by omega), by simp⟩
    rw [pickS_cons hX] at h
    obtain ⟨h1, h2⟩ := stP_insI hv hX (pickS l s ++ v) a [] ha hd
    exact stP_isort hv v s (insI (ordS l) x a) (fun i hi => hs i (by simp [hi])) (fun i hi => by
      rcases List.mem_cons.1 ((insI_perm _ x a).mem_iff.1 hi) with rfl | hi
      · exact hxl
      · exact ha i hi) h1 (h2 h)
/-- Saggars that stand in some order stand by the setter's rule. -/
theorem stands_rule {l : List Sag} (hv : listB l = true) {s : List Int} (hs : okIx l.length s) (h : standsS (pickS l s) = 1) : canS l s = true := by
  rw [canS, beq_iff_eq, stands_StP]
  rw [stands_StP] at h
  have := stP_isort (fun x hx => sag_w hv hx) [] s [] hs (fun i hi => by simp at hi) (by simp [DescP, pickS]) (by simpa [pickS] using h)
  simpa [ruleS, isortI] using this
theorem ruleS_of_perm {l : List Sag} (hv : listB l = true) {s t : List Int} (hs : okIx l.length s) (hp : t.Perm s) : ruleS l t = ruleS l s := by
  have hD : ∀ x ∈ s, inD l x := fun x hx => hs x hx
  have hDt : ∀ x ∈ t, inD l x := fun x hx => hD x (hp.mem_iff.1 hx)
  rw [ruleS, ruleS, ← sortS_isort (ordS_tot hv) hDt, ← sortS_isort (ordS_tot hv) hD]
  exact sortS_perm (ordS_tot hv) hDt hD hp
theorem stands_perm {l : List Sag} (hv : listB l = true) {s t : List Int} (hs : okIx l.length s) (hp : t.Perm s) (h : standsS (pickS l t) = 1) : canS l s = true := by
  have := stands_rule hv (fun i hi => hs i (hp.mem_iff.1 hi)) h
  rwa [canS, ruleS_of_perm hv hs hp] at this
theorem pick_ix : ∀ l : List Sag, pickS l (ixS l.length) = l := fun l => by
  have : ∀ n, n ≤ l.length → pickS l (ixS n) = l.take n := by
    intro n
    induction n with
    | zero => intro _; simp [ixS, pickS]
    | succ n ih =>
      intro hn
      obtain ⟨x, hx, _, ht, _⟩ := next_of (show n < l.length by omega)
      rw [ixS_succ, pickS_snoc (x := x) (by simpa using hx), ih (by omega), ht]
  rw [this _ (Nat.le_refl _), List.take_length]

/-! ### narrower ranges -/
structure NarS (s t : Sag) : Prop where
  w1 : s.w.lo ≤ t.w.lo
  w2 : t.w.hi ≤ s.w.hi
  b1 : s.b.lo ≤ t.b.lo
  b2 : t.b.hi ≤ s.b.hi
  h1 : s.h.lo ≤ t.h.lo
  h2 : t.h.hi ≤ s.h.hi
  ti : t.tilt = s.tilt
inductive Nar : List Sag → List Sag → Prop
  | nil : Nar [] []
  | cons {s t : Sag} {l m : List Sag} : NarS s t → Nar l m → Nar (s :: l) (t :: m)
theorem NarS.refl (s : Sag) : NarS s s := ⟨Int.le_refl _, Int.le_refl _, Int.le_refl _, Int.le_refl _, Int.le_refl _, Int.le_refl _, rfl⟩
theorem Nar.refl : ∀ l, Nar l l
  | [] => .nil
  | s :: l => .cons (.refl s) (Nar.refl l)
theorem nar_set : ∀ {l : List Sag} {i : Nat} {s t : Sag}, l[i]? = some s → NarS s t → Nar l (l.set i t)
  | [], i, s, t, h, _ => by simp at h
  | x :: l, 0, s, t, h, hn => by simp at h; subst h; exact .cons hn (.refl l)
  | x :: l, i + 1, s, t, h, hn => .cons (.refl x) (nar_set (by simpa using h) hn)
theorem Nar.w {l m : List Sag} (h : Nar l m) : (wOf l).lo ≤ (wOf m).lo ∧ (wOf m).hi ≤ (wOf l).hi := by
  induction h with
  | nil => simp [wOf, sumR]
  | cons hs _ ih => rw [wOf_cons, wOf_cons]; have := hs.w1; have := hs.w2; simp only; omega
theorem Nar.h {l m : List Sag} (h : Nar l m) : (hOf l).lo ≤ (hOf m).lo ∧ (hOf m).hi ≤ (hOf l).hi := by
  induction h with
  | nil => simp [hOf, sumR]
  | @cons s t l m hs _ ih =>
    have e : ∀ (s : Sag) l, hOf (s :: l) = ⟨s.h.lo + (hOf l).lo, s.h.hi + (hOf l).hi⟩ := fun s l => by simp [hOf, sumR]
    rw [e, e]; have := hs.h1; have := hs.h2; simp only; omega
theorem Nar.len {l m : List Sag} (h : Nar l m) : m.length = l.length := by
  induction h with
  | nil => rfl
  | cons _ _ ih => simp [ih]
theorem Nar.stP {l m : List Sag} (h : Nar l m) : StP l → StP m := by
  induction h with
  | nil => exact id
  | cons hs h ih => exact fun g => ⟨by have := h.w; have := hs.b1; have := g.1; omega, ih g.2⟩
theorem answerS_zero_iff {a b : Rg} (ha : a.lo ≤ a.hi) (hb : b.lo ≤ b.hi) : answerS a b = 0 ↔ a.lo > b.hi := by
  refine ⟨answerS_zero, fun h => ?_⟩
  unfold answerS
  rw [if_neg (by omega), if_pos h]
theorem wOf_ok {l : List Sag} (hv : ∀ s ∈ l, sagB s = true) : (wOf l).lo ≤ (wOf l).hi := by
  induction l with
  | nil => simp [wOf, sumR]
  | cons s l ih =>
    have h1 := ih fun x hx => hv x (by simp [hx])
    have h2 := hv s (by simp)
    simp [sagB, rgB, inR] at h2
    rw [wOf_cons]; simp only; omega
theorem Nar.zero {l m : List Sag} (h : Nar l m) (hv : ∀ s ∈ m, sagB s = true) : 0 ∈ coursesS l → 0 ∈ coursesS m := by
  induction h with
  | nil => exact id
  | @cons s t l m hs h ih =>
    simp only [coursesS, List.mem_cons]
    rintro (g | g)
    · left
      have h1 := answerS_zero g.symm
      have h2 := h.w
      have h3 := hs.b2
      have h4 := hv t (by simp)
      simp [sagB, rgB, inR] at h4
      exact ((answerS_zero_iff (wOf_ok fun x hx => hv x (by simp [hx])) (by omega)).2 (by omega)).symm
    · exact .inr (ih (fun x hx => hv x (by simp [hx])) g)
theorem zero_stands {l : List Sag} (h : 0 ∈ coursesS l) : standsS l = 0 := by rw [standsS, allS, if_pos h]
theorem stands_three (l : List Sag) : standsS l = 0 ∨ standsS l = 1 ∨ standsS l = 2 := by
  rw [standsS, allS]; split
  · exact .inl rfl
  · split
    · exact .inr (.inr rfl)
    · exact .inr (.inl rfl)
theorem Nar.stands {l m : List Sag} (h : Nar l m) (hv : ∀ s ∈ m, sagB s = true) : standsS l = 2 ∨ standsS m = standsS l := by
  rcases stands_three l with g | g | g
  · exact .inr (by rw [g]; exact zero_stands (h.zero hv (standsS_zero g)))
  · exact .inr (by rw [g]; exact stands_StP.2 (h.stP (stands_StP.1 g)))
  · exact .inl g
theorem Nar.height {w : Rg} {l m : List Sag} (h : Nar l m) (hl : 0 < l.length) : (heightS w l).lo ≤ (heightS w m).lo ∧ (heightS w m).hi ≤ (heightS w l).hi := by
  have hn := h.len
  rw [heightS_eq w hl, heightS_eq w (by omega), hn]
  have := h.h
  simp only; omega
theorem Nar.leanG {w : Int} (hw : 0 ≤ w) {l m : List Sag} (h : Nar l m) (hv : ∀ s ∈ m, sagB s = true) : (leanG w m).2 ≤ (leanG w l).2 ∧ (leanG w m).1 ≤ (leanG w l).1 ∧ 0 ≤ (leanG w m).2 := by
  induction h with
  | nil => simp [C3.leanG]
  | @cons s t l m hs h ih =>
    obtain ⟨a1, a2, a3⟩ := ih fun x hx => hv x (by simp [hx])
    have h4 := hv t (by simp)
    simp [sagB, rgB, inR] at h4
    have h2 := hs.h2
    have ht := hs.ti
    simp only [C3.leanG, ht]
    rw [ht] at h4
    refine ⟨by omega, ?_, by omega⟩
    have : s.tilt * ((C3.leanG w m).2 + t.h.hi) ≤ s.tilt * ((C3.leanG w l).2 + s.h.hi) := Int.mul_le_mul_of_nonneg_left (by omega) (by omega)
    omega
theorem tdiv_mono {a b : Int} (h0 : 0 ≤ a + 999) (h : a ≤ b) : (a + 999).tdiv 1000 ≤ (b + 999).tdiv 1000 := by
  rw [Int.tdiv_eq_ediv_of_nonneg h0, Int.tdiv_eq_ediv_of_nonneg (by omega)]
  omega
theorem Nar.lean {w : Rg} (hw : rgB w 0 200 = true) {l m : List Sag} (h : Nar l m) (hv : ∀ s ∈ m, sagB s = true) : leanS w m ≤ leanS w l := by
  simp [rgB] at hw
  have ht : Nar l.tail m.tail := by cases h; exact .nil; assumption
  have hv' : ∀ s ∈ m.tail, sagB s = true := fun s hs => hv s (List.mem_of_mem_tail hs)
  have h1 := ht.leanG (w := w.hi) (by omega) hv'
  have h2 := (leanG_sub (w := w.hi) (by omega) (List.Sublist.refl m.tail) hv').2.2.1
  exact tdiv_mono (by omega) h1.2.1
theorem set_ids {l : List Sag} {i : Nat} {s t : Sag} (h : l[i]? = some s) (he : t.id = s.id) : (l.set i t).map (·.id) = l.map (·.id) := by
  apply List.ext_getElem?
  intro j
  simp only [List.getElem?_map, List.getElem?_set]
  split
  · rename_i e; subst e
    have hi := (List.getElem?_eq_some_iff.1 h).1
    simp [hi, h, he]
    rw [List.getElem?_eq_some_iff] at h
    rw [← h.2]
  · rfl
theorem list_set {l : List Sag} {i : Nat} {s t : Sag} (hv : listB l = true) (h : l[i]? = some s) (he : t.id = s.id) (ht : sagB t = true) : listB (l.set i t) = true := by
  have h1 := list_len hv
  simp only [listB, Bool.and_eq_true, decide_eq_true_eq, List.all_eq_true] at hv ⊢
  refine ⟨⟨by simpa using h1, fun x hx => ?_⟩, by rw [set_ids h he]; exact hv.2⟩
  rcases List.mem_or_eq_of_mem_set hx with g | rfl
  · exact hv.1.2 x g
  · exact ht
end Go.Sh.C3
end
section
namespace Go.Sh.C3
open Go.Sh
set_option maxRecDepth 10000
set_option linter.unusedVariables false
set_option linter.unusedSimpArgs false
variable {P : Program}
def ic_potbanklaw03_sane (f0 f1 f2 f3 f4 f5 f6 f7 f8 f9 : Nat) : IC := .seq (.reg [⟨some 0, none, .mov (.c (.b false))⟩] []) (.seq (.reg [⟨some 22, none, .bld [.i .i64 (0), .i .i64 (0)] [(0, 1, (.c (.i .i64 (5)))), (1, 1, (.c (.i .i64 (10))))]⟩, ⟨some 1, none, .alloc [.i .i64 (0), .i .i64 (0)]⟩, ⟨none, none, .st 2 (.t 1) (.t 22)⟩] [1]) (.seq (.drg [(0, ⟨some 24, none, .ld (some 2) (.t 1)⟩), (0, ⟨some 25, none, .calv (.c (.fn (.func f0) [] [])) []⟩), (0, ⟨some 26, none, .bsl true 1 3 [.i .i64 (0)] [(0, (.c (.i .i64 (0)))), (1, (.c (.i .i64 (1)))), (2, (.c (.i .i64 (2))))]⟩), (0, ⟨some 27, none, .calv (.c (.fn (.func f1) [] [])) [.t 24, .t 25, .t 26]⟩), (0, ⟨some 23, none, .mov (.t 27)⟩), (0, ⟨some 28, none, .ext (.t 23) 0⟩), (0, ⟨some 29, none, .ext (.t 23) 1⟩), (1, ⟨some 2, none, .alloc [.i .i64 (0), .i .i64 (0), .nsl]⟩), (1, ⟨none, none, .st 3 (.t 2) (.t 28)⟩), (0, ⟨some 3, none, .mov (.t 29)⟩)] 9 [1, 2, 3]) (.seq (.drg [(0, ⟨some 31, none, .ld (some 2) (.t 1)⟩), (0, ⟨some 32, none, .calv (.c (.fn (.func f0) [] [])) []⟩), (0, ⟨some 33, none, .bsl true 1 3 [.i .i64 (0)] [(0, (.c (.i .i64 (1)))), (1, (.c (.i .i64 (0)))), (2, (.c (.i .i64 (2))))]⟩), (0, ⟨some 34, none, .calv (.c (.fn (.func f1) [] [])) [.t 31, .t 32, .t 33]⟩), (0, ⟨some 30, none, .mov (.t 34)⟩), (0, ⟨some 35, none, .ext (.t 30) 0⟩), (0, ⟨some 36, none, .ext (.t 30) 1⟩), (1, ⟨some 4, none, .alloc [.i .i64 (0), .i .i64 (0), .nsl]⟩), (1, ⟨none, none, .st 3 (.t 4) (.t 35)⟩), (0, ⟨some 5, none, .mov (.t 36)⟩)] 9 [1, 2, 3, 4, 5]) (.seq (.reg [⟨some 38, none, .ld (some 3) (.t 2)⟩, ⟨some 39, none, .calv (.c (.fn (.func f2) [] [])) [.t 38]⟩, ⟨some 37, none, .mov (.t 39)⟩, ⟨some 40, none, .ext (.t 37) 0⟩, ⟨some 41, none, .ext (.t 37) 1⟩, ⟨some 6, none, .mov (.t 40)⟩, ⟨some 7, none, .mov (.t 41)⟩] [1, 2, 3, 4, 5, 6, 7]) (.seq (.reg [⟨some 43, none, .ld (some 3) (.t 2)⟩, ⟨some 44, none, .calv (.c (.fn (.func f3) [] [])) [.t 43]⟩, ⟨some 42, none, .mov (.t 44)⟩, ⟨some 45, none, .ext (.t 42) 0⟩, ⟨some 46, none, .ext (.t 42) 1⟩, ⟨some 8, none, .mov (.t 45)⟩, ⟨some 9, none, .mov (.t 46)⟩] [1, 2, 3, 4, 5, 6, 7, 8, 9]) (.seq (.reg [⟨some 48, none, .ld (some 3) (.t 4)⟩, ⟨some 49, none, .calv (.c (.fn (.func f3) [] [])) [.t 48]⟩, ⟨some 47, none, .mov (.t 49)⟩, ⟨some 50, none, .ext (.t 47) 0⟩, ⟨some 51, none, .ext (.t 47) 1⟩, ⟨some 10, none, .mov (.t 50)⟩, ⟨some 11, none, .mov (.t 51)⟩] [1, 2, 3, 4, 5, 6, 7, 8, 9, 10, 11]) (.seq (.reg [⟨some 53, none, .ld (some 3) (.t 2)⟩, ⟨some 54, none, .calv (.c (.fn (.func f4) [] [])) [.t 53]⟩, ⟨some 52, none, .mov (.t 54)⟩, ⟨some 55, none, .ext (.t 52) 0⟩, ⟨some 56, none, .ext (.t 52) 1⟩, ⟨some 12, none, .mov (.t 55)⟩, ⟨some 13, none, .mov (.t 56)⟩] [1, 3, 4, 5, 6, 7, 8, 9, 10, 11, 12, 13]) (.seq (.reg [⟨some 58, none, .ld (some 3) (.t 4)⟩, ⟨some 59, none, .calv (.c (.fn (.func f5) [] [])) [.t 58]⟩, ⟨some 57, none, .mov (.t 59)⟩, ⟨some 60, none, .ext (.t 57) 0⟩, ⟨some 61, none, .ext (.t 57) 1⟩, ⟨some 14, none, .alloc [.i .i64 (0), .i .i64 (0), .nsl]⟩, ⟨none, none, .st 3 (.t 14) (.t 60)⟩, ⟨some 15, none, .mov (.t 61)⟩] [1, 3, 5, 6, 7, 8, 9, 10, 11, 12, 13, 14, 15]) (.seq (.drg [(0, ⟨some 63, none, .ld (some 2) (.t 1)⟩), (0, ⟨some 64, none, .calv (.c (.fn (.func f0) [] [])) []⟩), (0, ⟨some 65, none, .bld [.i .i64 (0), .i .i64 (0)] [(0, 1, (.c (.i .i64 (400)))), (1, 1, (.c (.i .i64 (9))))]⟩), (0, ⟨some 66, none, .calv (.c (.fn (.func f6) [] [])) [.t 63, .t 64, .t 65]⟩), (0, ⟨some 62, none, .mov (.t 66)⟩), (0, ⟨some 67, none, .ext (.t 62) 0⟩), (0, ⟨some 68, none, .ext (.t 62) 1⟩), (0, ⟨some 16, none, .mov (.t 67)⟩), (0, ⟨some 17, none, .mov (.t 68)⟩)] 8 [3, 5, 6, 7, 8, 9, 10, 11, 12, 13, 14, 15, 16, 17]) (.seq (.reg [⟨some 69, none, .mov (.t 3)⟩, ⟨some 70, none, .bin .eql (.t 69) (.c (.i .i64 (0)))⟩, ⟨some 71, none, .mov (.t 70)⟩, ⟨some 72, some (71, true), .mov (.t 5)⟩, ⟨some 73, some (71, true), .bin .eql (.t 72) (.c (.i .i64 (0)))⟩, ⟨some 74, none, .pick (.t 71) (.t 73) (.c (.b false))⟩, ⟨some 75, none, .mov (.t 74)⟩, ⟨some 76, some (75, true), .mov (.t 7)⟩, ⟨some 77, some (75, true), .bin .eql (.t 76) (.c (.i .i64 (0)))⟩, ⟨some 78, none, .pick (.t 75) (.t 77) (.c (.b false))⟩, ⟨some 79, none, .mov (.t 78)⟩, ⟨some 80, some (79, true), .mov (.t 9)⟩, ⟨some 81, some (79, true), .bin .eql (.t 80) (.c (.i .i64 (0)))⟩, ⟨some 82, none, .pick (.t 79) (.t 81) (.c (.b false))⟩, ⟨some 83, none, .mov (.t 82)⟩, ⟨some 84, some (83, true), .mov (.t 11)⟩, ⟨some 85, some (83, true), .bin .eql (.t 84) (.c (.i .i64 (0)))⟩, ⟨some 86, none, .pick (.t 83) (.t 85) (.c (.b false))⟩, ⟨some 87, none, .mov (.t 86)⟩, ⟨some 88, some (87, true), .mov (.t 13)⟩, ⟨some 89, some (87, true), .bin .eql (.t 88) (.c (.i .i64 (0)))⟩, ⟨some 90, none, .pick (.t 87) (.t 89) (.c (.b false))⟩, ⟨some 91, none, .mov (.t 90)⟩, ⟨some 92, some (91, true), .mov (.t 15)⟩, ⟨some 93, some (91, true), .bin .eql (.t 92) (.c (.i .i64 (0)))⟩, ⟨some 94, none, .pick (.t 91) (.t 93) (.c (.b false))⟩, ⟨some 95, none, .mov (.t 94)⟩, ⟨some 96, some (95, true), .mov (.t 17)⟩, ⟨some 97, some (95, true), .bin .eql (.t 96) (.c (.i .i64 (0)))⟩, ⟨some 98, none, .pick (.t 95) (.t 97) (.c (.b false))⟩, ⟨some 18, none, .mov (.t 98)⟩] [6, 8, 10, 12, 14, 16, 18]) (.seq (.reg [⟨some 99, none, .mov (.t 6)⟩, ⟨some 100, none, .bld [.i .i64 (0), .i .i64 (0)] [(0, 1, (.c (.i .i64 (140)))), (1, 1, (.c (.i .i64 (150))))]⟩, ⟨some 101, none, .bld [.i .i64 (0), .i .i64 (0)] [(0, 1, (.c (.i .i64 (60)))), (1, 1, (.c (.i .i64 (60))))]⟩, ⟨some 102, none, .bld [.i .i64 (0), .i .i64 (0)] []⟩, ⟨some 103, none, .bsl false 2 3 [.i .i64 (0), .i .i64 (0)] [(0, (.t 100)), (1, (.t 101)), (2, (.t 102))]⟩, ⟨some 104, none, .calv (.c (.fn (.func f7) [] [])) [.t 99, .t 103]⟩, ⟨some 19, none, .mov (.t 104)⟩] [8, 10, 12, 14, 16, 18, 19]) (.seq (.reg [⟨some 105, none, .mov (.t 16)⟩, ⟨some 106, none, .bsl false 1 2 [.i .i64 (0)] [(0, (.c (.i .i64 (0)))), (1, (.c (.i .i64 (2))))]⟩, ⟨some 107, none, .bsl false 1 1 [.i .i64 (0)] [(0, (.c (.i .i64 (1))))]⟩, ⟨some 108, none, .bsl false 1 2 [.nsl] [(0, (.t 106)), (1, (.t 107))]⟩, ⟨some 109, none, .calv (.c (.fn (.func f8) [] [])) [.t 105, .t 108]⟩, ⟨some 20, none, .mov (.t 109)⟩] [8, 10, 12, 14, 18, 19, 20]) (.seq (.reg [⟨some 110, none, .fad 2 (.t 14)⟩, ⟨some 111, none, .ld none (.t 110)⟩, ⟨some 112, none, .bsl false 1 2 [.i .i64 (0)] [(0, (.c (.i .i64 (120)))), (1, (.c (.i .i64 (60))))]⟩, ⟨some 113, none, .calv (.c (.fn (.func f9) [] [])) [.t 111, .t 112]⟩, ⟨some 21, none, .mov (.t 113)⟩] [8, 10, 12, 14, 18, 19, 20, 21]) (.seq (.reg [⟨some 114, none, .mov (.t 18)⟩, ⟨some 115, none, .mov (.t 114)⟩, ⟨some 116, some (115, true), .mov (.t 19)⟩, ⟨some 117, none, .pick (.t 115) (.t 116) (.c (.b false))⟩, ⟨some 118, none, .mov (.t 117)⟩, ⟨some 119, some (118, true), .mov (.t 8)⟩, ⟨some 120, some (118, true), .bin .eql (.t 119) (.c (.i .i64 (1)))⟩, ⟨some 121, none, .pick (.t 118) (.t 120) (.c (.b false))⟩, ⟨some 122, none, .mov (.t 121)⟩, ⟨some 123, some (122, true), .mov (.t 10)⟩, ⟨some 124, some (122, true), .bin .eql (.t 123) (.c (.i .i64 (2)))⟩, ⟨some 125, none, .pick (.t 122) (.t 124) (.c (.b false))⟩, ⟨some 126, none, .mov (.t 125)⟩, ⟨some 127, some (126, true), .mov (.t 12)⟩, ⟨some 128, some (126, true), .bin .eql (.t 127) (.c (.i .i64 (4)))⟩, ⟨some 129, none, .pick (.t 126) (.t 128) (.c (.b false))⟩, ⟨some 130, none, .mov (.t 129)⟩, ⟨some 131, some (130, true), .mov (.t 21)⟩, ⟨some 132, none, .pick (.t 130) (.t 131) (.c (.b false))⟩, ⟨some 133, none, .mov (.t 132)⟩, ⟨some 134, some (133, true), .fad 0 (.t 14)⟩, ⟨some 135, some (133, true), .ld none (.t 134)⟩, ⟨some 136, some (133, true), .bin .eql (.t 135) (.c (.i .i64 (0)))⟩, ⟨some 137, none, .pick (.t 133) (.t 136) (.c (.b false))⟩, ⟨some 138, none, .mov (.t 137)⟩, ⟨some 139, some (138, true), .fad 1 (.t 14)⟩, ⟨some 140, some (138, true), .ld none (.t 139)⟩, ⟨some 141, some (138, true), .bin .eql (.t 140) (.c (.i .i64 (150)))⟩, ⟨some 142, none, .pick (.t 138) (.t 141) (.c (.b false))⟩, ⟨some 143, none, .mov (.t 142)⟩, ⟨some 144, some (143, true), .mov (.t 20)⟩, ⟨some 145, none, .pick (.t 143) (.t 144) (.c (.b false))⟩, ⟨some 0, none, .mov (.t 145)⟩] [0]) (.ret)))))))))))))))
abbrev Low_potbanklaw03_sane (P : Program) (f f0 f1 f2 f3 f4 f5 f6 f7 f8 f9 : Nat) : Prop := lowF P f = some (146, [.tmp 0], (ic_potbanklaw03_sane f0 f1 f2 f3 f4 f5 f6 f7 f8 f9).erase)

theorem frz_col {H : List Blk} {p n c : Nat} {e : Bool} {us us' : List V} (h : H[p]? = some (.row 1 (us.map fun u => [u]))) (hn : us.length = n) (hl : us.length = us'.length) (hb : ∀ u ∈ us', u.bel 0 = true) (hu : ∀ (i : Nat) u u', us[i]? = some u → us'[i]? = some u' → Frz 0 H u u') : Frz 0 H (.rsl p 1 0 n c e) (.fsl (us'.map fun u => [u])) := by
  subst hn
  have ht : ((us.map fun u => [u]).drop 0).take us.length = us.map fun u => [u] := by rw [List.drop_zero, List.take_of_length_le (by simp)]
  refine .sl p 1 0 us.length c e _ _ (Nat.zero_le _) h (by simp) (by simp [hl]) (fun row hr => ?_) ?_ ?_
  · obtain ⟨u, hu, rfl⟩ := List.mem_map.1 hr
    simp [belL, hb u hu]
  · intro i row row' h1 h3
    rw [ht, List.getElem?_map] at h1
    rw [List.getElem?_map] at h3
    obtain ⟨u, _, rfl⟩ := Option.map_eq_some_iff.1 h1
    obtain ⟨u', _, rfl⟩ := Option.map_eq_some_iff.1 h3
    rfl
  · intro i row row' j x x' h1 h3 e1 e2
    rw [ht, List.getElem?_map] at h1
    rw [List.getElem?_map] at h3
    obtain ⟨u, g1, rfl⟩ := Option.map_eq_some_iff.1 h1
    obtain ⟨u', g2, rfl⟩ := Option.map_eq_some_iff.1 h3
    cases j with
    | zero => simp at e1 e2; subst e1 e2; exact hu i u u' g1 g2
    | succ j => simp at e1
def C_sane (P : Program) (f : Nat) : Prop := Snd P f [] [] (.b true) []
def exB : List Sag := pickS exS [0, 1, 2]
def exC : List Sag := pickS exS [1, 0, 2]
theorem ok_sane (hm : P.follows .mixedOrders = true) {f f0 f1 f2 f3 f4 f5 f6 f7 f8 f9 : Nat} (low : Low_potbanklaw03_sane P f f0 f1 f2 f3 f4 f5 f6 f7 f8 f9) (h0 : C_example P f0) (h1 : C_Set P f1) (h2 : C_Loads P f2) (h3 : C_Stands P f3) (h4 : C_Lean P f4) (h5 : C_Breaks P f5) (h6 : C_Fewest P f6) (h7 : C_SameRanges P f7) (h8 : C_SameParts P f8) (h9 : C_Same P f9) : C_sane P f := by
  have s1 : setE ⟨5, 10⟩ exS [0, 1, 2] = 0 := by decide +kernel
  have s2 : setE ⟨5, 10⟩ exS [1, 0, 2] = 0 := by decide +kernel
  have b1 : bungB ⟨5, 10⟩ exB = true := by decide +kernel
  have b2 : bungB ⟨5, 10⟩ exC = true := by decide +kernel
  have c1 := h1 ⟨5, 10⟩ exS [0, 1, 2] (by decide)
  have c2 := h1 ⟨5, 10⟩ exS [1, 0, 2] (by decide)
  have c3 := h2 ⟨5, 10⟩ exB
  have c4 := h3 ⟨5, 10⟩ exB
  have c5 := h3 ⟨5, 10⟩ exC
  have c6 := h4 ⟨5, 10⟩ exB
  have c7 := h5 ⟨5, 10⟩ exC
  have c8 := h6 ⟨5, 10⟩ exS ⟨400, 9⟩
  rw [s1, if_pos rfl] at c1
  rw [s2, if_pos rfl] at c2
  rw [b1, if_pos rfl, if_pos rfl] at c3 c4 c6
  rw [b2, if_pos rfl, if_pos rfl] at c5
  rw [b2, if_pos rfl, if_pos rfl, show brkV exC = .agg [.i .i64 0, .i .i64 150, .fsl (([120, 60] : List Int).map intC)] by rfl, show (if (brkAt exC).isSome = true then (0 : Int) else 34) = 0 by decide +kernel] at c7
  rw [show standsS exB = 1 by decide +kernel] at c4
  rw [show standsS exC = 2 by decide +kernel] at c5
  rw [show leanS ⟨5, 10⟩ exB = 4 by decide +kernel] at c6
  rw [show loadsS exB = [⟨140, 150⟩, ⟨60, 60⟩, ⟨0, 0⟩] by decide +kernel] at c3
  rw [show fewR ⟨5, 10⟩ exS ⟨400, 9⟩ = [[0, 2], [1]] by decide +kernel, show fewE ⟨5, 10⟩ exS ⟨400, 9⟩ = 0 by decide +kernel] at c8
  have d1 := h7 [⟨140, 150⟩, ⟨60, 60⟩, ⟨0, 0⟩] [⟨140, 150⟩, ⟨60, 60⟩, ⟨0, 0⟩] (by decide)
  have d2 := h8 [[0, 2], [1]] [[0, 2], [1]] (by decide) (by decide)
  have d3 := h9 [120, 60] [120, 60] (by decide)
  rw [decide_eq_true rfl] at d1 d2 d3
  change Snd P f1 [.agg [.i .i64 5, .i .i64 10], .fsl (exS.map Sag.c), .fsl [[.i .i64 0], [.i .i64 1], [.i .i64 2]]] [] (.tup [.agg [.i .i64 5, .i .i64 10, .fsl (exB.map Sag.c)], .i .i64 0]) [] at c1
  change Snd P f1 [.agg [.i .i64 5, .i .i64 10], .fsl (exS.map Sag.c), .fsl [[.i .i64 1], [.i .i64 0], [.i .i64 2]]] [] (.tup [.agg [.i .i64 5, .i .i64 10, .fsl (exC.map Sag.c)], .i .i64 0]) [] at c2
  refine snd_ic hm low (by simp) ?_
  unfold ic_potbanklaw03_sane
  simp -dsimp -implicitDefEqProofs only [qq, Nat.reduceBEq, reduceIte, Nat.reduceAdd, Nat.reduceSub, Nat.reduceLeDiff, Nat.reduceLT, Nat.reduceMul, Nat.reduceEqDiff, Int.reduceEq, Int.reduceBEq, Int.reduceBNe, Int.reduceLT, Int.reduceLE, Int.reduceGT, Int.reduceGE, Int.reduceNeg, Int.reduceAdd, Int.reduceSub, reduceCtorEq, List.reduceReplicate, ← List.map_take, ← List.map_drop]
  refine callI_pure h0 rfl rfl ?_
  simp -dsimp -implicitDefEqProofs only [qq, Nat.reduceBEq, reduceIte, Nat.reduceAdd, Nat.reduceSub, Nat.reduceLeDiff, Nat.reduceLT, Nat.reduceMul, Nat.reduceEqDiff, Int.reduceEq, Int.reduceBEq, Int.reduceBNe, Int.reduceLT, Int.reduceLE, Int.reduceGT, Int.reduceGE, Int.reduceNeg, Int.reduceAdd, Int.reduceSub, reduceCtorEq, List.reduceReplicate, ← List.map_take, ← List.map_drop]
  refine ⟨by decide, callI_pure c1 rfl rfl ?_⟩
  simp -dsimp -implicitDefEqProofs only [qq, Nat.reduceBEq, reduceIte, Nat.reduceAdd, Nat.reduceSub, Nat.reduceLeDiff, Nat.reduceLT, Nat.reduceMul, Nat.reduceEqDiff, Int.reduceEq, Int.reduceBEq, Int.reduceBNe, Int.reduceLT, Int.reduceLE, Int.reduceGT, Int.reduceGE, Int.reduceNeg, Int.reduceAdd, Int.reduceSub, reduceCtorEq, List.reduceReplicate, ← List.map_take, ← List.map_drop]
  refine callI_pure h0 rfl rfl ?_
  simp -dsimp -implicitDefEqProofs only [qq, Nat.reduceBEq, reduceIte, Nat.reduceAdd, Nat.reduceSub, Nat.reduceLeDiff, Nat.reduceLT, Nat.reduceMul, Nat.reduceEqDiff, Int.reduceEq, Int.reduceBEq, Int.reduceBNe, Int.reduceLT, Int.reduceLE, Int.reduceGT, Int.reduceGE, Int.reduceNeg, Int.reduceAdd, Int.reduceSub, reduceCtorEq, List.reduceReplicate, ← List.map_take, ← List.map_drop]
  refine ⟨by decide, callI_pure c2 rfl rfl ?_⟩
  simp -dsimp -implicitDefEqProofs only [qq, Nat.reduceBEq, reduceIte, Nat.reduceAdd, Nat.reduceSub, Nat.reduceLeDiff, Nat.reduceLT, Nat.reduceMul, Nat.reduceEqDiff, Int.reduceEq, Int.reduceBEq, Int.reduceBNe, Int.reduceLT, Int.reduceLE, Int.reduceGT, Int.reduceGE, Int.reduceNeg, Int.reduceAdd, Int.reduceSub, reduceCtorEq, List.reduceReplicate, ← List.map_take, ← List.map_drop]
  refine callI_pure c3 rfl rfl ?_
  simp -dsimp -implicitDefEqProofs only [qq, Nat.reduceBEq, reduceIte, Nat.reduceAdd, Nat.reduceSub, Nat.reduceLeDiff, Nat.reduceLT, Nat.reduceMul, Nat.reduceEqDiff, Int.reduceEq, Int.reduceBEq, Int.reduceBNe, Int.reduceLT, Int.reduceLE, Int.reduceGT, Int.reduceGE, Int.reduceNeg, Int.reduceAdd, Int.reduceSub, reduceCtorEq, List.reduceReplicate, ← List.map_take, ← List.map_drop]
  refine callI_pure c4 rfl rfl ?_
  simp -dsimp -implicitDefEqProofs only [qq, Nat.reduceBEq, reduceIte, Nat.reduceAdd, Nat.reduceSub, Nat.reduceLeDiff, Nat.reduceLT, Nat.reduceMul, Nat.reduceEqDiff, Int.reduceEq, Int.reduceBEq, Int.reduceBNe, Int.reduceLT, Int.reduceLE, Int.reduceGT, Int.reduceGE, Int.reduceNeg, Int.reduceAdd, Int.reduceSub, reduceCtorEq, List.reduceReplicate, ← List.map_take, ← List.map_drop]
  refine callI_pure c5 rfl rfl ?_
  simp -dsimp -implicitDefEqProofs only [qq, Nat.reduceBEq, reduceIte, Nat.reduceAdd, Nat.reduceSub, Nat.reduceLeDiff, Nat.reduceLT, Nat.reduceMul, Nat.reduceEqDiff, Int.reduceEq, Int.reduceBEq, Int.reduceBNe, Int.reduceLT, Int.reduceLE, Int.reduceGT, Int.reduceGE, Int.reduceNeg, Int.reduceAdd, Int.reduceSub, reduceCtorEq, List.reduceReplicate, ← List.map_take, ← List.map_drop]
  refine callI_pure c6 rfl rfl ?_
  simp -dsimp -implicitDefEqProofs only [qq, Nat.reduceBEq, reduceIte, Nat.reduceAdd, Nat.reduceSub, Nat.reduceLeDiff, Nat.reduceLT, Nat.reduceMul, Nat.reduceEqDiff, Int.reduceEq, Int.reduceBEq, Int.reduceBNe, Int.reduceLT, Int.reduceLE, Int.reduceGT, Int.reduceGE, Int.reduceNeg, Int.reduceAdd, Int.reduceSub, reduceCtorEq, List.reduceReplicate, ← List.map_take, ← List.map_drop]
  refine callI_pure c7 rfl rfl ?_
  simp -dsimp -implicitDefEqProofs only [qq, Nat.reduceBEq, reduceIte, Nat.reduceAdd, Nat.reduceSub, Nat.reduceLeDiff, Nat.reduceLT, Nat.reduceMul, Nat.reduceEqDiff, Int.reduceEq, Int.reduceBEq, Int.reduceBNe, Int.reduceLT, Int.reduceLE, Int.reduceGT, Int.reduceGE, Int.reduceNeg, Int.reduceAdd, Int.reduceSub, reduceCtorEq, List.reduceReplicate, ← List.map_take, ← List.map_drop]
  refine callI_pure h0 rfl rfl ?_
  simp -dsimp -implicitDefEqProofs only [qq, Nat.reduceBEq, reduceIte, Nat.reduceAdd, Nat.reduceSub, Nat.reduceLeDiff, Nat.reduceLT, Nat.reduceMul, Nat.reduceEqDiff, Int.reduceEq, Int.reduceBEq, Int.reduceBNe, Int.reduceLT, Int.reduceLE, Int.reduceGT, Int.reduceGE, Int.reduceNeg, Int.reduceAdd, Int.reduceSub, reduceCtorEq, List.reduceReplicate, ← List.map_take, ← List.map_drop]
  refine callI_pure c8 rfl rfl ?_
  simp -dsimp -implicitDefEqProofs only [qq, Nat.reduceBEq, reduceIte, Nat.reduceAdd, Nat.reduceSub, Nat.reduceLeDiff, Nat.reduceLT, Nat.reduceMul, Nat.reduceEqDiff, Int.reduceEq, Int.reduceBEq, Int.reduceBNe, Int.reduceLT, Int.reduceLE, Int.reduceGT, Int.reduceGE, Int.reduceNeg, Int.reduceAdd, Int.reduceSub, reduceCtorEq, List.reduceReplicate, ← List.map_take, ← List.map_drop]
  refine callI_lend2 d1 (.keep _ rfl) (frz_lit rfl rfl (by decide)) rfl ?_
  simp -dsimp -implicitDefEqProofs only [qq, Nat.reduceBEq, reduceIte, Nat.reduceAdd, Nat.reduceSub, Nat.reduceLeDiff, Nat.reduceLT, Nat.reduceMul, Nat.reduceEqDiff, Int.reduceEq, Int.reduceBEq, Int.reduceBNe, Int.reduceLT, Int.reduceLE, Int.reduceGT, Int.reduceGE, Int.reduceNeg, Int.reduceAdd, Int.reduceSub, reduceCtorEq, List.reduceReplicate, ← List.map_take, ← List.map_drop]
  refine callI_lend2 d2 (.keep _ rfl) (frz_col (us := [.rsl 5 1 0 2 2 true, .rsl 6 1 0 1 1 true]) (us' := [.fsl ([0, 2].map intC), .fsl ([1].map intC)]) rfl rfl rfl (by simp [V.bel]) fun i u u' e1 e2 => ?_) rfl ?_
  · match i with
    | 0 => simp at e1 e2; subst e1 e2; exact frz_lit rfl rfl (by decide)
    | 1 => simp at e1 e2; subst e1 e2; exact frz_lit rfl rfl (by decide)
    | i + 2 => simp at e1
  simp -dsimp -implicitDefEqProofs only [qq, Nat.reduceBEq, reduceIte, Nat.reduceAdd, Nat.reduceSub, Nat.reduceLeDiff, Nat.reduceLT, Nat.reduceMul, Nat.reduceEqDiff, Int.reduceEq, Int.reduceBEq, Int.reduceBNe, Int.reduceLT, Int.reduceLE, Int.reduceGT, Int.reduceGE, Int.reduceNeg, Int.reduceAdd, Int.reduceSub, reduceCtorEq, List.reduceReplicate, ← List.map_take, ← List.map_drop]
  refine callI_lend2 d3 (.keep _ rfl) (frz_lit rfl rfl (by decide)) rfl ?_
  simp -dsimp -implicitDefEqProofs only [qq, Nat.reduceBEq, reduceIte, Nat.reduceAdd, Nat.reduceSub, Nat.reduceLeDiff, Nat.reduceLT, Nat.reduceMul, Nat.reduceEqDiff, Int.reduceEq, Int.reduceBEq, Int.reduceBNe, Int.reduceLT, Int.reduceLE, Int.reduceGT, Int.reduceGE, Int.reduceNeg, Int.reduceAdd, Int.reduceSub, reduceCtorEq, List.reduceReplicate, ← List.map_take, ← List.map_drop]
  exact Ends.plain rfl rfl rfl
end Go.Sh.C3
end
section
namespace Go.Sh.C3
open Go.Sh
set_option maxRecDepth 10000
set_option linter.unusedVariables false
set_option linter.unusedSimpArgs false
variable {P : Program}
def ic_potbanklaw03_BungStands (f0 f1 f2 f3 f4 f5 f6 : Nat) : IC := .seq (.reg [⟨some 2, none, .box (.t 0)⟩, ⟨some 4, none, .mov (.c (.b false))⟩] [1, 2]) (.seq (.reg [⟨some 18, none, .calv (.c (.fn (.func f0) [] [])) []⟩, ⟨some 5, none, .mov (.t 18)⟩] [1, 2, 5]) (.seq (.reg [⟨some 19, none, .fad 0 (.t 2)⟩, ⟨some 20, none, .ld none (.t 19)⟩, ⟨some 21, none, .fad 1 (.t 2)⟩, ⟨some 22, none, .ld none (.t 21)⟩, ⟨some 23, none, .fad 2 (.t 2)⟩, ⟨some 24, none, .ld (some 2) (.t 23)⟩, ⟨some 25, none, .calv (.c (.fn (.func f1) [] [])) [.t 20, .t 22, .t 24]⟩, ⟨some 6, none, .alloc [.i .i64 (0), .i .i64 (0), .nsl]⟩, ⟨none, none, .st 3 (.t 6) (.t 25)⟩] [1, 5, 6]) (.seq (.reg [⟨some 27, none, .ld (some 3) (.t 6)⟩, ⟨some 28, none, .calv (.c (.fn (.func f2) [] [])) [.t 27]⟩, ⟨some 26, none, .mov (.t 28)⟩, ⟨some 29, none, .ext (.t 26) 0⟩, ⟨some 30, none, .ext (.t 26) 1⟩, ⟨some 7, none, .mov (.t 29)⟩, ⟨some 8, none, .mov (.t 30)⟩] [1, 5, 6, 7, 8]) (.seq (.reg [⟨some 32, none, .ld (some 3) (.t 6)⟩, ⟨some 33, none, .calv (.c (.fn (.func f3) [] [])) [.t 32]⟩, ⟨some 31, none, .mov (.t 33)⟩, ⟨some 34, none, .ext (.t 31) 0⟩, ⟨some 35, none, .ext (.t 31) 1⟩, ⟨some 9, none, .alloc [.i .i64 (0), .i .i64 (0), .nsl]⟩, ⟨none, none, .st 3 (.t 9) (.t 34)⟩, ⟨some 10, none, .mov (.t 35)⟩] [1, 5, 6, 7, 8, 9, 10]) (.seq (.seq (.reg [⟨some 36, none, .mov (.t 5)⟩, ⟨some 37, none, .un .not (.t 36)⟩, ⟨some 38, none, .mov (.t 37)⟩, ⟨some 39, some (38, false), .mov (.t 8)⟩, ⟨some 40, some (38, false), .bin .neq (.t 39) (.c (.i .i64 (0)))⟩, ⟨some 41, none, .pick (.t 38) (.c (.b true)) (.t 40)⟩, ⟨some 42, none, .mov (.t 41)⟩, ⟨some 43, some (42, false), .mov (.t 10)⟩, ⟨some 44, some (42, false), .bin .neq (.t 43) (.c (.i .i64 (0)))⟩, ⟨some 45, some (42, false), .mov (.t 44)⟩, ⟨some 46, some (45, true), .mov (.t 10)⟩, ⟨some 47, some (45, true), .bin .neq (.t 46) (.c (.i .i64 (34)))⟩, ⟨some 48, some (42, false), .pick (.t 45) (.t 47) (.c (.b false))⟩, ⟨some 49, none, .pick (.t 42) (.c (.b true)) (.t 48)⟩, ⟨some 50, none, .mov (.t 49)⟩, ⟨some 51, some (50, false), .mov (.t 7)⟩, ⟨some 52, some (50, false), .bin .eql (.t 51) (.c (.i .i64 (1)))⟩, ⟨some 53, some (50, false), .mov (.t 10)⟩, ⟨some 54, some (50, false), .bin .eql (.t 53) (.c (.i .i64 (34)))⟩, ⟨some 55, some (50, false), .eqb 0 true (.t 52) (.t 54)⟩, ⟨some 56, none, .pick (.t 50) (.c (.b true)) (.t 55)⟩, ⟨some 57, none, .mov (.t 56)⟩, ⟨some 58, some (57, false), .mov (.t 10)⟩, ⟨some 59, some (57, false), .bin .eql (.t 58) (.c (.i .i64 (0)))⟩, ⟨some 60, some (57, false), .mov (.t 59)⟩, ⟨some 61, some (60, true), .ld (some 3) (.t 6)⟩, ⟨some 62, some (60, true), .ld (some 3) (.t 9)⟩, ⟨some 63, some (60, true), .calv (.c (.fn (.func f4) [] [])) [.t 61, .t 62]⟩, ⟨some 64, some (60, true), .bin .neq (.t 63) (.c (.i .i64 (0)))⟩, ⟨some 65, some (57, false), .pick (.t 60) (.t 64) (.c (.b false))⟩, ⟨some 66, none, .pick (.t 57) (.c (.b true)) (.t 65)⟩] [1, 6, 7, 66]) (.cond (.t 66) (.seq (.reg [⟨some 4, none, .mov (.c (.b false))⟩] [4]) (.ret)) (.skip))) (.seq (.reg [⟨some 11, none, .mov (.c (.b false))⟩] [1, 6, 7, 11]) (.seq (.reg [⟨some 67, none, .fad 2 (.t 6)⟩, ⟨some 68, none, .ld none (.t 67)⟩, ⟨some 69, none, .len false (.t 68)⟩, ⟨some 12, none, .mov (.t 69)⟩] [1, 6, 7, 11, 12]) (.seq (.seq (.reg [⟨some 13, none, .mov (.c (.i .i64 (0)))⟩] [1, 6, 7, 11, 12, 13]) (.block 0 (.loop (.seq (.seq (.reg [⟨some 70, none, .mov (.t 13)⟩, ⟨some 71, none, .mov (.t 12)⟩, ⟨some 72, none, .bin .lss (.t 70) (.t 71)⟩] [1, 6, 7, 11, 12, 13, 72]) (.cond (.t 72) (.skip) (.exit 0))) (.seq (.block 1 (.seq (.drg [(0, ⟨some 75, none, .mov (.t 13)⟩), (0, ⟨some 76, none, .fad 2 (.t 6)⟩), (0, ⟨some 77, none, .ld none (.t 76)⟩), (0, ⟨some 78, none, .mov (.t 13)⟩), (0, ⟨some 79, none, .ixs 8 (.t 77) (.t 78)⟩), (0, ⟨some 80, none, .fad 3 (.t 79)⟩), (0, ⟨some 81, none, .ld (some 2) (.t 80)⟩), (0, ⟨some 82, none, .mov (.t 1)⟩), (0, ⟨some 83, none, .mov (.t 12)⟩), (0, ⟨some 84, none, .mov (.t 13)⟩), (0, ⟨some 85, none, .bin .add (.t 83) (.t 84)⟩), (0, ⟨some 86, none, .calv (.c (.fn (.func f5) [] [])) [.t 82, .t 85]⟩), (0, ⟨some 87, none, .calv (.c (.fn (.func f6) [] [])) [.t 81, .t 86]⟩), (0, ⟨some 88, none, .bld [.i .i64 (0), .i .i64 (0), .nsl] [(0, 1, (.t 75)), (1, 1, (.t 87))]⟩), (2, ⟨some 14, none, .alloc [.i .i64 (0), .i .i64 (0), .nsl]⟩), (1, ⟨none, none, .st 3 (.t 14) (.t 88)⟩)] 15 [1, 6, 7, 11, 12, 13, 14]) (.seq (.reg [⟨some 15, none, .mov (.c (.i .i64 (0)))⟩] [1, 6, 7, 11, 12, 13, 14, 15]) (.seq (.seq (.reg [⟨some 89, none, .mov (.t 13)⟩, ⟨some 90, none, .bin .add (.t 89) (.c (.i .i64 (1)))⟩, ⟨some 16, none, .mov (.t 90)⟩] [1, 6, 7, 11, 12, 13, 14, 15, 16]) (.block 2 (.loop (.seq (.seq (.reg [⟨some 91, none, .mov (.t 16)⟩, ⟨some 92, none, .mov (.t 12)⟩, ⟨some 93, none, .bin .lss (.t 91) (.t 92)⟩] [1, 6, 7, 11, 12, 13, 14, 15, 16, 93]) (.cond (.t 93) (.skip) (.exit 2))) (.seq (.block 3 (.seq (.drg [(0, ⟨some 96, none, .fad 2 (.t 6)⟩), (0, ⟨some 97, none, .ld none (.t 96)⟩), (0, ⟨some 98, none, .mov (.t 16)⟩), (0, ⟨some 99, none, .ixs 8 (.t 97) (.t 98)⟩), (0, ⟨some 100, none, .fad 1 (.t 99)⟩), (0, ⟨some 101, none, .ld (some 2) (.t 100)⟩), (0, ⟨some 102, none, .mov (.t 1)⟩), (0, ⟨some 103, none, .mov (.t 16)⟩), (0, ⟨some 104, none, .calv (.c (.fn (.func f5) [] [])) [.t 102, .t 103]⟩), (0, ⟨some 105, none, .calv (.c (.fn (.func f6) [] [])) [.t 101, .t 104]⟩), (0, ⟨some 17, none, .mov (.t 105)⟩)] 9 [1, 6, 7, 11, 12, 13, 14, 15, 16, 17]) (.seq (.reg [⟨some 106, none, .fad 2 (.t 14)⟩, ⟨some 107, none, .ld none (.t 106)⟩, ⟨some 108, none, .mov (.t 17)⟩, ⟨some 109, none, .bsl false 1 1 [.i .i64 (0)] [(0, (.t 108))]⟩, ⟨some 110, none, .app 1 8 (.t 107) (.t 109)⟩, ⟨some 111, none, .fad 2 (.t 14)⟩, ⟨none, none, .st 1 (.t 111) (.t 110)⟩] [1, 6, 7, 11, 12, 13, 14, 15, 16, 17]) (.reg [⟨some 112, none, .mov (.t 15)⟩, ⟨some 113, none, .mov (.t 17)⟩, ⟨some 114, none, .bin .add (.t 112) (.t 113)⟩, ⟨some 15, none, .mov (.t 114)⟩] [1, 6, 7, 11, 12, 13, 14, 15, 16])))) (.reg [⟨some 94, none, .mov (.t 16)⟩, ⟨some 95, none, .bin .add (.t 94) (.c (.i .i64 (1)))⟩, ⟨some 16, none, .mov (.t 95)⟩] [1, 6, 7, 11, 12, 13, 14, 15, 16])))))) (.seq (.seq (.reg [⟨some 115, none, .mov (.t 15)⟩, ⟨some 116, none, .fad 1 (.t 14)⟩, ⟨some 117, none, .ld none (.t 116)⟩, ⟨some 118, none, .bin .gtr (.t 115) (.t 117)⟩] [1, 6, 7, 11, 12, 13, 14, 15, 118]) (.cond (.t 118) (.reg [⟨some 11, none, .mov (.c (.b true))⟩] [1, 6, 7, 11, 12, 13, 14, 15]) (.skip))) (.seq (.drg [(0, ⟨some 119, none, .ld (some 3) (.t 6)⟩), (0, ⟨some 120, none, .ld (some 3) (.t 14)⟩), (0, ⟨some 121, none, .calv (.c (.fn (.func f4) [] [])) [.t 119, .t 120]⟩), (0, ⟨some 122, none, .bin .eql (.t 121) (.c (.i .i64 (0)))⟩), (0, ⟨some 123, none, .mov (.t 15)⟩), (0, ⟨some 124, none, .fad 1 (.t 14)⟩), (0, ⟨some 125, none, .ld none (.t 124)⟩), (0, ⟨some 126, none, .bin .gtr (.t 123) (.t 125)⟩), (0, ⟨some 127, none, .eqb 0 true (.t 122) (.t 126)⟩)] 8 [1, 6, 7, 11, 12, 13, 127]) (.cond (.t 127) (.seq (.reg [⟨some 4, none, .mov (.c (.b false))⟩] [4]) (.ret)) (.skip)))))))) (.reg [⟨some 73, none, .mov (.t 13)⟩, ⟨some 74, none, .bin .add (.t 73) (.c (.i .i64 (1)))⟩, ⟨some 13, none, .mov (.t 74)⟩] [1, 6, 7, 11, 12, 13])))))) (.seq (.reg [⟨some 128, none, .mov (.t 7)⟩, ⟨some 129, none, .bin .neq (.t 128) (.c (.i .i64 (1)))⟩, ⟨some 130, none, .mov (.t 129)⟩, ⟨some 131, some (130, false), .mov (.t 11)⟩, ⟨some 132, some (130, false), .un .not (.t 131)⟩, ⟨some 133, none, .pick (.t 130) (.c (.b true)) (.t 132)⟩, ⟨some 134, none, .mov (.t 133)⟩, ⟨some 135, some (134, true), .mov (.t 7)⟩, ⟨some 136, some (134, true), .bin .neq (.t 135) (.c (.i .i64 (0)))⟩, ⟨some 137, some (134, true), .mov (.t 136)⟩, ⟨some 138, some (137, false), .mov (.t 11)⟩, ⟨some 139, some (134, true), .pick (.t 137) (.c (.b true)) (.t 138)⟩, ⟨some 140, none, .pick (.t 134) (.t 139) (.c (.b false))⟩, ⟨some 4, none, .mov (.t 140)⟩] [4]) (.ret))))))))))
abbrev Low_potbanklaw03_BungStands (P : Program) (f f0 f1 f2 f3 f4 f5 f6 : Nat) : Prop := lowF P f = some (141, [.tmp 4], (ic_potbanklaw03_BungStands f0 f1 f2 f3 f4 f5 f6).erase)

theorem take_sum {ws : List Int} (h : ∀ x ∈ ws, 0 ≤ x ∧ x ≤ 10000000) : ∀ j : Nat, 0 ≤ (ws.take j).sum ∧ (ws.take j).sum ≤ (j : Int) * 10000000 := by
  induction ws with
  | nil => intro j; simp; omega
  | cons x ws ih =>
    intro j
    cases j with
    | zero => simp
    | succ j =>
      have h1 := h x (by simp)
      have h2 := ih (fun y hy => h y (by simp [hy])) j
      rw [List.take_succ_cons, List.sum_cons]
      omega
theorem wsF_range (picks : List Int) {k : Nat} {l : List Sag} (h : ∀ s ∈ l, sagB s = true) : ∀ x ∈ wsF picks k l, 0 ≤ x ∧ x ≤ 10000000 := fun x hx => by
  obtain ⟨i, hi⟩ := List.mem_iff_getElem?.1 hx
  rw [wsF_get] at hi
  obtain ⟨s, hs, rfl⟩ := Option.map_eq_some_iff.1 hi
  have h2 := h s (List.mem_of_getElem? hs)
  simp [sagB, rgB, inR] at h2
  have h3 := oneS_in (r := s.w) (atS picks (k + i)) (by omega)
  omega
abbrev kilnC (l : List Raw) (order : List Int) (a b : Int) : List V := [.fsl (l.map Raw.C), .fsl (order.map intC), .i .i64 a, .i .i64 b]
def bearC (picks : List Int) (l : List Sag) (i : Nat) : Int := match l[i]? with | some s => oneS s.b (atS picks (l.length + i)) | none => 0
def brkU (picks : List Int) (l : List Sag) : Nat → Bool
  | 0 => false
  | i + 1 => brkU picks l i || decide (loadC picks l i > bearC picks l i)
theorem brkU_false {picks : List Int} {l : List Sag} : ∀ {n : Nat}, (∀ i, i < n → loadC picks l i ≤ bearC picks l i) → brkU picks l n = false
  | 0, _ => rfl
  | n + 1, h => by rw [brkU, brkU_false fun i hi => h i (by omega), decide_eq_false (by have := h n (by omega); omega)]; rfl
theorem brkU_true {picks : List Int} {l : List Sag} {i : Nat} (h : loadC picks l i > bearC picks l i) : ∀ {n : Nat}, i < n → brkU picks l n = true
  | 0, hi => by omega
  | n + 1, hi => by
    rw [brkU]
    rcases Nat.lt_succ_iff_lt_or_eq.1 hi with g | rfl
    · rw [brkU_true h g]; rfl
    · rw [decide_eq_true h]; simp
theorem brkU_stands {picks : List Int} {l : List Sag} (hv : listB l = true) (h : standsS l = 1) : brkU picks l l.length = false := brkU_false fun i hi => by
  obtain ⟨s, hs, _, _, _⟩ := next_of hi
  rw [bearC, hs]; exact stands_holds hv picks h hs _
theorem brkU_falls {picks : List Int} {l : List Sag} (hv : listB l = true) (h : standsS l = 0) : brkU picks l l.length = true := by
  obtain ⟨i, s, hs, hb⟩ := falls_breaks hv picks h
  exact brkU_true (i := i) (by rw [bearC, hs]; exact hb _) (List.getElem?_eq_some_iff.1 hs).1
theorem wadS_ok (a b : Int) : rgB (wadS a b) 0 200 = true := by
  have h1 := mod_pos (n := a) (m := 15) (by decide)
  have h2 := mod_pos (n := b) (m := 10) (by decide)
  simp only [rgB, wadS]
  rw [decide_eq_true (by omega), decide_eq_true (by omega), decide_eq_true (by omega)]; rfl
theorem stack_bung (l : List Raw) (order : List Int) (a b : Int) : bungB (wadS a b) (stackS l order) = true := by
  have h1 := stackS_len l order
  have h2 := sagsS_len l
  rw [bungB, wadS_ok, stackS_ok, decide_eq_true (by omega)]; rfl
def L_BungStands (P : Program) (f : Nat) : Prop := ∀ (l : List Raw) (order : List Int) (a b : Int) (picks : List Int), order.length ≤ 1000000000000000 → picks.length ≤ 1000000000000000 → Snd P f [.agg (kilnC l order a b), .fsl (picks.map intC)] [] (.b true) []
set_option maxHeartbeats 4000000 in
theorem ok_BungStands (hm : P.follows .mixedOrders = true) {f f0 f1 f2 f3 f4 f5 f6 : Nat} (low : Low_potbanklaw03_BungStands P f f0 f1 f2 f3 f4 f5 f6) (h0 : C_sane P f0) (h1 : C_stack P f1) (h2 : C_Stands P f2) (h3 : C_Breaks P f3) (h4 : C_CheckBreak P f4) (h5 : C_at P f5) (h6 : C_one P f6) : L_BungStands P f := by
  intro raws order a b picks hol hpl
  have hbung := stack_bung raws order a b
  have hv := stackS_ok raws order
  have hlen : (stackS raws order).length ≤ 12 := by rw [stackS_len]; exact (sagsS_len raws).2
  have h1' := h1 raws order a b hol
  generalize stackS raws order = l at *
  generalize wadS a b = w at *
  have h2' := h2 w l
  have h3' := h3 w l
  rw [if_pos hbung, if_pos hbung] at h2' h3'
  cases hb : brkAt l
  case' none =>
    have ha : standsS l = 1 := brkAt_none.1 hb
    rw [hb, brkV, hb] at h3'
    change Snd P f3 [V.agg (bungC w l)] [] (V.tup [.agg (brkC 0 0 []), .i .i64 34]) [] at h3'
    have q1 : (standsS l == 1) = true := by rw [ha]; rfl
    refine snd_ic hm low (by simp) ?_
    unfold ic_potbanklaw03_BungStands
    simp -dsimp -implicitDefEqProofs only [qq, Nat.reduceBEq, reduceIte, Nat.reduceAdd, Nat.reduceSub, Nat.reduceLeDiff, Nat.reduceLT, Nat.reduceMul, Nat.reduceEqDiff, Int.reduceEq, Int.reduceBEq, Int.reduceBNe, Int.reduceLT, Int.reduceLE, Int.reduceGT, Int.reduceGE, Int.reduceNeg, Int.reduceAdd, Int.reduceSub, reduceCtorEq, List.reduceReplicate, ← List.map_take, ← List.map_drop]
    refine callI_pure h0 rfl rfl ?_
    simp -dsimp -implicitDefEqProofs only [qq, Nat.reduceBEq, reduceIte, Nat.reduceAdd, Nat.reduceSub, Nat.reduceLeDiff, Nat.reduceLT, Nat.reduceMul, Nat.reduceEqDiff, Int.reduceEq, Int.reduceBEq, Int.reduceBNe, Int.reduceLT, Int.reduceLE, Int.reduceGT, Int.reduceGE, Int.reduceNeg, Int.reduceAdd, Int.reduceSub, reduceCtorEq, List.reduceReplicate, ← List.map_take, ← List.map_drop]
    refine callI_pure h1' rfl rfl ?_
    simp -dsimp -implicitDefEqProofs only [qq, Nat.reduceBEq, reduceIte, Nat.reduceAdd, Nat.reduceSub, Nat.reduceLeDiff, Nat.reduceLT, Nat.reduceMul, Nat.reduceEqDiff, Int.reduceEq, Int.reduceBEq, Int.reduceBNe, Int.reduceLT, Int.reduceLE, Int.reduceGT, Int.reduceGE, Int.reduceNeg, Int.reduceAdd, Int.reduceSub, reduceCtorEq, List.reduceReplicate, ← List.map_take, ← List.map_drop]
    refine callI_pure h2' rfl rfl ?_
    simp -dsimp -implicitDefEqProofs only [qq, Nat.reduceBEq, reduceIte, Nat.reduceAdd, Nat.reduceSub, Nat.reduceLeDiff, Nat.reduceLT, Nat.reduceMul, Nat.reduceEqDiff, Int.reduceEq, Int.reduceBEq, Int.reduceBNe, Int.reduceLT, Int.reduceLE, Int.reduceGT, Int.reduceGE, Int.reduceNeg, Int.reduceAdd, Int.reduceSub, reduceCtorEq, List.reduceReplicate, ← List.map_take, ← List.map_drop]
    refine callI_pure h3' rfl rfl ?_
    simp -dsimp -implicitDefEqProofs only [brkC, q1, qq, Nat.reduceBEq, reduceIte, Nat.reduceAdd, Nat.reduceSub, Nat.reduceLeDiff, Nat.reduceLT, Nat.reduceMul, Nat.reduceEqDiff, Int.reduceEq, Int.reduceBEq, Int.reduceBNe, Int.reduceLT, Int.reduceLE, Int.reduceGT, Int.reduceGE, Int.reduceNeg, Int.reduceAdd, Int.reduceSub, reduceCtorEq, List.reduceReplicate, ← List.map_take, ← List.map_drop]
  case' some i =>
    obtain ⟨s, hs, hbrk⟩ := brkAt_ok hv hb
    have ha : standsS l ≠ 1 := fun h => by rw [brkAt_none.2 h] at hb; cases hb
    have q1 : (standsS l == 1) = false := beq_eq_false_iff_ne.2 ha
    have h4' := h4 w l i s.b.lo ((l.drop (i + 1)).map fun s => s.w.hi)
    rw [if_pos hbung, if_pos hbrk] at h4'
    rw [hb, brkV, hb] at h3'
    simp only [hs, Option.map_some, Option.getD_some, Option.isSome_some, if_true] at h3'
    refine snd_ic hm low (by simp) ?_
    unfold ic_potbanklaw03_BungStands
    simp -dsimp -implicitDefEqProofs only [qq, Nat.reduceBEq, reduceIte, Nat.reduceAdd, Nat.reduceSub, Nat.reduceLeDiff, Nat.reduceLT, Nat.reduceMul, Nat.reduceEqDiff, Int.reduceEq, Int.reduceBEq, Int.reduceBNe, Int.reduceLT, Int.reduceLE, Int.reduceGT, Int.reduceGE, Int.reduceNeg, Int.reduceAdd, Int.reduceSub, reduceCtorEq, List.reduceReplicate, ← List.map_take, ← List.map_drop]
    refine callI_pure h0 rfl rfl ?_
    simp -dsimp -implicitDefEqProofs only [qq, Nat.reduceBEq, reduceIte, Nat.reduceAdd, Nat.reduceSub, Nat.reduceLeDiff, Nat.reduceLT, Nat.reduceMul, Nat.reduceEqDiff, Int.reduceEq, Int.reduceBEq, Int.reduceBNe, Int.reduceLT, Int.reduceLE, Int.reduceGT, Int.reduceGE, Int.reduceNeg, Int.reduceAdd, Int.reduceSub, reduceCtorEq, List.reduceReplicate, ← List.map_take, ← List.map_drop]
    refine callI_pure h1' rfl rfl ?_
    simp -dsimp -implicitDefEqProofs only [qq, Nat.reduceBEq, reduceIte, Nat.reduceAdd, Nat.reduceSub, Nat.reduceLeDiff, Nat.reduceLT, Nat.reduceMul, Nat.reduceEqDiff, Int.reduceEq, Int.reduceBEq, Int.reduceBNe, Int.reduceLT, Int.reduceLE, Int.reduceGT, Int.reduceGE, Int.reduceNeg, Int.reduceAdd, Int.reduceSub, reduceCtorEq, List.reduceReplicate, ← List.map_take, ← List.map_drop]
    refine callI_pure h2' rfl rfl ?_
    simp -dsimp -implicitDefEqProofs only [qq, Nat.reduceBEq, reduceIte, Nat.reduceAdd, Nat.reduceSub, Nat.reduceLeDiff, Nat.reduceLT, Nat.reduceMul, Nat.reduceEqDiff, Int.reduceEq, Int.reduceBEq, Int.reduceBNe, Int.reduceLT, Int.reduceLE, Int.reduceGT, Int.reduceGE, Int.reduceNeg, Int.reduceAdd, Int.reduceSub, reduceCtorEq, List.reduceReplicate, ← List.map_take, ← List.map_drop]
    refine callI_pure h3' rfl rfl ?_
    simp -dsimp -implicitDefEqProofs only [brkC, q1, qq, Nat.reduceBEq, reduceIte, Nat.reduceAdd, Nat.reduceSub, Nat.reduceLeDiff, Nat.reduceLT, Nat.reduceMul, Nat.reduceEqDiff, Int.reduceEq, Int.reduceBEq, Int.reduceBNe, Int.reduceLT, Int.reduceLE, Int.reduceGT, Int.reduceGE, Int.reduceNeg, Int.reduceAdd, Int.reduceSub, reduceCtorEq, List.reduceReplicate, ← List.map_take, ← List.map_drop]
    refine callI_pure h4' rfl rfl ?_
    simp -dsimp -implicitDefEqProofs only [qq, Nat.reduceBEq, reduceIte, Nat.reduceAdd, Nat.reduceSub, Nat.reduceLeDiff, Nat.reduceLT, Nat.reduceMul, Nat.reduceEqDiff, Int.reduceEq, Int.reduceBEq, Int.reduceBNe, Int.reduceLT, Int.reduceLE, Int.reduceGT, Int.reduceGE, Int.reduceNeg, Int.reduceAdd, Int.reduceSub, reduceCtorEq, List.reduceReplicate, ← List.map_take, ← List.map_drop]
  all_goals
    refine loopI_st (fun i : Nat => l.length - i) (fun i E H => i ≤ l.length ∧ E = [(1, .fsl (picks.map intC)), (6, .rpt 1 3 0 0), (7, .i .i64 (standsS l)), (11, .b (brkU picks l i)), (12, .i .i64 l.length), (13, .i .i64 i)] ∧ H[1]? = some (.row 3 [bungC w l])) 0 ⟨by omega, rfl, rfl⟩ ?_
    rintro i _ H ⟨hi, rfl, hb1⟩
    rcases Nat.lt_or_ge i l.length with hil | hil
    · have hc : decide ((i : Int) < (l.length : Int)) = true := decide_eq_true (by omega)
      obtain ⟨s, hs, hsm, _, _⟩ := next_of hil
      have hss := sag_w hv hsm
      have hsb : rgB s.b 0 10000000 = true := by simp [sagB] at hss; exact hss.1.1.2
      have hwi : IntKind.i64.wrap ((i : Int) + 1) = ((i + 1 : Nat) : Int) := wrap_succ (by omega)
      have hwn : IntKind.i64.wrap ((l.length : Int) + (i : Int)) = ((l.length + i : Nat) : Int) := by rw [wrap_id (by omega) (by omega)]; omega
      have h5' := h5 picks (l.length + i) (by omega) hpl
      have h6' := h6 s.b (atS picks (l.length + i)) hsb
      simp -dsimp -implicitDefEqProofs only [hc, hb1, hs, Sag.c, hwn, qq, Nat.reduceBEq, reduceIte, Nat.reduceAdd, Nat.reduceSub, Nat.reduceLeDiff, Nat.reduceLT, Nat.reduceMul, Nat.reduceEqDiff, Int.reduceEq, Int.reduceBEq, Int.reduceBNe, Int.reduceLT, Int.reduceLE, Int.reduceGT, Int.reduceGE, Int.reduceNeg, Int.reduceAdd, Int.reduceSub, reduceCtorEq, List.reduceReplicate, ← List.map_take, ← List.map_drop]
      refine callI_pure h5' rfl rfl ?_
      simp -dsimp -implicitDefEqProofs only [hb1, qq, Nat.reduceBEq, reduceIte, Nat.reduceAdd, Nat.reduceSub, Nat.reduceLeDiff, Nat.reduceLT, Nat.reduceMul, Nat.reduceEqDiff, Int.reduceEq, Int.reduceBEq, Int.reduceBNe, Int.reduceLT, Int.reduceLE, Int.reduceGT, Int.reduceGE, Int.reduceNeg, Int.reduceAdd, Int.reduceSub, reduceCtorEq, List.reduceReplicate, ← List.map_take, ← List.map_drop]
      refine callI_pure h6' rfl rfl ?_
      simp -dsimp -implicitDefEqProofs only [hb1, hwi, qq, Nat.reduceBEq, reduceIte, Nat.reduceAdd, Nat.reduceSub, Nat.reduceLeDiff, Nat.reduceLT, Nat.reduceMul, Nat.reduceEqDiff, Int.reduceEq, Int.reduceBEq, Int.reduceBNe, Int.reduceLT, Int.reduceLE, Int.reduceGT, Int.reduceGE, Int.reduceNeg, Int.reduceAdd, Int.reduceSub, reduceCtorEq, List.reduceReplicate, ← List.map_take, ← List.map_drop]
      have hsd : ∀ x ∈ l.drop (i + 1), sagB x = true := fun x hx => sag_w hv (List.mem_of_mem_drop hx)
      have hwr := wsF_range picks (k := i + 1) hsd
      have hwl := wsF_length picks (i + 1) (l.drop (i + 1))
      have hchosen := brk_chosen hv picks hs (atS picks (l.length + i))
      have hload : loadC picks l i = (wsF picks (i + 1) (l.drop (i + 1))).sum := rfl
      have hws : ∀ j, (wsF picks (i + 1) (l.drop (i + 1)))[j]? = (l[i + 1 + j]?).map fun s => oneS s.w (atS picks (i + 1 + j)) := fun j => by rw [wsF_get, List.getElem?_drop]
      rw [List.length_drop] at hwl
      have hbear : bearC picks l i = oneS s.b (atS picks (l.length + i)) := by rw [bearC, hs]
      change loopI _ [_, _, _, _, _, _, _, _, (16, .i .i64 ((i + 1 : Nat) : Int))] _ _
      generalize hbe : oneS s.b (atS picks (l.length + i)) = bear at *
      generalize wsF picks (i + 1) (l.drop (i + 1)) = ws at *
      refine loopI_st (fun j : Nat => ws.length - j) (fun j E H' => j ≤ ws.length ∧ ∃ u, E = [(1, .fsl (picks.map intC)), (6, .rpt 1 3 0 0), (7, .i .i64 (standsS l)), (11, .b (brkU picks l i)), (12, .i .i64 l.length), (13, .i .i64 i), (14, .rpt H.length 3 0 0), (15, .i .i64 (ws.take j).sum), (16, .i .i64 (i + 1 + j : Nat))] ∧ H'[1]? = some (.row 3 [bungC w l]) ∧ H'[H.length]? = some (.row 3 [[.i .i64 i, .i .i64 bear, u]]) ∧ OwnS H' 1 ((ws.take j).map intC) u) 0 ⟨by omega, .nsl, by simp, ?_, ?_, .nil _ _⟩ ?_
      · exact get_app hb1 _
      · rw [get_new, ← hbe]; rfl
      rintro j _ H2 ⟨hj, u, rfl, hb1', hbq, ho⟩
      rcases Nat.lt_or_ge j ws.length with hjl | hjl
      · have hc2 : decide (((i + 1 + j : Nat) : Int) < (l.length : Int)) = true := decide_eq_true (by omega)
        obtain ⟨z, hz, hzm, _, _⟩ := next_of (show i + 1 + j < l.length by omega)
        have hwj := hws j
        rw [hz] at hwj
        have hzs := sag_w hv hzm
        have hzw : rgB z.w 0 10000000 = true := by simp [sagB] at hzs; exact hzs.1.1.1.2
        have h5k := h5 picks (i + 1 + j) (by omega) hpl
        have h6k := h6 z.w (atS picks (i + 1 + j)) hzw
        change Snd P f6 [_, _] [] (.i .i64 (oneS z.w (atS picks (i + 1 + j)))) [] at h6k
        simp only [Option.map_some] at hwj
        generalize oneS z.w (atS picks (i + 1 + j)) = x at *
        have htk : ws.take (j + 1) = ws.take j ++ [x] := by rw [List.take_add_one, hwj]; rfl
        have hsum := take_sum hwr (j + 1)
        have hws2 : IntKind.i64.wrap ((ws.take j).sum + x) = (ws.take (j + 1)).sum := by
          rw [htk, List.sum_append] at hsum ⊢
          simp only [List.sum_cons, List.sum_nil, Int.add_zero] at hsum ⊢
          exact wrap_id (by omega) (by omega)
        have hwk2 : IntKind.i64.wrap (((i + 1 + j : Nat) : Int) + 1) = ((i + 1 + (j + 1) : Nat) : Int) := wrap_succ (by omega)
        have hlt1 : (ws.take j).length ≤ 12 := by rw [List.length_take]; omega
        generalize hkk : i + 1 + j = kk at *
        simp -dsimp -implicitDefEqProofs only [hc2, hb1', hz, Sag.c, qq, Nat.reduceBEq, reduceIte, Nat.reduceAdd, Nat.reduceSub, Nat.reduceLeDiff, Nat.reduceLT, Nat.reduceMul, Nat.reduceEqDiff, Int.reduceEq, Int.reduceBEq, Int.reduceBNe, Int.reduceLT, Int.reduceLE, Int.reduceGT, Int.reduceGE, Int.reduceNeg, Int.reduceAdd, Int.reduceSub, reduceCtorEq, List.reduceReplicate, ← List.map_take, ← List.map_drop]
        refine callI_pure h5k rfl rfl ?_
        simp -dsimp -implicitDefEqProofs only [hb1', qq, Nat.reduceBEq, reduceIte, Nat.reduceAdd, Nat.reduceSub, Nat.reduceLeDiff, Nat.reduceLT, Nat.reduceMul, Nat.reduceEqDiff, Int.reduceEq, Int.reduceBEq, Int.reduceBNe, Int.reduceLT, Int.reduceLE, Int.reduceGT, Int.reduceGE, Int.reduceNeg, Int.reduceAdd, Int.reduceSub, reduceCtorEq, List.reduceReplicate, ← List.map_take, ← List.map_drop]
        refine callI_pure h6k rfl rfl ?_
        have hne : ∀ p b3, H2[p]? = some (.row 3 b3) → ∀ k o l c e, u ≠ .rsl p k o l c e := fun p b3 hp k o l c e hve => by
          rcases ho with ⟨_, h⟩ | ⟨p', c', e', h, hp'⟩
          · rw [h] at hve; cases hve
          · rw [h] at hve; cases hve
            rw [hp] at hp'; cases hp'
        have hlt2 := get_lt hb1
        simp -dsimp -implicitDefEqProofs only [hbq, qq, Nat.reduceBEq, reduceIte, Nat.reduceAdd, Nat.reduceSub, Nat.reduceLeDiff, Nat.reduceLT, Nat.reduceMul, Nat.reduceEqDiff, Int.reduceEq, Int.reduceBEq, Int.reduceBNe, Int.reduceLT, Int.reduceLE, Int.reduceGT, Int.reduceGE, Int.reduceNeg, Int.reduceAdd, Int.reduceSub, reduceCtorEq, List.reduceReplicate, ← List.map_take, ← List.map_drop]
        refine app_own (ys := [[.i .i64 x]]) (ho.app _) (by decide) (by decide) (by simp [Sh.shown]) (by simp [V.one]) (by rw [List.length_map]; simp at hlt1 ⊢; omega) fun u' H3 hu' ha hf => ?_
        have hb1'' := ha.keep _ _ (get_app hb1' _) (hne _ _ hb1')
        have hbq'' := ha.keep _ _ (get_app hbq _) (hne _ _ hbq)
        have hnx : (ws.take (j + 1)).map intC = (ws.take j).map intC ++ [[.i .i64 x]] := by rw [htk, List.map_append]; rfl
        rw [← hnx] at hu'
        have hu1 : u'.cells = [u'] ∧ u'.one = true := by rcases hu' with ⟨_, rfl⟩ | ⟨p, c, e, rfl, _⟩ <;> exact ⟨rfl, rfl⟩
        have hset : ∀ b', OwnS (H3.set H.length b') 1 ((ws.take (j + 1)).map intC) u' := fun b' => by
          rcases hu' with h | ⟨p', c', e', h, hp'⟩
          · exact .inl h
          · exact .inr ⟨p', c', e', h, get_setne hp' (fun e => by rw [← e, hbq''] at hp'; cases hp')⟩
        simp -dsimp -implicitDefEqProofs only [hbq'', hws2, hwk2, hu1.1, hu1.2, qq, Nat.reduceBEq, reduceIte, Nat.reduceAdd, Nat.reduceSub, Nat.reduceLeDiff, Nat.reduceLT, Nat.reduceMul, Nat.reduceEqDiff, Int.reduceEq, Int.reduceBEq, Int.reduceBNe, Int.reduceLT, Int.reduceLE, Int.reduceGT, Int.reduceGE, Int.reduceNeg, Int.reduceAdd, Int.reduceSub, reduceCtorEq, List.reduceReplicate, ← List.map_take, ← List.map_drop]
        exact ⟨j + 1, by omega, by omega, rfl, get_setne hb1'' (by omega), _, get_setsame hbq'', hset _⟩
      · obtain rfl : j = ws.length := by omega
        rw [List.take_of_length_le (Nat.le_refl _)] at ho ⊢
        have hc2 : decide (((i + 1 + ws.length : Nat) : Int) < (l.length : Int)) = false := decide_eq_false (by omega)
        have h4k := h4 w l i bear ws
        rw [if_pos hbung, hchosen] at h4k
        have hfr : Frz 0 H2 (.agg [.i .i64 i, .i .i64 bear, u]) (.agg (brkC i bear ws)) := .agg _ _ rfl fun j v v' e1 e2 => by
          match j with
          | 0 => simp [brkC] at e1 e2; subst e1 e2; exact .keep _ rfl
          | 1 => simp [brkC] at e1 e2; subst e1 e2; exact .keep _ rfl
          | 2 => simp [brkC] at e1 e2; subst e1 e2; exact ho.frz (bel_ints _)
          | j + 3 => simp at e1
        have hbel : V.bel H2.length u = true := by
          rcases ho with ⟨_, rfl⟩ | ⟨p, c, e, rfl, hp⟩
          · rfl
          · simp [V.bel, get_lt hp]
        have hU : brkU picks l (i + 1) = (brkU picks l i || decide (ws.sum > bear)) := by rw [brkU, hload, hbear]
        generalize hkk : i + 1 + ws.length = kk at *
        cases hgt : decide (ws.sum > bear)
        · have hlt : decide (bear < ws.sum) = false := hgt
          rw [hgt, Bool.or_false] at hU
          rw [hlt] at h4k
          simp -dsimp -implicitDefEqProofs only [hc2, hbq, hgt, hb1', qq, Nat.reduceBEq, reduceIte, Nat.reduceAdd, Nat.reduceSub, Nat.reduceLeDiff, Nat.reduceLT, Nat.reduceMul, Nat.reduceEqDiff, Int.reduceEq, Int.reduceBEq, Int.reduceBNe, Int.reduceLT, Int.reduceLE, Int.reduceGT, Int.reduceGE, Int.reduceNeg, Int.reduceAdd, Int.reduceSub, reduceCtorEq, List.reduceReplicate, ← List.map_take, ← List.map_drop]
          refine ⟨by rw [hbel]; rfl, callI_lend2 h4k (.keep _ rfl) hfr rfl ?_⟩
          simp -dsimp -implicitDefEqProofs only [hbq, hgt, hwi, qq, Nat.reduceBEq, reduceIte, Nat.reduceAdd, Nat.reduceSub, Nat.reduceLeDiff, Nat.reduceLT, Nat.reduceMul, Nat.reduceEqDiff, Int.reduceEq, Int.reduceBEq, Int.reduceBNe, Int.reduceLT, Int.reduceLE, Int.reduceGT, Int.reduceGE, Int.reduceNeg, Int.reduceAdd, Int.reduceSub, reduceCtorEq, List.reduceReplicate, ← List.map_take, ← List.map_drop]
          exact ⟨i + 1, by omega, by omega, by rw [hU], hb1'⟩
        · have hlt : decide (bear < ws.sum) = true := hgt
          rw [hgt, Bool.or_true] at hU
          rw [hlt] at h4k
          simp -dsimp -implicitDefEqProofs only [hc2, hbq, hgt, hb1', qq, Nat.reduceBEq, reduceIte, Nat.reduceAdd, Nat.reduceSub, Nat.reduceLeDiff, Nat.reduceLT, Nat.reduceMul, Nat.reduceEqDiff, Int.reduceEq, Int.reduceBEq, Int.reduceBNe, Int.reduceLT, Int.reduceLE, Int.reduceGT, Int.reduceGE, Int.reduceNeg, Int.reduceAdd, Int.reduceSub, reduceCtorEq, List.reduceReplicate, ← List.map_take, ← List.map_drop]
          refine ⟨by rw [hbel]; rfl, callI_lend2 h4k (.keep _ rfl) hfr rfl ?_⟩
          simp -dsimp -implicitDefEqProofs only [hbq, hgt, hwi, qq, Nat.reduceBEq, reduceIte, Nat.reduceAdd, Nat.reduceSub, Nat.reduceLeDiff, Nat.reduceLT, Nat.reduceMul, Nat.reduceEqDiff, Int.reduceEq, Int.reduceBEq, Int.reduceBNe, Int.reduceLT, Int.reduceLE, Int.reduceGT, Int.reduceGE, Int.reduceNeg, Int.reduceAdd, Int.reduceSub, reduceCtorEq, List.reduceReplicate, ← List.map_take, ← List.map_drop]
          exact ⟨i + 1, by omega, by omega, by rw [hU], hb1'⟩
    · obtain rfl : i = l.length := by omega
      have hc : decide ((l.length : Int) < (l.length : Int)) = false := by simp
      by_cases h1 : standsS l = 1
      · have q1 : (standsS l != 1) = false := by rw [h1]; rfl
        have q2 : (standsS l != 0) = true := by rw [h1]; rfl
        have q3 := brkU_stands (picks := picks) hv h1
        simp -dsimp -implicitDefEqProofs only [hc, q1, q2, q3, qq, Nat.reduceBEq, reduceIte, Nat.reduceAdd, Nat.reduceSub, Nat.reduceLeDiff, Nat.reduceLT, Nat.reduceMul, Nat.reduceEqDiff, Int.reduceEq, Int.reduceBEq, Int.reduceBNe, Int.reduceLT, Int.reduceLE, Int.reduceGT, Int.reduceGE, Int.reduceNeg, Int.reduceAdd, Int.reduceSub, reduceCtorEq, List.reduceReplicate, ← List.map_take, ← List.map_drop]
        exact Ends.plain rfl rfl rfl
      by_cases h0 : standsS l = 0
      · have q1 : (standsS l != 1) = true := by rw [h0]; rfl
        have q2 : (standsS l != 0) = false := by rw [h0]; rfl
        have q3 := brkU_falls (picks := picks) hv h0
        simp -dsimp -implicitDefEqProofs only [hc, q1, q2, q3, qq, Nat.reduceBEq, reduceIte, Nat.reduceAdd, Nat.reduceSub, Nat.reduceLeDiff, Nat.reduceLT, Nat.reduceMul, Nat.reduceEqDiff, Int.reduceEq, Int.reduceBEq, Int.reduceBNe, Int.reduceLT, Int.reduceLE, Int.reduceGT, Int.reduceGE, Int.reduceNeg, Int.reduceAdd, Int.reduceSub, reduceCtorEq, List.reduceReplicate, ← List.map_take, ← List.map_drop]
        exact Ends.plain rfl rfl rfl
      · have q1 : (standsS l != 1) = true := bne_iff_ne.2 h1
        have q2 : (standsS l != 0) = true := bne_iff_ne.2 h0
        simp -dsimp -implicitDefEqProofs only [hc, q1, q2, qq, Nat.reduceBEq, reduceIte, Nat.reduceAdd, Nat.reduceSub, Nat.reduceLeDiff, Nat.reduceLT, Nat.reduceMul, Nat.reduceEqDiff, Int.reduceEq, Int.reduceBEq, Int.reduceBNe, Int.reduceLT, Int.reduceLE, Int.reduceGT, Int.reduceGE, Int.reduceNeg, Int.reduceAdd, Int.reduceSub, reduceCtorEq, List.reduceReplicate, ← List.map_take, ← List.map_drop]
        exact Ends.plain rfl rfl rfl
end Go.Sh.C3
end
section
namespace Go.Sh.C3
open Go.Sh
set_option maxRecDepth 10000
set_option linter.unusedVariables false
set_option linter.unusedSimpArgs false
variable {P : Program}
def ic_potbankref03_CheckBreak (f0 f1 : Nat) : IC := .seq (.reg [⟨some 2, none, .box (.t 0)⟩, ⟨some 3, none, .box (.t 1)⟩, ⟨some 4, none, .mov (.c (.i .i64 (0)))⟩] [2, 3]) (.seq (.seq (.reg [⟨some 9, none, .ld (some 3) (.t 2)⟩, ⟨some 10, none, .calv (.c (.fn (.func f0) [] [])) [.t 9]⟩, ⟨some 11, none, .bin .neq (.t 10) (.c (.i .i64 (0)))⟩] [2, 3, 11]) (.cond (.t 11) (.seq (.reg [⟨some 4, none, .mov (.c (.i .i64 (31)))⟩] [4]) (.ret)) (.skip))) (.seq (.reg [⟨some 12, none, .fad 2 (.t 2)⟩, ⟨some 13, none, .ld none (.t 12)⟩, ⟨some 5, none, .mov (.t 13)⟩] [3, 5]) (.seq (.seq (.drg [(0, ⟨some 14, none, .fad 0 (.t 3)⟩), (0, ⟨some 15, none, .ld none (.t 14)⟩), (0, ⟨some 16, none, .mov (.t 5)⟩), (0, ⟨some 17, none, .len false (.t 16)⟩), (0, ⟨some 18, none, .bin .sub (.t 17) (.c (.i .i64 (1)))⟩), (0, ⟨some 19, none, .calv (.c (.fn (.func f1) [] [])) [.t 15, .c (.i .i64 (0)), .t 18]⟩), (0, ⟨some 20, none, .un .not (.t 19)⟩), (0, ⟨some 21, none, .mov (.t 20)⟩), (0, ⟨some 22, some (21, false), .fad 2 (.t 3)⟩), (0, ⟨some 23, some (21, false), .ld none (.t 22)⟩), (0, ⟨some 24, some (21, false), .len false (.t 23)⟩), (0, ⟨some 25, some (21, false), .mov (.t 5)⟩), (0, ⟨some 26, some (21, false), .len false (.t 25)⟩), (0, ⟨some 27, some (21, false), .bin .sub (.t 26) (.c (.i .i64 (1)))⟩), (0, ⟨some 28, some (21, false), .fad 0 (.t 3)⟩), (0, ⟨some 29, some (21, false), .ld none (.t 28)⟩), (0, ⟨some 30, some (21, false), .bin .sub (.t 27) (.t 29)⟩), (0, ⟨some 31, some (21, false), .bin .neq (.t 24) (.t 30)⟩), (0, ⟨some 32, none, .pick (.t 21) (.c (.b true)) (.t 31)⟩), (0, ⟨some 33, none, .mov (.t 32)⟩), (0, ⟨some 34, some (33, false), .fad 1 (.t 3)⟩), (0, ⟨some 35, some (33, false), .ld none (.t 34)⟩), (0, ⟨some 36, some (33, false), .mov (.t 5)⟩), (0, ⟨some 37, some (33, false), .fad 0 (.t 3)⟩), (0, ⟨some 38, some (33, false), .ld none (.t 37)⟩), (0, ⟨some 39, some (33, false), .ixs 8 (.t 36) (.t 38)⟩), (0, ⟨some 40, some (33, false), .fad 3 (.t 39)⟩), (0, ⟨some 41, some (33, false), .fad 0 (.t 40)⟩), (0, ⟨some 42, some (33, false), .ld none (.t 41)⟩), (0, ⟨some 43, some (33, false), .mov (.t 5)⟩), (0, ⟨some 44, some (33, false), .fad 0 (.t 3)⟩), (0, ⟨some 45, some (33, false), .ld none (.t 44)⟩), (0, ⟨some 46, some (33, false), .ixs 8 (.t 43) (.t 45)⟩), (0, ⟨some 47, some (33, false), .fad 3 (.t 46)⟩), (0, ⟨some 48, some (33, false), .fad 1 (.t 47)⟩), (0, ⟨some 49, some (33, false), .ld none (.t 48)⟩), (0, ⟨some 50, some (33, false), .calv (.c (.fn (.func f1) [] [])) [.t 35, .t 42, .t 49]⟩), (0, ⟨some 51, some (33, false), .un .not (.t 50)⟩), (0, ⟨some 52, none, .pick (.t 33) (.c (.b true)) (.t 51)⟩)] 36 [3, 5, 52]) (.cond (.t 52) (.seq (.reg [⟨some 4, none, .mov (.c (.i .i64 (35)))⟩] [4]) (.ret)) (.skip))) (.seq (.reg [⟨some 6, none, .mov (.c (.i .i64 (0)))⟩] [3, 5, 6]) (.seq (.seq (.reg [⟨some 7, none, .mov (.c (.i .i64 (0)))⟩] [3, 5, 6, 7]) (.block 0 (.loop (.seq (.seq (.reg [⟨some 53, none, .mov (.t 7)⟩, ⟨some 54, none, .fad 2 (.t 3)⟩, ⟨some 55, none, .ld none (.t 54)⟩, ⟨some 56, none, .len false (.t 55)⟩, ⟨some 57, none, .bin .lss (.t 53) (.t 56)⟩] [3, 5, 6, 7, 57]) (.cond (.t 57) (.skip) (.exit 0))) (.seq (.block 1 (.seq (.reg [⟨some 60, none, .mov (.t 5)⟩, ⟨some 61, none, .fad 0 (.t 3)⟩, ⟨some 62, none, .ld none (.t 61)⟩, ⟨some 63, none, .bin .add (.t 62) (.c (.i .i64 (1)))⟩, ⟨some 64, none, .mov (.t 7)⟩, ⟨some 65, none, .bin .add (.t 63) (.t 64)⟩, ⟨some 66, none, .ixs 8 (.t 60) (.t 65)⟩, ⟨some 67, none, .fad 1 (.t 66)⟩, ⟨some 68, none, .ld (some 2) (.t 67)⟩, ⟨some 8, none, .alloc [.i .i64 (0), .i .i64 (0)]⟩, ⟨none, none, .st 2 (.t 8) (.t 68)⟩] [3, 5, 6, 7, 8]) (.seq (.seq (.drg [(0, ⟨some 69, none, .fad 2 (.t 3)⟩), (0, ⟨some 70, none, .ld none (.t 69)⟩), (0, ⟨some 71, none, .mov (.t 7)⟩), (0, ⟨some 72, none, .ixs 1 (.t 70) (.t 71)⟩), (0, ⟨some 73, none, .ld none (.t 72)⟩), (0, ⟨some 74, none, .fad 0 (.t 8)⟩), (0, ⟨some 75, none, .ld none (.t 74)⟩), (0, ⟨some 76, none, .fad 1 (.t 8)⟩), (0, ⟨some 77, none, .ld none (.t 76)⟩), (0, ⟨some 78, none, .calv (.c (.fn (.func f1) [] [])) [.t 73, .t 75, .t 77]⟩), (0, ⟨some 79, none, .un .not (.t 78)⟩)] 9 [3, 5, 6, 7, 79]) (.cond (.t 79) (.seq (.reg [⟨some 4, none, .mov (.c (.i .i64 (35)))⟩] [4]) (.ret)) (.skip))) (.reg [⟨some 80, none, .mov (.t 6)⟩, ⟨some 81, none, .fad 2 (.t 3)⟩, ⟨some 82, none, .ld none (.t 81)⟩, ⟨some 83, none, .mov (.t 7)⟩, ⟨some 84, none, .ixs 1 (.t 82) (.t 83)⟩, ⟨some 85, none, .ld none (.t 84)⟩, ⟨some 86, none, .bin .add (.t 80) (.t 85)⟩, ⟨some 6, none, .mov (.t 86)⟩] [3, 5, 6, 7])))) (.reg [⟨some 58, none, .mov (.t 7)⟩, ⟨some 59, none, .bin .add (.t 58) (.c (.i .i64 (1)))⟩, ⟨some 7, none, .mov (.t 59)⟩] [3, 5, 6, 7])))))) (.seq (.seq (.reg [⟨some 87, none, .mov (.t 6)⟩, ⟨some 88, none, .fad 1 (.t 3)⟩, ⟨some 89, none, .ld none (.t 88)⟩, ⟨some 90, none, .bin .leq (.t 87) (.t 89)⟩] [90]) (.cond (.t 90) (.seq (.reg [⟨some 4, none, .mov (.c (.i .i64 (35)))⟩] [4]) (.ret)) (.skip))) (.seq (.reg [⟨some 4, none, .mov (.c (.i .i64 (0)))⟩] [4]) (.ret))))))))
abbrev Low_potbankref03_CheckBreak (P : Program) (f f0 f1 : Nat) : Prop := lowF P f = some (91, [.tmp 4], (ic_potbankref03_CheckBreak f0 f1).erase)
def ic_potbankref03_Breaks (f0 f1 : Nat) : IC := .seq (.reg [⟨some 1, none, .box (.t 0)⟩, ⟨some 2, none, .alloc [.i .i64 (0), .i .i64 (0), .nsl]⟩, ⟨some 3, none, .mov (.c (.i .i64 (0)))⟩] [1, 2]) (.seq (.seq (.reg [⟨some 7, none, .ld (some 3) (.t 1)⟩, ⟨some 8, none, .calv (.c (.fn (.func f0) [] [])) [.t 7]⟩, ⟨some 9, none, .bin .neq (.t 8) (.c (.i .i64 (0)))⟩] [1, 2, 9]) (.cond (.t 9) (.seq (.reg [⟨some 10, none, .bld [.i .i64 (0), .i .i64 (0), .nsl] []⟩, ⟨none, none, .st 3 (.t 2) (.t 10)⟩, ⟨some 3, none, .mov (.c (.i .i64 (31)))⟩] [2, 3]) (.ret)) (.skip))) (.seq (.seq (.reg [⟨some 4, none, .mov (.c (.i .i64 (0)))⟩] [1, 2, 4]) (.block 0 (.loop (.seq (.seq (.reg [⟨some 11, none, .mov (.t 4)⟩, ⟨some 12, none, .fad 2 (.t 1)⟩, ⟨some 13, none, .ld none (.t 12)⟩, ⟨some 14, none, .len false (.t 13)⟩, ⟨some 15, none, .bin .lss (.t 11) (.t 14)⟩] [1, 2, 4, 15]) (.cond (.t 15) (.skip) (.exit 0))) (.seq (.block 1 (.seq (.seq (.reg [⟨some 18, none, .fad 2 (.t 1)⟩, ⟨some 19, none, .ld none (.t 18)⟩, ⟨some 20, none, .mov (.t 4)⟩, ⟨some 21, none, .calv (.c (.fn (.func f1) [] [])) [.t 19, .t 20]⟩, ⟨some 22, none, .bin .eql (.t 21) (.c (.i .i64 (1)))⟩] [1, 2, 4, 22]) (.cond (.t 22) (.exit 1) (.skip))) (.seq (.reg [⟨some 23, none, .mov (.t 4)⟩, ⟨some 24, none, .fad 2 (.t 1)⟩, ⟨some 25, none, .ld none (.t 24)⟩, ⟨some 26, none, .mov (.t 4)⟩, ⟨some 27, none, .ixs 8 (.t 25) (.t 26)⟩, ⟨some 28, none, .fad 3 (.t 27)⟩, ⟨some 29, none, .fad 0 (.t 28)⟩, ⟨some 30, none, .ld none (.t 29)⟩, ⟨some 31, none, .bld [.i .i64 (0), .i .i64 (0), .nsl] [(0, 1, (.t 23)), (1, 1, (.t 30))]⟩, ⟨some 5, none, .alloc [.i .i64 (0), .i .i64 (0), .nsl]⟩, ⟨none, none, .st 3 (.t 5) (.t 31)⟩] [1, 2, 4, 5]) (.seq (.seq (.reg [⟨some 32, none, .mov (.t 4)⟩, ⟨some 33, none, .bin .add (.t 32) (.c (.i .i64 (1)))⟩, ⟨some 6, none, .mov (.t 33)⟩] [1, 2, 5, 6]) (.block 2 (.loop (.seq (.seq (.reg [⟨some 34, none, .mov (.t 6)⟩, ⟨some 35, none, .fad 2 (.t 1)⟩, ⟨some 36, none, .ld none (.t 35)⟩, ⟨some 37, none, .len false (.t 36)⟩, ⟨some 38, none, .bin .lss (.t 34) (.t 37)⟩] [1, 2, 5, 6, 38]) (.cond (.t 38) (.skip) (.exit 2))) (.seq (.block 3 (.drg [(0, ⟨some 41, none, .fad 2 (.t 5)⟩), (0, ⟨some 42, none, .ld none (.t 41)⟩), (0, ⟨some 43, none, .fad 2 (.t 1)⟩), (0, ⟨some 44, none, .ld none (.t 43)⟩), (0, ⟨some 45, none, .mov (.t 6)⟩), (0, ⟨some 46, none, .ixs 8 (.t 44) (.t 45)⟩), (0, ⟨some 47, none, .fad 1 (.t 46)⟩), (0, ⟨some 48, none, .fad 1 (.t 47)⟩), (0, ⟨some 49, none, .ld none (.t 48)⟩), (1, ⟨some 50, none, .bsl false 1 1 [.i .i64 (0)] [(0, (.t 49))]⟩), (1, ⟨some 51, none, .app 1 8 (.t 42) (.t 50)⟩), (0, ⟨some 52, none, .fad 2 (.t 5)⟩), (1, ⟨none, none, .st 1 (.t 52) (.t 51)⟩)] 10 [1, 2, 5, 6])) (.reg [⟨some 39, none, .mov (.t 6)⟩, ⟨some 40, none, .bin .add (.t 39) (.c (.i .i64 (1)))⟩, ⟨some 6, none, .mov (.t 40)⟩] [1, 2, 5, 6])))))) (.seq (.reg [⟨some 53, none, .ld (some 3) (.t 5)⟩, ⟨none, none, .st 3 (.t 2) (.t 53)⟩, ⟨some 3, none, .mov (.c (.i .i64 (0)))⟩] [2, 3]) (.ret)))))) (.reg [⟨some 16, none, .mov (.t 4)⟩, ⟨some 17, none, .bin .add (.t 16) (.c (.i .i64 (1)))⟩, ⟨some 4, none, .mov (.t 17)⟩] [1, 2, 4])))))) (.seq (.reg [⟨some 54, none, .bld [.i .i64 (0), .i .i64 (0), .nsl] []⟩, ⟨none, none, .st 3 (.t 2) (.t 54)⟩, ⟨some 3, none, .mov (.c (.i .i64 (34)))⟩] [2, 3]) (.ret))))
abbrev Low_potbankref03_Breaks (P : Program) (f f0 f1 : Nat) : Prop := lowF P f = some (55, [.cell 2 (some 3), .tmp 3], (ic_potbankref03_Breaks f0 f1).erase)

set_option maxHeartbeats 1000000 in
theorem ok_rCheckBreak (hm : P.follows .mixedOrders = true) {f f0 f1 : Nat} (low : Low_potbankref03_CheckBreak P f f0 f1) (h0 : C_Check P f0) (h1 : C_within P f1) : C_CheckBreak P f := by
  intro w l c b ws
  unfold brkC
  refine snd_ic hm low (by simp) ?_
  unfold ic_potbankref03_CheckBreak
  simp -dsimp -implicitDefEqProofs only [qq, Nat.reduceBEq, reduceIte, Nat.reduceAdd, Nat.reduceSub, Nat.reduceLeDiff, Nat.reduceLT, Nat.reduceMul, Nat.reduceEqDiff, Int.reduceEq, Int.reduceBEq, Int.reduceBNe, Int.reduceLT, Int.reduceLE, Int.reduceGT, Int.reduceGE, Int.reduceNeg, Int.reduceAdd, Int.reduceSub, reduceCtorEq, List.reduceReplicate, ← List.map_take, ← List.map_drop]
  refine callI_pure (h0 w l) rfl rfl ?_
  cases hb : bungB w l <;> simp -dsimp -implicitDefEqProofs only [qq, Nat.reduceBEq, reduceIte, Nat.reduceAdd, Nat.reduceSub, Nat.reduceLeDiff, Nat.reduceLT, Nat.reduceMul, Nat.reduceEqDiff, Int.reduceEq, Int.reduceBEq, Int.reduceBNe, Int.reduceLT, Int.reduceLE, Int.reduceGT, Int.reduceGE, Int.reduceNeg, Int.reduceAdd, Int.reduceSub, reduceCtorEq, List.reduceReplicate, ← List.map_take, ← List.map_drop]
  · exact Ends.plain rfl rfl (by simp [resV])
  have hv := bung_list hb
  have hlen := list_len hv
  have w0 : IntKind.i64.wrap ((l.length : Int) - 1) = (l.length : Int) - 1 := wrap_id (by omega) (by omega)
  simp -dsimp -implicitDefEqProofs only [bungC, Rg.c, w0, qq, Nat.reduceBEq, reduceIte, Nat.reduceAdd, Nat.reduceSub, Nat.reduceLeDiff, Nat.reduceLT, Nat.reduceMul, Nat.reduceEqDiff, Int.reduceEq, Int.reduceBEq, Int.reduceBNe, Int.reduceLT, Int.reduceLE, Int.reduceGT, Int.reduceGE, Int.reduceNeg, Int.reduceAdd, Int.reduceSub, reduceCtorEq, List.reduceReplicate, ← List.map_take, ← List.map_drop]
  refine callI_pure (h1 c 0 _) rfl rfl ?_
  cases hc : inR c 0 ((l.length : Int) - 1)
  · simp -dsimp -implicitDefEqProofs only [qq, Nat.reduceBEq, reduceIte, Nat.reduceAdd, Nat.reduceSub, Nat.reduceLeDiff, Nat.reduceLT, Nat.reduceMul, Nat.reduceEqDiff, Int.reduceEq, Int.reduceBEq, Int.reduceBNe, Int.reduceLT, Int.reduceLE, Int.reduceGT, Int.reduceGE, Int.reduceNeg, Int.reduceAdd, Int.reduceSub, reduceCtorEq, List.reduceReplicate, ← List.map_take, ← List.map_drop]
    exact Ends.plain rfl rfl (by simp [resV, brkB, hc])
  have hcb : 0 ≤ c ∧ c < l.length := by simp [inR] at hc; omega
  obtain ⟨x, hx, hxm, _, _⟩ := next_of (show c.toNat < l.length by omega)
  obtain ⟨n, rfl⟩ : ∃ n : Nat, c = n := ⟨c.toNat, by omega⟩
  have wk : IntKind.i64.wrap ((n : Int) + 1) = ((n + 1 : Nat) : Int) := wrap_succ (by omega)
  have w1 : IntKind.i64.wrap ((l.length : Int) - 1 - n) = ((l.drop (n + 1)).length : Int) := by rw [wrap_id (by omega) (by omega), List.length_drop]; omega
  have hdl : (l.drop (n + 1)).length ≤ 30 := by rw [List.length_drop]; omega
  rw [Int.toNat_natCast] at hx
  by_cases hlw : ¬ ws.length = (l.drop (n + 1)).length
  · have hne : (((ws.length : Nat) : Int) != ((l.drop (n + 1)).length : Int)) = true := by rw [bne_iff_ne]; omega
    simp -dsimp -implicitDefEqProofs only [hx, Sag.c, wk, w0, w1, hne, qq, Nat.reduceBEq, reduceIte, Nat.reduceAdd, Nat.reduceSub, Nat.reduceLeDiff, Nat.reduceLT, Nat.reduceMul, Nat.reduceEqDiff, Int.reduceEq, Int.reduceBEq, Int.reduceBNe, Int.reduceLT, Int.reduceLE, Int.reduceGT, Int.reduceGE, Int.reduceNeg, Int.reduceAdd, Int.reduceSub, reduceCtorEq, List.reduceReplicate, ← List.map_take, ← List.map_drop]
    refine Ends.plain rfl rfl ?_
    have : (ws.length == (l.drop (n + 1)).length) = false := beq_eq_false_iff_ne.2 hlw
    simp only [resV, brkB, Int.toNat_natCast, hx, this, Bool.false_and, Bool.and_false]
    simp
  have hlw : ws.length = (l.drop (n + 1)).length := Decidable.not_not.1 hlw
  have hne : (((ws.length : Nat) : Int) != ((l.drop (n + 1)).length : Int)) = false := by rw [hlw]; exact bne_self_eq_false _
  simp -dsimp -implicitDefEqProofs only [hx, Sag.c, wk, w0, w1, hne, qq, Nat.reduceBEq, reduceIte, Nat.reduceAdd, Nat.reduceSub, Nat.reduceLeDiff, Nat.reduceLT, Nat.reduceMul, Nat.reduceEqDiff, Int.reduceEq, Int.reduceBEq, Int.reduceBNe, Int.reduceLT, Int.reduceLE, Int.reduceGT, Int.reduceGE, Int.reduceNeg, Int.reduceAdd, Int.reduceSub, reduceCtorEq, List.reduceReplicate, ← List.map_take, ← List.map_drop]
  refine callI_pure (h1 b x.b.lo x.b.hi) rfl rfl ?_
  cases hbb : inR b x.b.lo x.b.hi <;> simp -dsimp -implicitDefEqProofs only [qq, Nat.reduceBEq, reduceIte, Nat.reduceAdd, Nat.reduceSub, Nat.reduceLeDiff, Nat.reduceLT, Nat.reduceMul, Nat.reduceEqDiff, Int.reduceEq, Int.reduceBEq, Int.reduceBNe, Int.reduceLT, Int.reduceLE, Int.reduceGT, Int.reduceGE, Int.reduceNeg, Int.reduceAdd, Int.reduceSub, reduceCtorEq, List.reduceReplicate, ← List.map_take, ← List.map_drop]
  · exact Ends.plain rfl rfl (by simp [resV, brkB, hx, hbb])
  refine loopI_st (fun k : Nat => ws.length - k) (fun k E H => k ≤ ws.length ∧ 2 ≤ H.length ∧ wB ws (l.drop (n + 1)) k = true ∧ 0 ≤ (ws.take k).sum ∧ (ws.take k).sum ≤ 1000000000 * k ∧ E = [(3, .rpt 1 3 0 0), (5, .fsl (l.map Sag.c)), (6, .i .i64 (ws.take k).sum), (7, .i .i64 k)] ∧ H[1]? = some (.row 3 [[.i .i64 n, .i .i64 b, .fsl (ws.map intC)]])) 0 ⟨by omega, by simp, by simp [wB], by simp, by simp, by simp, rfl⟩ ?_
  rintro k _ H ⟨hk, hH, hw, hs0, hs1, rfl, g1⟩
  simp -dsimp -implicitDefEqProofs only [g1, qq, Nat.reduceBEq, reduceIte, Nat.reduceAdd, Nat.reduceSub, Nat.reduceLeDiff, Nat.reduceLT, Nat.reduceMul, Nat.reduceEqDiff, Int.reduceEq, Int.reduceBEq, Int.reduceBNe, Int.reduceLT, Int.reduceLE, Int.reduceGT, Int.reduceGE, Int.reduceNeg, Int.reduceAdd, Int.reduceSub, reduceCtorEq, List.reduceReplicate, ← List.map_take, ← List.map_drop]
  refine brG_of (fun hlt => ?_) (fun hge => ?_) <;> simp -dsimp -implicitDefEqProofs only [qq, Nat.reduceBEq, reduceIte, Nat.reduceAdd, Nat.reduceSub, Nat.reduceLeDiff, Nat.reduceLT, Nat.reduceMul, Nat.reduceEqDiff, Int.reduceEq, Int.reduceBEq, Int.reduceBNe, Int.reduceLT, Int.reduceLE, Int.reduceGT, Int.reduceGE, Int.reduceNeg, Int.reduceAdd, Int.reduceSub, reduceCtorEq, List.reduceReplicate, ← List.map_take, ← List.map_drop]
  · have hkl : k < ws.length := by simpa using hlt
    obtain ⟨m, hm1, _, htk, _⟩ := next_of hkl
    obtain ⟨s, hss, hsm, _, _⟩ := next_of (show k < (l.drop (n + 1)).length by omega)
    have hwk : IntKind.i64.wrap ((k : Int) + 1) = ((k + 1 : Nat) : Int) := wrap_succ (by omega)
    have hat : wAt ws (l.drop (n + 1)) k = inR m s.w.lo s.w.hi := by simp only [wAt, hm1, hss]
    have wnk : IntKind.i64.wrap (((n + 1 : Nat) : Int) + (k : Int)) = ((n + 1 + k : Nat) : Int) := by rw [wrap_id (by omega) (by omega)]; omega
    have hss2 : l[n + (1 + k)]? = some s := by rw [← hss, List.getElem?_drop]; congr 1; omega
    have g2 : ∀ m, (H ++ m)[1]? = some (.row 3 [[.i .i64 n, .i .i64 b, .fsl (ws.map intC)]]) := fun m => get_app g1 m
    simp -dsimp -implicitDefEqProofs only [g1, g2, wk, wnk, hss2, Sag.c, hm1, intC, qq, Nat.reduceBEq, reduceIte, Nat.reduceAdd, Nat.reduceSub, Nat.reduceLeDiff, Nat.reduceLT, Nat.reduceMul, Nat.reduceEqDiff, Int.reduceEq, Int.reduceBEq, Int.reduceBNe, Int.reduceLT, Int.reduceLE, Int.reduceGT, Int.reduceGE, Int.reduceNeg, Int.reduceAdd, Int.reduceSub, reduceCtorEq, List.reduceReplicate, ← List.map_take, ← List.map_drop]
    refine callI_pure (h1 m s.w.lo s.w.hi) rfl rfl ?_
    cases hr : inR m s.w.lo s.w.hi
    · simp -dsimp -implicitDefEqProofs only [qq, Nat.reduceBEq, reduceIte, Nat.reduceAdd, Nat.reduceSub, Nat.reduceLeDiff, Nat.reduceLT, Nat.reduceMul, Nat.reduceEqDiff, Int.reduceEq, Int.reduceBEq, Int.reduceBNe, Int.reduceLT, Int.reduceLE, Int.reduceGT, Int.reduceGE, Int.reduceNeg, Int.reduceAdd, Int.reduceSub, reduceCtorEq, List.reduceReplicate, ← List.map_take, ← List.map_drop]
      refine Ends.plain rfl rfl ?_
      simp only [resV, brkB, Int.toNat_natCast, hx, wB_false hkl (hat.trans hr), Bool.false_and, Bool.and_false]
      simp
    · have hsag : sagB s = true := by simp [listB] at hv; exact hv.1.2 s (List.mem_of_mem_drop hsm)
      have hm2 : 0 ≤ m ∧ m ≤ 1000000000 := by simp [sagB, rgB, inR] at hsag hr; omega
      have hsum : (ws.take (k + 1)).sum = (ws.take k).sum + m := by rw [htk]; simp
      have hwm : IntKind.i64.wrap ((ws.take k).sum + m) = (ws.take k).sum + m := wrap_id (by omega) (by omega)
      simp -dsimp -implicitDefEqProofs only [g2, hm1, intC, hwm, hwk, qq, Nat.reduceBEq, reduceIte, Nat.reduceAdd, Nat.reduceSub, Nat.reduceLeDiff, Nat.reduceLT, Nat.reduceMul, Nat.reduceEqDiff, Int.reduceEq, Int.reduceBEq, Int.reduceBNe, Int.reduceLT, Int.reduceLE, Int.reduceGT, Int.reduceGE, Int.reduceNeg, Int.reduceAdd, Int.reduceSub, reduceCtorEq, List.reduceReplicate, ← List.map_take, ← List.map_drop]
      exact ⟨k + 1, by omega, by omega, by omega, by rw [wB_succ, hw, hat, hr]; rfl, by omega, by rw [hsum]; omega, by rw [hsum]⟩
  · obtain rfl : k = ws.length := by simp at hge; omega
    rw [List.take_length]
    simp -dsimp -implicitDefEqProofs only [g1, qq, Nat.reduceBEq, reduceIte, Nat.reduceAdd, Nat.reduceSub, Nat.reduceLeDiff, Nat.reduceLT, Nat.reduceMul, Nat.reduceEqDiff, Int.reduceEq, Int.reduceBEq, Int.reduceBNe, Int.reduceLT, Int.reduceLE, Int.reduceGT, Int.reduceGE, Int.reduceNeg, Int.reduceAdd, Int.reduceSub, reduceCtorEq, List.reduceReplicate, ← List.map_take, ← List.map_drop]
    have hbrk : brkB l n b ws = decide (b < ws.sum) := by simp only [brkB, Int.toNat_natCast, hx, hbb, hw, hc]; simp [hlw]
    rw [hbrk]
    refine brG_of (fun he => ?_) (fun he => ?_) <;> simp -dsimp -implicitDefEqProofs only [qq, Nat.reduceBEq, reduceIte, Nat.reduceAdd, Nat.reduceSub, Nat.reduceLeDiff, Nat.reduceLT, Nat.reduceMul, Nat.reduceEqDiff, Int.reduceEq, Int.reduceBEq, Int.reduceBNe, Int.reduceLT, Int.reduceLE, Int.reduceGT, Int.reduceGE, Int.reduceNeg, Int.reduceAdd, Int.reduceSub, reduceCtorEq, List.reduceReplicate, ← List.map_take, ← List.map_drop]
    · exact Ends.plain rfl rfl (by simp only [resV, decide_eq_true_eq] at he ⊢; simp; omega)
    · exact Ends.plain rfl rfl (by simp only [resV, decide_eq_false_iff_not] at he ⊢; simp; omega)

set_option maxHeartbeats 2000000 in
theorem ok_rBreaks (hm : P.follows .mixedOrders = true) {f f0 f1 : Nat} (low : Low_potbankref03_Breaks P f f0 f1) (h0 : C_Check P f0) (h1 : C_ranswer P f1) : C_Breaks P f := by
  intro w l
  refine snd_ic hm low (by simp) ?_
  unfold ic_potbankref03_Breaks
  simp -dsimp -implicitDefEqProofs only [qq, Nat.reduceBEq, reduceIte, Nat.reduceAdd, Nat.reduceSub, Nat.reduceLeDiff, Nat.reduceLT, Nat.reduceMul, Nat.reduceEqDiff, Int.reduceEq, Int.reduceBEq, Int.reduceBNe, Int.reduceLT, Int.reduceLE, Int.reduceGT, Int.reduceGE, Int.reduceNeg, Int.reduceAdd, Int.reduceSub, reduceCtorEq, List.reduceReplicate, ← List.map_take, ← List.map_drop]
  refine callI_pure (h0 w l) rfl rfl ?_
  cases hb : bungB w l <;> simp -dsimp -implicitDefEqProofs only [qq, Nat.reduceBEq, reduceIte, Nat.reduceAdd, Nat.reduceSub, Nat.reduceLeDiff, Nat.reduceLT, Nat.reduceMul, Nat.reduceEqDiff, Int.reduceEq, Int.reduceBEq, Int.reduceBNe, Int.reduceLT, Int.reduceLE, Int.reduceGT, Int.reduceGE, Int.reduceNeg, Int.reduceAdd, Int.reduceSub, reduceCtorEq, List.reduceReplicate, ← List.map_take, ← List.map_drop]
  · exact Ends.ret rfl (frz2 frz_brk0 (.keep _ rfl))
  have hv := bung_list hb
  have hlen := list_len hv
  have hcl := coursesS_length l
  refine loopI_st (fun k : Nat => l.length - k) (fun k E H => k ≤ l.length ∧ ((coursesS l).take k).findIdx? (· != 1) = none ∧ E = [(1, .rpt 0 3 0 0), (2, .rpt 1 3 0 0), (4, .i .i64 k)] ∧ H = [.row 3 [bungC w l], .row 3 [[.i .i64 0, .i .i64 0, .nsl]]]) 0 ⟨by omega, by simp, rfl, rfl⟩ ?_
  rintro k _ _ ⟨hk, hn, rfl, rfl⟩
  rcases Nat.lt_or_ge k l.length with hkl | hkl
  · have hc : decide ((k : Int) < (l.length : Int)) = true := by simpa using hkl
    obtain ⟨s, hs, hsm, _, _⟩ := next_of hkl
    have hcg := coursesS_at hs
    have hwk : IntKind.i64.wrap ((k : Int) + 1) = ((k + 1 : Nat) : Int) := wrap_succ (by omega)
    have hdr : (coursesS l).drop k = answerS (wOf (l.drop (k + 1))) s.b :: (coursesS l).drop (k + 1) := by
      obtain ⟨y, hy, _, _, hd⟩ := next_of (show k < (coursesS l).length by omega)
      rw [hcg] at hy; cases hy; exact hd
    have htk : (coursesS l).take (k + 1) = (coursesS l).take k ++ [answerS (wOf (l.drop (k + 1))) s.b] := by rw [List.take_add_one, hcg]; rfl
    simp -dsimp -implicitDefEqProofs only [hc, qq, Nat.reduceBEq, reduceIte, Nat.reduceAdd, Nat.reduceSub, Nat.reduceLeDiff, Nat.reduceLT, Nat.reduceMul, Nat.reduceEqDiff, Int.reduceEq, Int.reduceBEq, Int.reduceBNe, Int.reduceLT, Int.reduceLE, Int.reduceGT, Int.reduceGE, Int.reduceNeg, Int.reduceAdd, Int.reduceSub, reduceCtorEq, List.reduceReplicate, ← List.map_take, ← List.map_drop]
    refine callI_pure (h1 l k s hv hs) rfl rfl ?_
    cases h0 : (answerS (wOf (l.drop (k + 1))) s.b == 1)
    · simp -dsimp -implicitDefEqProofs only [h0, hs, Sag.c, qq, Nat.reduceBEq, reduceIte, Nat.reduceAdd, Nat.reduceSub, Nat.reduceLeDiff, Nat.reduceLT, Nat.reduceMul, Nat.reduceEqDiff, Int.reduceEq, Int.reduceBEq, Int.reduceBNe, Int.reduceLT, Int.reduceLE, Int.reduceGT, Int.reduceGE, Int.reduceNeg, Int.reduceAdd, Int.reduceSub, reduceCtorEq, List.reduceReplicate, ← List.map_take, ← List.map_drop]
      have hba : brkAt l = some k := by
        unfold brkAt
        rw [← List.take_append_drop k (coursesS l), List.findIdx?_append, hn, hdr, List.findIdx?_cons]
        have : (answerS (wOf (l.drop (k + 1))) s.b != 1) = true := by rw [bne, h0]; rfl
        simp [this, hcl]; omega
      refine loopI_st (fun j : Nat => l.length - j) (fun j E H => k < j ∧ j ≤ l.length ∧ 3 ≤ H.length ∧ H[0]? = some (.row 3 [bungC w l]) ∧ H[1]? = some (.row 3 [[.i .i64 0, .i .i64 0, .nsl]]) ∧ ∃ v, E = [(1, .rpt 0 3 0 0), (2, .rpt 1 3 0 0), (5, .rpt 2 3 0 0), (6, .i .i64 j)] ∧ H[2]? = some (.row 3 [[.i .i64 k, .i .i64 s.b.lo, v]]) ∧ OwnF 3 H 1 (((((l.take j).drop (k + 1))).map fun s => s.w.hi).map intC) v) (k + 1) ⟨by omega, by omega, by simp, rfl, rfl, .nsl, by rw [hwk], rfl, by rw [List.drop_eq_nil_of_le (by simp; omega)]; exact .nil _ _ _⟩ ?_
      rintro j _ H ⟨hkj, hj, hH, g0, g1, v, rfl, g2, ho⟩
      rcases Nat.lt_or_ge j l.length with hjl | hjl
      · have hc : decide ((j : Int) < (l.length : Int)) = true := by simpa using hjl
        obtain ⟨x, hx2, hxm, htk2, _⟩ := next_of hjl
        have hwj : IntKind.i64.wrap ((j : Int) + 1) = ((j + 1 : Nat) : Int) := wrap_succ (by omega)
        have htl : ((l.take j).drop (k + 1)).length ≤ 30 := by simp; omega
        have hdt : (l.take (j + 1)).drop (k + 1) = (l.take j).drop (k + 1) ++ [x] := by rw [htk2, List.drop_append_of_le_length (by simp; omega)]
        simp -dsimp -implicitDefEqProofs only [hc, hx2, Sag.c, g0, g2, bungC, Rg.c, qq, Nat.reduceBEq, reduceIte, Nat.reduceAdd, Nat.reduceSub, Nat.reduceLeDiff, Nat.reduceLT, Nat.reduceMul, Nat.reduceEqDiff, Int.reduceEq, Int.reduceBEq, Int.reduceBNe, Int.reduceLT, Int.reduceLE, Int.reduceGT, Int.reduceGE, Int.reduceNeg, Int.reduceAdd, Int.reduceSub, reduceCtorEq, List.reduceReplicate, ← List.map_take, ← List.map_drop]
        refine app_ownF (ys := [[.i .i64 x.w.hi]]) ho (by omega) (by decide) (by decide) (by simp [Sh.shown, gapp]) (by simp [V.one]) (by simp only [List.length_map, List.length_cons, List.length_nil]; omega) fun v' H' ho' hH' hk' => ?_
        have e0 := hk' 0 _ (.inl (by omega)) (get_app g0 _)
        have e1 := hk' 1 _ (.inl (by omega)) (get_app g1 _)
        have e2 := hk' 2 _ (.inl (by omega)) (get_app g2 _)
        simp at hH'
        rcases ho'.own with ⟨h, _⟩ | ⟨p, c, e, rfl, _⟩
        · simp at h
        have ho2 := fun b => ho'.set (p := 2) (by omega) b
        generalize ((((l.take j).drop (k + 1)).map fun s => s.w.hi).map intC ++ [[V.i .i64 x.w.hi]]).length = len at ho2
        simp -dsimp -implicitDefEqProofs only [e2, hwj, qq, Nat.reduceBEq, reduceIte, Nat.reduceAdd, Nat.reduceSub, Nat.reduceLeDiff, Nat.reduceLT, Nat.reduceMul, Nat.reduceEqDiff, Int.reduceEq, Int.reduceBEq, Int.reduceBNe, Int.reduceLT, Int.reduceLE, Int.reduceGT, Int.reduceGE, Int.reduceNeg, Int.reduceAdd, Int.reduceSub, reduceCtorEq, List.reduceReplicate, ← List.map_take, ← List.map_drop]
        refine ⟨j + 1, by omega, by omega, by omega, by rw [List.length_set]; omega, get_setne e0 (by omega), get_setne e1 (by omega), rfl, _, get_setsame e2, ?_⟩
        rw [hdt]
        simpa [intC] using ho2 _
      · have hc : decide ((j : Int) < (l.length : Int)) = false := by simp; omega
        obtain rfl : j = l.length := by omega
        rw [List.take_length] at ho
        simp -dsimp -implicitDefEqProofs only [hc, g0, g2, g1, bungC, Rg.c, qq, Nat.reduceBEq, reduceIte, Nat.reduceAdd, Nat.reduceSub, Nat.reduceLeDiff, Nat.reduceLT, Nat.reduceMul, Nat.reduceEqDiff, Int.reduceEq, Int.reduceBEq, Int.reduceBNe, Int.reduceLT, Int.reduceLE, Int.reduceGT, Int.reduceGE, Int.reduceNeg, Int.reduceAdd, Int.reduceSub, reduceCtorEq, List.reduceReplicate, ← List.map_take, ← List.map_drop]
        have hfr := fun b => (ho.set (p := 1) (by omega) b).own.frz (by intro row hr; obtain ⟨n, _, rfl⟩ := List.mem_map.1 hr; rfl)
        have hz : ∀ B, Frz 0 (H.set 1 B) (.agg [.i .i64 k, .i .i64 s.b.lo, v]) (.agg (brkC k s.b.lo ((l.drop (k + 1)).map fun s => s.w.hi))) := fun B => .agg _ _ rfl fun j u u' a1 a2 => by
          match j with
          | 0 => simp [brkC] at a1 a2; subst a1 a2; exact .keep _ rfl
          | 1 => simp [brkC] at a1 a2; subst a1 a2; exact .keep _ rfl
          | 2 =>
            have := hfr B
            simp only [brkC, List.getElem?_cons_succ, List.getElem?_cons_zero, Option.some.injEq] at a1 a2
            subst a1 a2; exact this
          | j + 3 => simp at a1
        refine ⟨by rcases ho.own with ⟨_, rfl⟩ | ⟨p, c, e, rfl, _⟩ <;> rfl, ?_⟩
        refine Ends.ret (vs := [.agg [.i .i64 k, .i .i64 s.b.lo, v], .i .i64 0]) ?_ ?_
        · have hq : (H.set 1 (Blk.row 3 [[.i .i64 k, .i .i64 s.b.lo, v]]))[1]? = some (.row 3 [[.i .i64 k, .i .i64 s.b.lo, v]]) := get_setsame g1
          simp [resIs, resI1, Sh.get, hq, ldRow]
        · simp only [brkV, hba, hs]
          exact frz2 (hz _) (.keep _ rfl)
    · simp -dsimp -implicitDefEqProofs only [h0, hwk, qq, Nat.reduceBEq, reduceIte, Nat.reduceAdd, Nat.reduceSub, Nat.reduceLeDiff, Nat.reduceLT, Nat.reduceMul, Nat.reduceEqDiff, Int.reduceEq, Int.reduceBEq, Int.reduceBNe, Int.reduceLT, Int.reduceLE, Int.reduceGT, Int.reduceGE, Int.reduceNeg, Int.reduceAdd, Int.reduceSub, reduceCtorEq, List.reduceReplicate, ← List.map_take, ← List.map_drop]
      refine ⟨k + 1, by omega, by omega, ?_, rfl⟩
      rw [htk, List.findIdx?_append, hn]
      simpa using h0
  · have hc : decide ((k : Int) < (l.length : Int)) = false := by simp; omega
    obtain rfl : k = l.length := by omega
    rw [List.take_of_length_le (by omega)] at hn
    simp -dsimp -implicitDefEqProofs only [hc, qq, Nat.reduceBEq, reduceIte, Nat.reduceAdd, Nat.reduceSub, Nat.reduceLeDiff, Nat.reduceLT, Nat.reduceMul, Nat.reduceEqDiff, Int.reduceEq, Int.reduceBEq, Int.reduceBNe, Int.reduceLT, Int.reduceLE, Int.reduceGT, Int.reduceGE, Int.reduceNeg, Int.reduceAdd, Int.reduceSub, reduceCtorEq, List.reduceReplicate, ← List.map_take, ← List.map_drop]
    refine Ends.ret rfl ?_
    have hb0 : brkAt l = none := hn
    simp only [brkV, hb0]
    exact frz2 frz_brk0 (.keep _ rfl)
end Go.Sh.C3
end
section
namespace Go.Sh.C3
open Go.Sh
set_option maxRecDepth 10000
set_option linter.unusedVariables false
set_option linter.unusedSimpArgs false
variable {P : Program}
def ic_bung_Top_1 : IC := .seq (.reg [⟨some 2, none, .box (.t 0)⟩, ⟨some 3, none, .mov (.c (.b false))⟩] [1, 2]) (.seq (.reg [⟨some 4, none, .fad 0 (.t 2)⟩, ⟨some 5, none, .ld none (.t 4)⟩, ⟨some 6, none, .fad 0 (.t 1)⟩, ⟨some 7, none, .ld none (.t 6)⟩, ⟨some 8, none, .bin .eql (.t 5) (.t 7)⟩, ⟨some 3, none, .mov (.t 8)⟩] [3]) (.ret))
abbrev Low_bung_Top_1 (P : Program) (f : Nat) : Prop := lowF P f = some (9, [.tmp 3], (ic_bung_Top_1).erase)
def ic_slices_ContainsFunc_Sapi_Saggar_api_Saggar (f0 : Nat) : IC := .seq (.reg [⟨some 4, none, .mov (.c (.b false))⟩] [0, 1]) (.seq (.reg [⟨some 5, none, .mov (.t 0)⟩, ⟨some 6, none, .mov (.t 1)⟩, ⟨some 7, none, .calv (.c (.fn (.func f0) [] [])) [.t 5, .t 6]⟩, ⟨some 8, none, .bin .geq (.t 7) (.c (.i .i64 (0)))⟩, ⟨some 4, none, .mov (.t 8)⟩] [4]) (.ret))
abbrev Low_slices_ContainsFunc_Sapi_Saggar_api_Saggar (P : Program) (f f0 : Nat) : Prop := lowF P f = some (9, [.tmp 4], (ic_slices_ContainsFunc_Sapi_Saggar_api_Saggar f0).erase)
def ic_slices_IndexFunc_Sapi_Saggar_api_Saggar : IC := .seq (.reg [⟨some 4, none, .mov (.c (.i .i64 (0)))⟩] [0, 1]) (.seq (.seq (.reg [⟨some 6, none, .mov (.t 0)⟩, ⟨some 7, none, .len false (.t 6)⟩, ⟨some 8, none, .mov (.c (.i .i64 (0)))⟩] [0, 1, 7, 8]) (.block 0 (.loop (.seq (.reg [⟨some 9, none, .bin .lss (.t 8) (.t 7)⟩] [0, 1, 7, 8, 9]) (.seq (.cond (.t 9) (.skip) (.exit 0)) (.seq (.block 1 (.seq (.reg [⟨some 10, none, .mov (.t 8)⟩, ⟨some 5, none, .mov (.t 10)⟩] [0, 1, 5, 7, 8]) (.seq (.reg [⟨some 11, none, .mov (.t 1)⟩, ⟨some 12, none, .mov (.t 0)⟩, ⟨some 13, none, .mov (.t 5)⟩, ⟨some 14, none, .ixs 8 (.t 12) (.t 13)⟩, ⟨some 15, none, .ld (some 8) (.t 14)⟩, ⟨some 16, none, .calv (.t 11) [.t 15]⟩] [0, 1, 5, 7, 8, 16]) (.cond (.t 16) (.seq (.reg [⟨some 17, none, .mov (.t 5)⟩, ⟨some 4, none, .mov (.t 17)⟩] [4]) (.ret)) (.skip))))) (.reg [⟨some 18, none, .bin .add (.t 8) (.c (.i .i64 (1)))⟩, ⟨some 8, none, .mov (.t 18)⟩] [0, 1, 7, 8]))))))) (.seq (.reg [⟨some 4, none, .mov (.c (.i .i64 (-1)))⟩] [4]) (.ret)))
abbrev Low_slices_IndexFunc_Sapi_Saggar_api_Saggar (P : Program) (f : Nat) : Prop := lowF P f = some (19, [.tmp 4], (ic_slices_IndexFunc_Sapi_Saggar_api_Saggar).erase)
def ic_slices_Clone_Sapi_Saggar_api_Saggar : IC := .seq (.reg [⟨some 2, none, .mov (.c (.nsl))⟩] [0]) (.seq (.seq (.reg [⟨some 3, none, .mov (.t 0)⟩, ⟨some 4, none, .eqb 1 false (.t 3) (.c (.nsl))⟩] [0, 4]) (.cond (.t 4) (.seq (.reg [⟨some 2, none, .mov (.c (.nsl))⟩] [2]) (.ret)) (.skip))) (.seq (.reg [⟨some 5, none, .bsl false 8 0 [.i .i64 (0), .i .i64 (0), .i .i64 (0), .i .i64 (0), .i .i64 (0), .i .i64 (0), .i .i64 (0), .i .i64 (0)] []⟩, ⟨some 6, none, .mov (.t 0)⟩, ⟨some 7, none, .app 8 64 (.t 5) (.t 6)⟩, ⟨some 2, none, .mov (.t 7)⟩] [2]) (.ret)))
abbrev Low_slices_Clone_Sapi_Saggar_api_Saggar (P : Program) (f : Nat) : Prop := lowF P f = some (8, [.tmp 2], (ic_slices_Clone_Sapi_Saggar_api_Saggar).erase)

theorem bel_sags (l : List Sag) : ∀ row ∈ l.map Sag.c, belL 0 row = true := by intro row hr; obtain ⟨n, _, rfl⟩ := List.mem_map.1 hr; rfl
/-- A clone, told. -/
def C_CloneG (P : Program) (f : Nat) : Prop := ∀ (H : List Blk) (x : Sag) (l : List Sag), l.length < 1000000 → Snd P f [.fsl ((x :: l).map Sag.c)] H (.rsl (H.length + 1) 8 0 (l.length + 1) (l.length + 1) false) (H ++ [.row 8 [], .row 8 ((x :: l).map Sag.c)])
theorem ends_allC {H H2 : List Blk} {r : V} {E : Env} {ress : List IRes} {vs : List V} (h : resIs E H2 ress = some vs) (hr : resV vs = r) : Ends ress H r H2 .ret E H2 := ⟨.inr rfl, vs, h, .all [] hr.symm rfl⟩
theorem ok_CloneG (hm : P.follows .mixedOrders = true) {f : Nat} (low : Low_slices_Clone_Sapi_Saggar_api_Saggar P f) : C_CloneG P f := by
  intro H x l hl
  refine snd_ic hm low (by simp) ?_
  unfold ic_slices_Clone_Sapi_Saggar_api_Saggar
  have hrow : ∀ r ∈ (x :: l).map Sag.c, r.length = 8 ∧ r.all V.one = true := by intro r hr; obtain ⟨x, _, rfl⟩ := List.mem_map.1 hr; exact ⟨rfl, rfl⟩
  simp -dsimp -implicitDefEqProofs only [qq, Nat.reduceBEq, reduceIte, Nat.reduceAdd, Nat.reduceSub, Nat.reduceLeDiff, Nat.reduceLT, Nat.reduceMul, Nat.reduceEqDiff, Int.reduceEq, Int.reduceBEq, Int.reduceBNe, Int.reduceLT, Int.reduceLE, Int.reduceGT, Int.reduceGE, Int.reduceNeg, Int.reduceAdd, Int.reduceSub, reduceCtorEq, List.reduceReplicate, ← List.map_take, ← List.map_drop]
  refine ⟨by decide, by decide, (x :: l).map Sag.c, rfl, hrow, rfl, by simp; omega, [], get_new _ _, by simp, .inr (.inl ⟨rfl, by simp, ?_⟩)⟩
  simp -dsimp -implicitDefEqProofs only [qq, Nat.reduceBEq, reduceIte, Nat.reduceAdd, Nat.reduceSub, Nat.reduceLeDiff, Nat.reduceLT, Nat.reduceMul, Nat.reduceEqDiff, Int.reduceEq, Int.reduceBEq, Int.reduceBNe, Int.reduceLT, Int.reduceLE, Int.reduceGT, Int.reduceGE, Int.reduceNeg, Int.reduceAdd, Int.reduceSub, reduceCtorEq, List.reduceReplicate, ← List.map_take, ← List.map_drop]
  exact ends_allC rfl rfl
def C_Tp1 (P : Program) (f : Nat) : Prop := ∀ (x s : Sag), Snd P f [.agg x.c, .fpt s.c 0] [] (.b (x.id == s.id)) []
theorem ok_Tp1 (hm : P.follows .mixedOrders = true) {f : Nat} (low : Low_bung_Top_1 P f) : C_Tp1 P f := by
  intro x s
  refine snd_ic hm low (by simp) ?_
  unfold ic_bung_Top_1
  simp -dsimp -implicitDefEqProofs only [qq, Nat.reduceBEq, reduceIte, Nat.reduceAdd, Nat.reduceSub, Nat.reduceLeDiff, Nat.reduceLT, Nat.reduceMul, Nat.reduceEqDiff, Int.reduceEq, Int.reduceBEq, Int.reduceBNe, Int.reduceLT, Int.reduceLE, Int.reduceGT, Int.reduceGE, Int.reduceNeg, Int.reduceAdd, Int.reduceSub, reduceCtorEq, List.reduceReplicate, ← List.map_take, ← List.map_drop]
  exact Ends.plain rfl rfl rfl

def C_IdxF (P : Program) (f : Nat) : Prop := ∀ (l : List Sag) (g : V) (p : Sag → Bool), l.length ≤ 1000000 → g.bel 0 = true → (∀ x ∈ l, SndC P g [.agg x.c] [] (.b (p x)) []) → Snd P f [.fsl (l.map Sag.c), g] [] (.i .i64 (match l.findIdx? p with | some k => (k : Int) | none => -1)) []
theorem ok_IdxF (hm : P.follows .mixedOrders = true) {f : Nat} (low : Low_slices_IndexFunc_Sapi_Saggar_api_Saggar P f) : C_IdxF P f := by
  intro l g p hl hg hp
  refine snd_ic hm low (by simp) ?_
  unfold ic_slices_IndexFunc_Sapi_Saggar_api_Saggar
  simp -dsimp -implicitDefEqProofs only [qq, Nat.reduceBEq, reduceIte, Nat.reduceAdd, Nat.reduceSub, Nat.reduceLeDiff, Nat.reduceLT, Nat.reduceMul, Nat.reduceEqDiff, Int.reduceEq, Int.reduceBEq, Int.reduceBNe, Int.reduceLT, Int.reduceLE, Int.reduceGT, Int.reduceGE, Int.reduceNeg, Int.reduceAdd, Int.reduceSub, reduceCtorEq, List.reduceReplicate, ← List.map_take, ← List.map_drop]
  refine loopI_st (fun k : Nat => l.length - k) (fun k E H => k ≤ l.length ∧ E = [(0, .fsl (l.map Sag.c)), (1, g), (7, .i .i64 l.length), (8, .i .i64 k)] ∧ H = [] ∧ (l.take k).findIdx? p = none) 0 ⟨by omega, rfl, rfl, by simp⟩ ?_
  rintro k _ _ ⟨hk, rfl, rfl, hn⟩
  rcases Nat.lt_or_ge k l.length with hkl | hkl
  · have hc : decide ((k : Int) < (l.length : Int)) = true := by simpa using hkl
    obtain ⟨x, hx, hxm, htk, hdr⟩ := next_of hkl
    have hwk : IntKind.i64.wrap ((k : Int) + 1) = ((k + 1 : Nat) : Int) := wrap_succ (by omega)
    simp -dsimp -implicitDefEqProofs only [hc, hx, Sag.c, qq, Nat.reduceBEq, reduceIte, Nat.reduceAdd, Nat.reduceSub, Nat.reduceLeDiff, Nat.reduceLT, Nat.reduceMul, Nat.reduceEqDiff, Int.reduceEq, Int.reduceBEq, Int.reduceBNe, Int.reduceLT, Int.reduceLE, Int.reduceGT, Int.reduceGE, Int.reduceNeg, Int.reduceAdd, Int.reduceSub, reduceCtorEq, List.reduceReplicate, ← List.map_take, ← List.map_drop]
    refine callI_pure (hp x hxm) hg rfl ?_
    cases hpx : p x
    · simp -dsimp -implicitDefEqProofs only [hwk, qq, Nat.reduceBEq, reduceIte, Nat.reduceAdd, Nat.reduceSub, Nat.reduceLeDiff, Nat.reduceLT, Nat.reduceMul, Nat.reduceEqDiff, Int.reduceEq, Int.reduceBEq, Int.reduceBNe, Int.reduceLT, Int.reduceLE, Int.reduceGT, Int.reduceGE, Int.reduceNeg, Int.reduceAdd, Int.reduceSub, reduceCtorEq, List.reduceReplicate, ← List.map_take, ← List.map_drop]
      refine ⟨k + 1, by omega, by omega, rfl, ?_⟩
      rw [htk, List.findIdx?_append, hn]; simp [hpx]
    · simp -dsimp -implicitDefEqProofs only [qq, Nat.reduceBEq, reduceIte, Nat.reduceAdd, Nat.reduceSub, Nat.reduceLeDiff, Nat.reduceLT, Nat.reduceMul, Nat.reduceEqDiff, Int.reduceEq, Int.reduceBEq, Int.reduceBNe, Int.reduceLT, Int.reduceLE, Int.reduceGT, Int.reduceGE, Int.reduceNeg, Int.reduceAdd, Int.reduceSub, reduceCtorEq, List.reduceReplicate, ← List.map_take, ← List.map_drop]
      refine Ends.plain rfl rfl ?_
      have : l.findIdx? p = some k := by
        rw [← List.take_append_drop k l, List.findIdx?_append, hn, hdr, List.findIdx?_cons]
        simp [hpx]; omega
      simp only [resV, this]
  · have hc : decide ((k : Int) < (l.length : Int)) = false := by simp; omega
    rw [List.take_of_length_le hkl] at hn
    simp -dsimp -implicitDefEqProofs only [hc, qq, Nat.reduceBEq, reduceIte, Nat.reduceAdd, Nat.reduceSub, Nat.reduceLeDiff, Nat.reduceLT, Nat.reduceMul, Nat.reduceEqDiff, Int.reduceEq, Int.reduceBEq, Int.reduceBNe, Int.reduceLT, Int.reduceLE, Int.reduceGT, Int.reduceGE, Int.reduceNeg, Int.reduceAdd, Int.reduceSub, reduceCtorEq, List.reduceReplicate, ← List.map_take, ← List.map_drop]
    exact Ends.plain rfl rfl (by simp only [resV, hn])
def C_ConF (P : Program) (f : Nat) : Prop := ∀ (l : List Sag) (g : V) (p : Sag → Bool), l.length ≤ 1000000 → g.bel 0 = true → (∀ x ∈ l, SndC P g [.agg x.c] [] (.b (p x)) []) → Snd P f [.fsl (l.map Sag.c), g] [] (.b (l.any p)) []
theorem ok_ConF (hm : P.follows .mixedOrders = true) {f f0 : Nat} (low : Low_slices_ContainsFunc_Sapi_Saggar_api_Saggar P f f0) (h0 : C_IdxF P f0) : C_ConF P f := by
  intro l g p hl hg hp
  refine snd_ic hm low (by simp) ?_
  unfold ic_slices_ContainsFunc_Sapi_Saggar_api_Saggar
  simp -dsimp -implicitDefEqProofs only [qq, Nat.reduceBEq, reduceIte, Nat.reduceAdd, Nat.reduceSub, Nat.reduceLeDiff, Nat.reduceLT, Nat.reduceMul, Nat.reduceEqDiff, Int.reduceEq, Int.reduceBEq, Int.reduceBNe, Int.reduceLT, Int.reduceLE, Int.reduceGT, Int.reduceGE, Int.reduceNeg, Int.reduceAdd, Int.reduceSub, reduceCtorEq, List.reduceReplicate, ← List.map_take, ← List.map_drop]
  refine callI_pure (h0 l g p hl hg hp) rfl (by simp [belL, V.bel, hg]) ?_
  simp -dsimp -implicitDefEqProofs only [qq, Nat.reduceBEq, reduceIte, Nat.reduceAdd, Nat.reduceSub, Nat.reduceLeDiff, Nat.reduceLT, Nat.reduceMul, Nat.reduceEqDiff, Int.reduceEq, Int.reduceBEq, Int.reduceBNe, Int.reduceLT, Int.reduceLE, Int.reduceGT, Int.reduceGE, Int.reduceNeg, Int.reduceAdd, Int.reduceSub, reduceCtorEq, List.reduceReplicate, ← List.map_take, ← List.map_drop]
  refine Ends.plain rfl rfl ?_
  simp only [resV]
  cases h : l.findIdx? p with
  | none =>
    have : l.any p = false := by rw [List.findIdx?_eq_none_iff] at h; simpa using h
    rw [this]; rfl
  | some k =>
    have : l.any p = true := by
      rw [List.findIdx?_eq_some_iff_getElem] at h
      obtain ⟨h1, h2, _⟩ := h
      exact List.any_eq_true.2 ⟨_, List.getElem_mem h1, h2⟩
    rw [this]
    have : decide ((k : Int) ≥ 0) = true := by simp
    rw [this]

end Go.Sh.C3
end
section
namespace Go.Sh.C3
open Go.Sh
set_option maxRecDepth 10000
set_option linter.unusedVariables false
set_option linter.unusedSimpArgs false
variable {P : Program}
def ic_potbanklaw03_BungWithout (f0 f1 f2 f3 f4 f5 f6 f7 : Nat) : IC := .seq (.reg [⟨some 3, none, .box (.t 0)⟩, ⟨some 6, none, .mov (.c (.b false))⟩] [1, 2, 3]) (.seq (.reg [⟨some 31, none, .calv (.c (.fn (.func f0) [] [])) []⟩, ⟨some 7, none, .mov (.t 31)⟩] [1, 2, 3, 7]) (.seq (.reg [⟨some 32, none, .fad 0 (.t 3)⟩, ⟨some 33, none, .ld none (.t 32)⟩, ⟨some 34, none, .fad 1 (.t 3)⟩, ⟨some 35, none, .ld none (.t 34)⟩, ⟨some 36, none, .fad 2 (.t 3)⟩, ⟨some 37, none, .ld (some 2) (.t 36)⟩, ⟨some 38, none, .calv (.c (.fn (.func f1) [] [])) [.t 33, .t 35, .t 37]⟩, ⟨some 8, none, .alloc [.i .i64 (0), .i .i64 (0), .nsl]⟩, ⟨none, none, .st 3 (.t 8) (.t 38)⟩] [1, 2, 7, 8]) (.seq (.reg [⟨some 40, none, .ld (some 3) (.t 8)⟩, ⟨some 41, none, .calv (.c (.fn (.func f2) [] [])) [.t 40]⟩, ⟨some 39, none, .mov (.t 41)⟩, ⟨some 42, none, .ext (.t 39) 0⟩, ⟨some 43, none, .ext (.t 39) 1⟩, ⟨some 9, none, .mov (.t 42)⟩, ⟨some 10, none, .mov (.t 43)⟩] [1, 2, 7, 8, 9, 10]) (.seq (.reg [⟨some 45, none, .ld (some 3) (.t 8)⟩, ⟨some 46, none, .calv (.c (.fn (.func f3) [] [])) [.t 45]⟩, ⟨some 44, none, .mov (.t 46)⟩, ⟨some 47, none, .ext (.t 44) 0⟩, ⟨some 48, none, .ext (.t 44) 1⟩, ⟨some 11, none, .alloc [.i .i64 (0), .i .i64 (0)]⟩, ⟨none, none, .st 2 (.t 11) (.t 47)⟩, ⟨some 12, none, .mov (.t 48)⟩] [1, 2, 7, 8, 9, 10, 11, 12]) (.seq (.reg [⟨some 50, none, .ld (some 3) (.t 8)⟩, ⟨some 51, none, .calv (.c (.fn (.func f4) [] [])) [.t 50]⟩, ⟨some 49, none, .mov (.t 51)⟩, ⟨some 52, none, .ext (.t 49) 0⟩, ⟨some 53, none, .ext (.t 49) 1⟩, ⟨some 13, none, .mov (.t 52)⟩, ⟨some 14, none, .mov (.t 53)⟩] [1, 2, 7, 8, 9, 10, 11, 12, 13, 14]) (.seq (.seq (.reg [⟨some 54, none, .mov (.t 7)⟩, ⟨some 55, none, .un .not (.t 54)⟩, ⟨some 56, none, .mov (.t 55)⟩, ⟨some 57, some (56, false), .mov (.t 10)⟩, ⟨some 58, some (56, false), .bin .neq (.t 57) (.c (.i .i64 (0)))⟩, ⟨some 59, none, .pick (.t 56) (.c (.b true)) (.t 58)⟩, ⟨some 60, none, .mov (.t 59)⟩, ⟨some 61, some (60, false), .mov (.t 12)⟩, ⟨some 62, some (60, false), .bin .neq (.t 61) (.c (.i .i64 (0)))⟩, ⟨some 63, none, .pick (.t 60) (.c (.b true)) (.t 62)⟩, ⟨some 64, none, .mov (.t 63)⟩, ⟨some 65, some (64, false), .mov (.t 14)⟩, ⟨some 66, some (64, false), .bin .neq (.t 65) (.c (.i .i64 (0)))⟩, ⟨some 67, none, .pick (.t 64) (.c (.b true)) (.t 66)⟩] [1, 2, 8, 9, 11, 13, 67]) (.cond (.t 67) (.seq (.reg [⟨some 6, none, .mov (.c (.b false))⟩] [6]) (.ret)) (.skip))) (.seq (.reg [⟨some 68, none, .mov (.t 1)⟩, ⟨some 69, none, .fad 2 (.t 8)⟩, ⟨some 70, none, .ld none (.t 69)⟩, ⟨some 71, none, .len false (.t 70)⟩, ⟨some 72, none, .calv (.c (.fn (.func f5) [] [])) [.t 68, .t 71]⟩, ⟨some 15, none, .mov (.t 72)⟩] [2, 8, 9, 11, 13, 15]) (.seq (.seq (.reg [⟨some 73, none, .fad 2 (.t 8)⟩, ⟨some 74, none, .ld none (.t 73)⟩, ⟨some 75, none, .len false (.t 74)⟩, ⟨some 76, none, .bin .gtr (.t 75) (.c (.i .i64 (1)))⟩] [2, 8, 9, 11, 13, 15, 76]) (.cond (.t 76) (.seq (.drg [(0, ⟨some 77, none, .fad 0 (.t 8)⟩), (0, ⟨some 78, none, .ld (some 2) (.t 77)⟩), (1, ⟨some 79, none, .bsl false 8 0 [.i .i64 (0), .i .i64 (0), .i .i64 (0), .i .i64 (0), .i .i64 (0), .i .i64 (0), .i .i64 (0), .i .i64 (0)] []⟩), (0, ⟨some 80, none, .fad 2 (.t 8)⟩), (0, ⟨some 81, none, .ld none (.t 80)⟩), (0, ⟨some 82, none, .mov (.t 15)⟩), (0, ⟨some 83, none, .slc 8 (.t 81) none (some (.t 82)) none⟩), (1, ⟨some 84, none, .app 8 64 (.t 79) (.t 83)⟩), (0, ⟨some 85, none, .fad 2 (.t 8)⟩), (0, ⟨some 86, none, .ld none (.t 85)⟩), (0, ⟨some 87, none, .mov (.t 15)⟩), (0, ⟨some 88, none, .bin .add (.t 87) (.c (.i .i64 (1)))⟩), (0, ⟨some 89, none, .slc 8 (.t 86) (some (.t 88)) none none⟩), (1, ⟨some 90, none, .app 8 64 (.t 84) (.t 89)⟩), (0, ⟨some 91, none, .bld [.i .i64 (0), .i .i64 (0), .nsl] [(0, 2, (.t 78)), (2, 1, (.t 90))]⟩), (2, ⟨some 16, none, .alloc [.i .i64 (0), .i .i64 (0), .nsl]⟩), (1, ⟨none, none, .st 3 (.t 16) (.t 91)⟩)] 16 [2, 8, 9, 11, 13, 15, 16]) (.seq (.reg [⟨some 93, none, .ld (some 3) (.t 16)⟩, ⟨some 94, none, .calv (.c (.fn (.func f2) [] [])) [.t 93]⟩, ⟨some 92, none, .mov (.t 94)⟩, ⟨some 95, none, .ext (.t 92) 0⟩, ⟨some 96, none, .ext (.t 92) 1⟩, ⟨some 17, none, .mov (.t 95)⟩, ⟨some 18, none, .mov (.t 96)⟩] [2, 8, 9, 11, 13, 15, 17, 18]) (.seq (.drg [(0, ⟨some 98, none, .fad 0 (.t 8)⟩), (0, ⟨some 99, none, .ld (some 2) (.t 98)⟩), (1, ⟨some 100, none, .bsl false 8 0 [.i .i64 (0), .i .i64 (0), .i .i64 (0), .i .i64 (0), .i .i64 (0), .i .i64 (0), .i .i64 (0), .i .i64 (0)] []⟩), (0, ⟨some 101, none, .fad 2 (.t 8)⟩), (0, ⟨some 102, none, .ld none (.t 101)⟩), (0, ⟨some 103, none, .fad 2 (.t 8)⟩), (0, ⟨some 104, none, .ld none (.t 103)⟩), (0, ⟨some 105, none, .len false (.t 104)⟩), (0, ⟨some 106, none, .bin .sub (.t 105) (.c (.i .i64 (1)))⟩), (0, ⟨some 107, none, .slc 8 (.t 102) none (some (.t 106)) none⟩), (1, ⟨some 108, none, .app 8 64 (.t 100) (.t 107)⟩), (0, ⟨some 109, none, .bld [.i .i64 (0), .i .i64 (0), .nsl] [(0, 2, (.t 99)), (2, 1, (.t 108))]⟩), (1, ⟨some 110, none, .calv (.c (.fn (.func f2) [] [])) [.t 109]⟩), (0, ⟨some 97, none, .mov (.t 110)⟩), (0, ⟨some 111, none, .ext (.t 97) 0⟩), (0, ⟨some 112, none, .ext (.t 97) 1⟩), (0, ⟨some 19, none, .mov (.t 111)⟩), (0, ⟨some 20, none, .mov (.t 112)⟩)] 17 [2, 8, 9, 11, 13, 15, 17, 18, 19, 20]) (.seq (.reg [⟨some 113, none, .mov (.t 18)⟩, ⟨some 114, none, .bin .neq (.t 113) (.c (.i .i64 (0)))⟩, ⟨some 115, none, .mov (.t 114)⟩, ⟨some 116, some (115, false), .mov (.t 20)⟩, ⟨some 117, some (115, false), .bin .neq (.t 116) (.c (.i .i64 (0)))⟩, ⟨some 118, none, .pick (.t 115) (.c (.b true)) (.t 117)⟩, ⟨some 119, none, .mov (.t 118)⟩, ⟨some 120, some (119, false), .mov (.t 9)⟩, ⟨some 121, some (119, false), .bin .eql (.t 120) (.c (.i .i64 (1)))⟩, ⟨some 122, some (119, false), .mov (.t 121)⟩, ⟨some 123, some (122, true), .mov (.t 17)⟩, ⟨some 124, some (122, true), .bin .neq (.t 123) (.c (.i .i64 (1)))⟩, ⟨some 125, some (122, true), .mov (.t 124)⟩, ⟨some 126, some (125, false), .mov (.t 19)⟩, ⟨some 127, some (125, false), .bin .neq (.t 126) (.c (.i .i64 (1)))⟩, ⟨some 128, some (122, true), .pick (.t 125) (.c (.b true)) (.t 127)⟩, ⟨some 129, some (119, false), .pick (.t 122) (.t 128) (.c (.b false))⟩, ⟨some 130, none, .pick (.t 119) (.c (.b true)) (.t 129)⟩] [2, 8, 9, 11, 13, 15, 130]) (.cond (.t 130) (.seq (.reg [⟨some 6, none, .mov (.c (.b false))⟩] [6]) (.ret)) (.skip)))))) (.skip))) (.seq (.drg [(0, ⟨some 131, none, .fad 0 (.t 8)⟩), (0, ⟨some 132, none, .ld (some 2) (.t 131)⟩), (1, ⟨some 133, none, .bsl false 8 0 [.i .i64 (0), .i .i64 (0), .i .i64 (0), .i .i64 (0), .i .i64 (0), .i .i64 (0), .i .i64 (0), .i .i64 (0)] []⟩), (0, ⟨some 134, none, .fad 2 (.t 8)⟩), (0, ⟨some 135, none, .ld none (.t 134)⟩), (1, ⟨some 136, none, .app 8 64 (.t 133) (.t 135)⟩), (0, ⟨some 137, none, .bld [.i .i64 (0), .i .i64 (0), .nsl] [(0, 2, (.t 132)), (2, 1, (.t 136))]⟩), (2, ⟨some 21, none, .alloc [.i .i64 (0), .i .i64 (0), .nsl]⟩), (1, ⟨none, none, .st 3 (.t 21) (.t 137)⟩)] 8 [2, 8, 9, 11, 13, 15, 21]) (.seq (.drg [(0, ⟨some 138, none, .fad 2 (.t 8)⟩), (0, ⟨some 139, none, .ld none (.t 138)⟩), (0, ⟨some 140, none, .mov (.t 15)⟩), (0, ⟨some 141, none, .ixs 8 (.t 139) (.t 140)⟩), (0, ⟨some 142, none, .fad 1 (.t 141)⟩), (0, ⟨some 143, none, .ld (some 2) (.t 142)⟩), (0, ⟨some 144, none, .mov (.t 2)⟩), (0, ⟨some 145, none, .calv (.c (.fn (.func f6) [] [])) [.t 144, .c (.i .i64 (0))]⟩), (0, ⟨some 146, none, .calv (.c (.fn (.func f7) [] [])) [.t 143, .t 145]⟩), (0, ⟨some 22, none, .mov (.t 146)⟩)] 8 [2, 8, 9, 11, 13, 15, 21, 22]) (.seq (.drg [(0, ⟨some 147, none, .fad 2 (.t 8)⟩), (0, ⟨some 148, none, .ld none (.t 147)⟩), (0, ⟨some 149, none, .mov (.t 15)⟩), (0, ⟨some 150, none, .ixs 8 (.t 148) (.t 149)⟩), (0, ⟨some 151, none, .fad 3 (.t 150)⟩), (0, ⟨some 152, none, .ld (some 2) (.t 151)⟩), (0, ⟨some 153, none, .mov (.t 2)⟩), (0, ⟨some 154, none, .calv (.c (.fn (.func f6) [] [])) [.t 153, .c (.i .i64 (1))]⟩), (0, ⟨some 155, none, .calv (.c (.fn (.func f7) [] [])) [.t 152, .t 154]⟩), (0, ⟨some 23, none, .mov (.t 155)⟩)] 8 [2, 8, 9, 11, 13, 15, 21, 22, 23]) (.seq (.drg [(0, ⟨some 156, none, .fad 2 (.t 8)⟩), (0, ⟨some 157, none, .ld none (.t 156)⟩), (0, ⟨some 158, none, .mov (.t 15)⟩), (0, ⟨some 159, none, .ixs 8 (.t 157) (.t 158)⟩), (0, ⟨some 160, none, .fad 5 (.t 159)⟩), (0, ⟨some 161, none, .ld (some 2) (.t 160)⟩), (0, ⟨some 162, none, .mov (.t 2)⟩), (0, ⟨some 163, none, .calv (.c (.fn (.func f6) [] [])) [.t 162, .c (.i .i64 (2))]⟩), (0, ⟨some 164, none, .calv (.c (.fn (.func f7) [] [])) [.t 161, .t 163]⟩), (0, ⟨some 24, none, .mov (.t 164)⟩)] 8 [9, 11, 13, 15, 21, 22, 23, 24]) (.seq (.reg [⟨some 165, none, .fad 2 (.t 21)⟩, ⟨some 166, none, .ld none (.t 165)⟩, ⟨some 167, none, .mov (.t 15)⟩, ⟨some 168, none, .mov (.t 22)⟩, ⟨some 169, none, .mov (.t 22)⟩, ⟨some 170, none, .bld [.i .i64 (0), .i .i64 (0)] [(0, 1, (.t 168)), (1, 1, (.t 169))]⟩, ⟨some 171, none, .ixs 8 (.t 166) (.t 167)⟩, ⟨some 172, none, .fad 1 (.t 171)⟩, ⟨none, none, .st 2 (.t 172) (.t 170)⟩] [9, 11, 13, 15, 21, 23, 24]) (.seq (.reg [⟨some 173, none, .fad 2 (.t 21)⟩, ⟨some 174, none, .ld none (.t 173)⟩, ⟨some 175, none, .mov (.t 15)⟩, ⟨some 176, none, .mov (.t 23)⟩, ⟨some 177, none, .mov (.t 23)⟩, ⟨some 178, none, .bld [.i .i64 (0), .i .i64 (0)] [(0, 1, (.t 176)), (1, 1, (.t 177))]⟩, ⟨some 179, none, .ixs 8 (.t 174) (.t 175)⟩, ⟨some 180, none, .fad 3 (.t 179)⟩, ⟨none, none, .st 2 (.t 180) (.t 178)⟩] [9, 11, 13, 15, 21, 24]) (.seq (.reg [⟨some 181, none, .fad 2 (.t 21)⟩, ⟨some 182, none, .ld none (.t 181)⟩, ⟨some 183, none, .mov (.t 15)⟩, ⟨some 184, none, .mov (.t 24)⟩, ⟨some 185, none, .mov (.t 24)⟩, ⟨some 186, none, .bld [.i .i64 (0), .i .i64 (0)] [(0, 1, (.t 184)), (1, 1, (.t 185))]⟩, ⟨some 187, none, .ixs 8 (.t 182) (.t 183)⟩, ⟨some 188, none, .fad 5 (.t 187)⟩, ⟨none, none, .st 2 (.t 188) (.t 186)⟩] [9, 11, 13, 21]) (.seq (.reg [⟨some 190, none, .ld (some 3) (.t 21)⟩, ⟨some 191, none, .calv (.c (.fn (.func f2) [] [])) [.t 190]⟩, ⟨some 189, none, .mov (.t 191)⟩, ⟨some 192, none, .ext (.t 189) 0⟩, ⟨some 193, none, .ext (.t 189) 1⟩, ⟨some 25, none, .mov (.t 192)⟩, ⟨some 26, none, .mov (.t 193)⟩] [9, 11, 13, 21, 25, 26]) (.seq (.reg [⟨some 195, none, .ld (some 3) (.t 21)⟩, ⟨some 196, none, .calv (.c (.fn (.func f3) [] [])) [.t 195]⟩, ⟨some 194, none, .mov (.t 196)⟩, ⟨some 197, none, .ext (.t 194) 0⟩, ⟨some 198, none, .ext (.t 194) 1⟩, ⟨some 27, none, .alloc [.i .i64 (0), .i .i64 (0)]⟩, ⟨none, none, .st 2 (.t 27) (.t 197)⟩, ⟨some 28, none, .mov (.t 198)⟩] [9, 11, 13, 21, 25, 26, 27, 28]) (.seq (.reg [⟨some 200, none, .ld (some 3) (.t 21)⟩, ⟨some 201, none, .calv (.c (.fn (.func f4) [] [])) [.t 200]⟩, ⟨some 199, none, .mov (.t 201)⟩, ⟨some 202, none, .ext (.t 199) 0⟩, ⟨some 203, none, .ext (.t 199) 1⟩, ⟨some 29, none, .mov (.t 202)⟩, ⟨some 30, none, .mov (.t 203)⟩] [9, 11, 13, 25, 26, 27, 28, 29, 30]) (.seq (.reg [⟨some 204, none, .mov (.t 26)⟩, ⟨some 205, none, .bin .eql (.t 204) (.c (.i .i64 (0)))⟩, ⟨some 206, none, .mov (.t 205)⟩, ⟨some 207, some (206, true), .mov (.t 28)⟩, ⟨some 208, some (206, true), .bin .eql (.t 207) (.c (.i .i64 (0)))⟩, ⟨some 209, none, .pick (.t 206) (.t 208) (.c (.b false))⟩, ⟨some 210, none, .mov (.t 209)⟩, ⟨some 211, some (210, true), .mov (.t 30)⟩, ⟨some 212, some (210, true), .bin .eql (.t 211) (.c (.i .i64 (0)))⟩, ⟨some 213, none, .pick (.t 210) (.t 212) (.c (.b false))⟩, ⟨some 214, none, .mov (.t 213)⟩, ⟨some 215, some (214, true), .mov (.t 9)⟩, ⟨some 216, some (214, true), .bin .eql (.t 215) (.c (.i .i64 (2)))⟩, ⟨some 217, some (214, true), .mov (.t 216)⟩, ⟨some 218, some (217, false), .mov (.t 25)⟩, ⟨some 219, some (217, false), .mov (.t 9)⟩, ⟨some 220, some (217, false), .bin .eql (.t 218) (.t 219)⟩, ⟨some 221, some (214, true), .pick (.t 217) (.c (.b true)) (.t 220)⟩, ⟨some 222, none, .pick (.t 214) (.t 221) (.c (.b false))⟩, ⟨some 223, none, .mov (.t 222)⟩, ⟨some 224, some (223, true), .fad 0 (.t 27)⟩, ⟨some 225, some (223, true), .ld none (.t 224)⟩, ⟨some 226, some (223, true), .fad 0 (.t 11)⟩, ⟨some 227, some (223, true), .ld none (.t 226)⟩, ⟨some 228, some (223, true), .bin .geq (.t 225) (.t 227)⟩, ⟨some 229, none, .pick (.t 223) (.t 228) (.c (.b false))⟩, ⟨some 230, none, .mov (.t 229)⟩, ⟨some 231, some (230, true), .fad 1 (.t 27)⟩, ⟨some 232, some (230, true), .ld none (.t 231)⟩, ⟨some 233, some (230, true), .fad 1 (.t 11)⟩, ⟨some 234, some (230, true), .ld none (.t 233)⟩, ⟨some 235, some (230, true), .bin .leq (.t 232) (.t 234)⟩, ⟨some 236, none, .pick (.t 230) (.t 235) (.c (.b false))⟩, ⟨some 237, none, .mov (.t 236)⟩, ⟨some 238, some (237, true), .mov (.t 29)⟩, ⟨some 239, some (237, true), .mov (.t 13)⟩, ⟨some 240, some (237, true), .bin .leq (.t 238) (.t 239)⟩, ⟨some 241, none, .pick (.t 237) (.t 240) (.c (.b false))⟩, ⟨some 6, none, .mov (.t 241)⟩] [6]) (.ret))))))))))))))))))))
abbrev Low_potbanklaw03_BungWithout (P : Program) (f f0 f1 f2 f3 f4 f5 f6 f7 : Nat) : Prop := lowF P f = some (242, [.tmp 6], (ic_potbanklaw03_BungWithout f0 f1 f2 f3 f4 f5 f6 f7).erase)

theorem newZ_lit {H0 H : List Blk} {k p : Nat} (hH : H = H0 ++ [.row k []]) (hp : p = H0.length) : NewZ H0 H k [] (.rsl p k 0 0 0 true) := by
  subst hH; subst hp
  exact ⟨.inr ⟨_, 0, true, rfl, get_new _ _⟩, by simp, fun p b hb => get_app hb _, fun p k' o l c e he => by simp at he; omega⟩
theorem ownZ_cell {H : List Blk} {k : Nat} {rows : List (List V)} {v : V} (h : OwnZ H k rows v) : v.cells = [v] ∧ v.one = true := by
  rcases h with ⟨_, rfl | rfl⟩ | ⟨p, c, e, rfl, _⟩ <;> exact ⟨rfl, rfl⟩
theorem ownZ_bel {H : List Blk} {k : Nat} {rows : List (List V)} {v : V} (h : OwnZ H k rows v) {n : Nat} (hn : H.length ≤ n) : v.bel n = true := by
  rcases h with ⟨_, rfl | rfl⟩ | ⟨p, c, e, rfl, hp⟩
  · rfl
  · rfl
  · have := get_lt hp
    simp [V.bel]; omega
theorem frz_bung {H : List Blk} {w : Rg} {l : List Sag} {v : V} (h : OwnZ H 8 (l.map Sag.c) v) : Frz 0 H (.agg [.i .i64 w.lo, .i .i64 w.hi, v]) (.agg (bungC w l)) := .agg _ _ rfl fun j x x' e1 e2 => by
  match j with
  | 0 => simp at e1 e2; subst e1 e2; exact .keep _ rfl
  | 1 => simp at e1 e2; subst e1 e2; exact .keep _ rfl
  | 2 => simp at e1 e2; subst e1 e2; exact h.frz (bel_sags _)
  | j + 3 => simp at e1
theorem sag_rows {l : List Sag} : ∀ r ∈ l.map Sag.c, r.length = 8 ∧ r.all V.one = true := fun r hr => by obtain ⟨x, _, rfl⟩ := List.mem_map.1 hr; exact ⟨rfl, rfl⟩
def L_BungWithout (P : Program) (f : Nat) : Prop := ∀ (l : List Raw) (order : List Int) (a b n : Int) (picks : List Int), order.length ≤ 1000000000000000 → picks.length ≤ 1000000000000000 → Snd P f [.agg (kilnC l order a b), .i .i64 n, .fsl (picks.map intC)] [] (.b true) []
set_option maxHeartbeats 8000000 in
theorem ok_BungWithout (hm : P.follows .mixedOrders = true) {f f0 f1 f2 f3 f4 f5 f6 f7 : Nat} (low : Low_potbanklaw03_BungWithout P f f0 f1 f2 f3 f4 f5 f6 f7) (h0 : C_sane P f0) (h1 : C_stack P f1) (h2 : C_Stands P f2) (h3 : C_Height P f3) (h4 : C_Lean P f4) (h5 : C_Mod P f5) (h6 : C_at P f6) (h7 : C_one P f7) : L_BungWithout P f := by
  intro raws order a b n picks hol hpl
  have hbung := stack_bung raws order a b
  have hv := stackS_ok raws order
  have hlen : (stackS raws order).length ≤ 12 := by rw [stackS_len]; exact (sagsS_len raws).2
  have hpos : 0 < (stackS raws order).length := by rw [stackS_len]; exact (sagsS_len raws).1
  have hwad : rgB (wadS a b) 0 200 = true := wadS_ok a b
  have h1' := h1 raws order a b hol
  generalize stackS raws order = l at *
  generalize wadS a b = w at *
  have st1 : ∀ m, bungB w m = true → Snd P f2 [.agg (bungC w m)] [] (.tup [.i .i64 (standsS m), .i .i64 0]) [] := fun m hm => by
    have := h2 w m
    rwa [if_pos hm, if_pos hm] at this
  have he1 : ∀ m, bungB w m = true → Snd P f3 [.agg (bungC w m)] [] (.tup [.agg (heightS w m).c, .i .i64 0]) [] := fun m hm => by
    have := h3 w m
    rwa [if_pos hm, if_pos hm] at this
  have le1 : ∀ m, bungB w m = true → Snd P f4 [.agg (bungC w m)] [] (.tup [.i .i64 (leanS w m), .i .i64 0]) [] := fun m hm => by
    have := h4 w m
    rwa [if_pos hm, if_pos hm] at this
  have sub : ∀ m, m.Sublist l → 0 < m.length → bungB w m = true := fun m hs hm => by
    have h8 : listB m = true := by
      simp only [listB, Bool.and_eq_true, decide_eq_true_eq, List.all_eq_true] at hv ⊢
      exact ⟨⟨by have := hs.length_le; omega, fun x hx => hv.1.2 x (hs.mem hx)⟩, (hs.map (·.id)).nodup hv.2⟩
    rw [bungB, hwad, h8, decide_eq_true hm]; rfl
  have hsub : ∀ m, m.Sublist l → standsS l = 1 → standsS m = 1 := fun m hs h => standsS_one.2 (courses_sub hs (fun x hx => sag_w hv hx) (standsS_one.1 h))
  have hmod := mod_pos (n := n) (m := (l.length : Int)) (by omega)
  have h5' := h5 n l.length (by omega) (by omega)
  obtain ⟨i, hi⟩ : ∃ i : Nat, n % (l.length : Int) = i := ⟨(n % (l.length : Int)).toNat, by omega⟩
  rw [hi] at h5' hmod
  have hil : i < l.length := by omega
  obtain ⟨s, hs, hsm, _, _⟩ := next_of hil
  have hss := sag_w hv hsm
  have hsb := hss
  simp [sagB, rgB, inR] at hsb
  have hw0 : rgB s.w 0 10000000 = true := by simp [rgB]; omega
  have hb0 : rgB s.b 0 10000000 = true := by simp [rgB]; omega
  have hh0 : rgB s.h 0 10000000 = true := by simp [rgB]; omega
  have p0 := h6 picks 0 (by omega) hpl
  have p1 := h6 picks 1 (by omega) hpl
  have p2 := h6 picks 2 (by omega) hpl
  have o0 := h7 s.w (atS picks 0) hw0
  have o1 := h7 s.b (atS picks 1) hb0
  have o2 := h7 s.h (atS picks 2) hh0
  have r0 := oneS_in (r := s.w) (atS picks 0) (by omega)
  have r1 := oneS_in (r := s.b) (atS picks 1) (by omega)
  have r2 := oneS_in (r := s.h) (atS picks 2) (by omega)
  change Snd P f7 [_, _] [] (.i .i64 (oneS s.w (atS picks 0))) [] at o0
  change Snd P f7 [_, _] [] (.i .i64 (oneS s.b (atS picks 1))) [] at o1
  change Snd P f7 [_, _] [] (.i .i64 (oneS s.h (atS picks 2))) [] at o2
  generalize oneS s.w (atS picks 0) = wn at *
  generalize oneS s.b (atS picks 1) = bn at *
  generalize oneS s.h (atS picks 2) = hn at *
  obtain ⟨t, ht⟩ : ∃ t : Sag, t = ⟨s.id, ⟨wn, wn⟩, ⟨bn, bn⟩, ⟨hn, hn⟩, s.tilt⟩ := ⟨_, rfl⟩
  have htB : sagB t = true := by
    rw [ht]; simp only [sagB, rgB, inR, Bool.and_eq_true, decide_eq_true_eq]
    simp [sagB, rgB, inR] at hss
    repeat' apply And.intro
    all_goals first | omega | exact decide_eq_true (by omega)
  have hnar : Nar l (l.set i t) := nar_set hs (by rw [ht]; exact ⟨r0.1, r0.2, r1.1, r1.2, r2.1, r2.2, rfl⟩)
  have hvn : listB (l.set i t) = true := list_set hv hs (by rw [ht]) htB
  have hbn : bungB w (l.set i t) = true := by rw [bungB, hwad, hvn, List.length_set, decide_eq_true hpos]; rfl
  have hall : ∀ x ∈ l.set i t, sagB x = true := fun x hx => sag_w hvn hx
  have nst := hnar.stands hall
  have nhe := hnar.height (w := w) hpos
  have nle := hnar.lean hwad hall
  have hwi : IntKind.i64.wrap ((i : Int) + 1) = ((i + 1 : Nat) : Int) := wrap_succ (by omega)
  have hwl : IntKind.i64.wrap ((l.length : Int) - 1) = ((l.length - 1 : Nat) : Int) := by rw [wrap_id (by omega) (by omega)]; omega
  have hti : (l.map Sag.c).length = l.length := by simp
  obtain ⟨G, hG⟩ : ∃ G : List Blk, G = [.row 4 [kilnC raws order a b], .row 3 [bungC w l], .row 2 [(heightS w l).c]] := ⟨_, rfl⟩
  have hb1 : G[1]? = some (.row 3 [bungC w l]) := by rw [hG]; rfl
  have hb2 : G[2]? = some (.row 2 [(heightS w l).c]) := by rw [hG]; rfl
  refine snd_ic hm low (by simp) ?_
  unfold ic_potbanklaw03_BungWithout
  simp -dsimp -implicitDefEqProofs only [qq, Nat.reduceBEq, reduceIte, Nat.reduceAdd, Nat.reduceSub, Nat.reduceLeDiff, Nat.reduceLT, Nat.reduceMul, Nat.reduceEqDiff, Int.reduceEq, Int.reduceBEq, Int.reduceBNe, Int.reduceLT, Int.reduceLE, Int.reduceGT, Int.reduceGE, Int.reduceNeg, Int.reduceAdd, Int.reduceSub, reduceCtorEq, List.reduceReplicate, ← List.map_take, ← List.map_drop]
  refine callI_pure h0 rfl rfl ?_
  simp -dsimp -implicitDefEqProofs only [qq, Nat.reduceBEq, reduceIte, Nat.reduceAdd, Nat.reduceSub, Nat.reduceLeDiff, Nat.reduceLT, Nat.reduceMul, Nat.reduceEqDiff, Int.reduceEq, Int.reduceBEq, Int.reduceBNe, Int.reduceLT, Int.reduceLE, Int.reduceGT, Int.reduceGE, Int.reduceNeg, Int.reduceAdd, Int.reduceSub, reduceCtorEq, List.reduceReplicate, ← List.map_take, ← List.map_drop]
  refine callI_pure h1' rfl rfl ?_
  simp -dsimp -implicitDefEqProofs only [qq, Nat.reduceBEq, reduceIte, Nat.reduceAdd, Nat.reduceSub, Nat.reduceLeDiff, Nat.reduceLT, Nat.reduceMul, Nat.reduceEqDiff, Int.reduceEq, Int.reduceBEq, Int.reduceBNe, Int.reduceLT, Int.reduceLE, Int.reduceGT, Int.reduceGE, Int.reduceNeg, Int.reduceAdd, Int.reduceSub, reduceCtorEq, List.reduceReplicate, ← List.map_take, ← List.map_drop]
  refine callI_pure (st1 l hbung) rfl rfl ?_
  simp -dsimp -implicitDefEqProofs only [qq, Nat.reduceBEq, reduceIte, Nat.reduceAdd, Nat.reduceSub, Nat.reduceLeDiff, Nat.reduceLT, Nat.reduceMul, Nat.reduceEqDiff, Int.reduceEq, Int.reduceBEq, Int.reduceBNe, Int.reduceLT, Int.reduceLE, Int.reduceGT, Int.reduceGE, Int.reduceNeg, Int.reduceAdd, Int.reduceSub, reduceCtorEq, List.reduceReplicate, ← List.map_take, ← List.map_drop]
  refine callI_pure (he1 l hbung) rfl rfl ?_
  simp -dsimp -implicitDefEqProofs only [qq, Nat.reduceBEq, reduceIte, Nat.reduceAdd, Nat.reduceSub, Nat.reduceLeDiff, Nat.reduceLT, Nat.reduceMul, Nat.reduceEqDiff, Int.reduceEq, Int.reduceBEq, Int.reduceBNe, Int.reduceLT, Int.reduceLE, Int.reduceGT, Int.reduceGE, Int.reduceNeg, Int.reduceAdd, Int.reduceSub, reduceCtorEq, List.reduceReplicate, ← List.map_take, ← List.map_drop]
  refine callI_pure (le1 l hbung) rfl rfl ?_
  rw [← hG]
  clear hG
  simp -dsimp -implicitDefEqProofs only [hb1, qq, Nat.reduceBEq, reduceIte, Nat.reduceAdd, Nat.reduceSub, Nat.reduceLeDiff, Nat.reduceLT, Nat.reduceMul, Nat.reduceEqDiff, Int.reduceEq, Int.reduceBEq, Int.reduceBNe, Int.reduceLT, Int.reduceLE, Int.reduceGT, Int.reduceGE, Int.reduceNeg, Int.reduceAdd, Int.reduceSub, reduceCtorEq, List.reduceReplicate, ← List.map_take, ← List.map_drop]
  refine callI_pure h5' rfl rfl ?_
  simp -dsimp -implicitDefEqProofs only [hb1, qq, Nat.reduceBEq, reduceIte, Nat.reduceAdd, Nat.reduceSub, Nat.reduceLeDiff, Nat.reduceLT, Nat.reduceMul, Nat.reduceEqDiff, Int.reduceEq, Int.reduceBEq, Int.reduceBNe, Int.reduceLT, Int.reduceLE, Int.reduceGT, Int.reduceGE, Int.reduceNeg, Int.reduceAdd, Int.reduceSub, reduceCtorEq, List.reduceReplicate, ← List.map_take, ← List.map_drop]
  refine brG_of (fun hgt => ?_) (fun hle => ?_) <;> simp -dsimp -implicitDefEqProofs only [hb1, qq, Nat.reduceBEq, reduceIte, Nat.reduceAdd, Nat.reduceSub, Nat.reduceLeDiff, Nat.reduceLT, Nat.reduceMul, Nat.reduceEqDiff, Int.reduceEq, Int.reduceBEq, Int.reduceBNe, Int.reduceLT, Int.reduceLE, Int.reduceGT, Int.reduceGE, Int.reduceNeg, Int.reduceAdd, Int.reduceSub, reduceCtorEq, List.reduceReplicate, ← List.map_take, ← List.map_drop]
  case' refine_1 =>
    obtain ⟨less, hless⟩ : ∃ m, m = l.take i ++ l.drop (i + 1) := ⟨_, rfl⟩
    have hls : less.Sublist l := by
      rw [hless]
      conv => rhs; rw [← List.take_append_drop i l]
      exact List.Sublist.append (List.Sublist.refl _) (by rw [← List.drop_drop]; exact List.drop_sublist _ _)
    have hgt' : 1 < l.length := by have : (1 : Int) < l.length := by simpa using hgt
                                   omega
    have hbless := sub less hls (by rw [hless, List.length_append, List.length_take, List.length_drop]; omega)
    have htop : (l.take (l.length - 1)).Sublist l := List.take_sublist _ _
    have hbtop := sub _ htop (by rw [List.length_take]; omega)
    refine ⟨fun r hr => (sag_rows r hr).1, by omega, by omega, by omega, app_newZ (ys := (l.take i).map Sag.c) (newZ_lit rfl rfl) (by decide) (by decide) rfl sag_rows (by simp; omega) fun v1 H1 hn1 => ⟨hn1.take, ?_⟩⟩
    simp -dsimp -implicitDefEqProofs only [hb1, hwi, qq, Nat.reduceBEq, reduceIte, Nat.reduceAdd, Nat.reduceSub, Nat.reduceLeDiff, Nat.reduceLT, Nat.reduceMul, Nat.reduceEqDiff, Int.reduceEq, Int.reduceBEq, Int.reduceBNe, Int.reduceLT, Int.reduceLE, Int.reduceGT, Int.reduceGE, Int.reduceNeg, Int.reduceAdd, Int.reduceSub, reduceCtorEq, List.reduceReplicate, ← List.map_take, ← List.map_drop]
    refine ⟨fun r hr => (sag_rows r hr).1, by omega, by omega, by omega, app_newZ (ys := (l.drop (i + 1)).map Sag.c) hn1 (by decide) (by decide) rfl sag_rows (by simp; omega) fun v2 H2 hn2 => ⟨hn2.take, ?_⟩⟩
    have hc2 := ownZ_cell hn2.own
    have ho2 : OwnZ H2 8 (less.map Sag.c) v2 := by rw [hless, List.map_append]; exact hn2.own
    simp -dsimp -implicitDefEqProofs only [hc2.1, hc2.2, qq, Nat.reduceBEq, reduceIte, Nat.reduceAdd, Nat.reduceSub, Nat.reduceLeDiff, Nat.reduceLT, Nat.reduceMul, Nat.reduceEqDiff, Int.reduceEq, Int.reduceBEq, Int.reduceBNe, Int.reduceLT, Int.reduceLE, Int.reduceGT, Int.reduceGE, Int.reduceNeg, Int.reduceAdd, Int.reduceSub, reduceCtorEq, List.reduceReplicate, ← List.map_take, ← List.map_drop]
    obtain ⟨G2, hG2⟩ : ∃ G2 : List Blk, G2 = H2 ++ [.row 3 [[.i .i64 w.lo, .i .i64 w.hi, v2]]] := ⟨_, rfl⟩
    have ho3 : OwnZ G2 8 (less.map Sag.c) v2 := by rw [hG2]; exact ho2.app _
    have hb1' : G2[1]? = some (.row 3 [bungC w l]) := by rw [hG2]; exact get_app (hn2.keep _ _ hb1) _
    have hb2' : G2[2]? = some (.row 2 [(heightS w l).c]) := by rw [hG2]; exact get_app (hn2.keep _ _ hb2) _
    rw [← hG2]
    clear hG2
    refine callI_lend1 (st1 less hbless) (frz_bung ho3) rfl ?_
    simp -dsimp -implicitDefEqProofs only [hb1', hwl, qq, Nat.reduceBEq, reduceIte, Nat.reduceAdd, Nat.reduceSub, Nat.reduceLeDiff, Nat.reduceLT, Nat.reduceMul, Nat.reduceEqDiff, Int.reduceEq, Int.reduceBEq, Int.reduceBNe, Int.reduceLT, Int.reduceLE, Int.reduceGT, Int.reduceGE, Int.reduceNeg, Int.reduceAdd, Int.reduceSub, reduceCtorEq, List.reduceReplicate, ← List.map_take, ← List.map_drop]
    refine ⟨fun r hr => (sag_rows r hr).1, by omega, by omega, by omega, app_newZ (ys := (l.take (l.length - 1)).map Sag.c) (newZ_lit rfl rfl) (by decide) (by decide) rfl sag_rows (by simp; omega) fun v3 H3 hn3 => ⟨hn3.take, ?_⟩⟩
    have hc3 := ownZ_cell hn3.own
    rw [List.nil_append] at hn3
    simp -dsimp -implicitDefEqProofs only [hc3.1, hc3.2, qq, Nat.reduceBEq, reduceIte, Nat.reduceAdd, Nat.reduceSub, Nat.reduceLeDiff, Nat.reduceLT, Nat.reduceMul, Nat.reduceEqDiff, Int.reduceEq, Int.reduceBEq, Int.reduceBNe, Int.reduceLT, Int.reduceLE, Int.reduceGT, Int.reduceGE, Int.reduceNeg, Int.reduceAdd, Int.reduceSub, reduceCtorEq, List.reduceReplicate, ← List.map_take, ← List.map_drop]
    refine callI_lend1 (st1 _ hbtop) (frz_bung hn3.own) rfl ⟨hn3.take, ?_⟩
    clear hb1 hb2
    have hb1 := hn3.keep _ _ hb1'
    have hb2 := hn3.keep _ _ hb2'
    cases hp1 : (standsS l == 1)
    case' true =>
      have q1 := hsub _ hls (by simpa using hp1)
      have q2 := hsub _ htop (by simpa using hp1)
      have q3 : (standsS less != 1) = false := by rw [q1]; rfl
      have q4 : (standsS (l.take (l.length - 1)) != 1) = false := by rw [q2]; rfl
      simp -dsimp -implicitDefEqProofs only [hp1, q3, q4, hb1, qq, Nat.reduceBEq, reduceIte, Nat.reduceAdd, Nat.reduceSub, Nat.reduceLeDiff, Nat.reduceLT, Nat.reduceMul, Nat.reduceEqDiff, Int.reduceEq, Int.reduceBEq, Int.reduceBNe, Int.reduceLT, Int.reduceLE, Int.reduceGT, Int.reduceGE, Int.reduceNeg, Int.reduceAdd, Int.reduceSub, reduceCtorEq, List.reduceReplicate, ← List.map_take, ← List.map_drop]
    case' false =>
      simp -dsimp -implicitDefEqProofs only [hp1, hb1, qq, Nat.reduceBEq, reduceIte, Nat.reduceAdd, Nat.reduceSub, Nat.reduceLeDiff, Nat.reduceLT, Nat.reduceMul, Nat.reduceEqDiff, Int.reduceEq, Int.reduceBEq, Int.reduceBNe, Int.reduceLT, Int.reduceLE, Int.reduceGT, Int.reduceGE, Int.reduceNeg, Int.reduceAdd, Int.reduceSub, reduceCtorEq, List.reduceReplicate, ← List.map_take, ← List.map_drop]
  case' refine_2 =>
    generalize G = H3 at hb1 hb2 ⊢
  all_goals
    refine app_newZ (ys := l.map Sag.c) (newZ_lit rfl rfl) (by decide) (by decide) rfl sag_rows (by simp; omega) fun v4 H4 hn4 => ⟨hn4.take, ?_⟩
    rw [List.nil_append] at hn4
    obtain ⟨p, c, e, hv4, hp⟩ := hn4.own.pos (by intro h; have h2 := congrArg List.length h; rw [List.length_map, List.length_nil] at h2; omega)
    subst hv4
    rw [List.length_map]
    have hfr := hn4.fresh _ _ _ _ _ _ rfl
    have hps := get_lt hp
    have hps1 := get_lt hb1
    have hps2 := get_lt hb2
    have hb1'' := hn4.keep _ _ hb1
    have hb2'' := hn4.keep _ _ hb2
    simp -dsimp -implicitDefEqProofs only [qq, Nat.reduceBEq, reduceIte, Nat.reduceAdd, Nat.reduceSub, Nat.reduceLeDiff, Nat.reduceLT, Nat.reduceMul, Nat.reduceEqDiff, Int.reduceEq, Int.reduceBEq, Int.reduceBNe, Int.reduceLT, Int.reduceLE, Int.reduceGT, Int.reduceGE, Int.reduceNeg, Int.reduceAdd, Int.reduceSub, reduceCtorEq, List.reduceReplicate, ← List.map_take, ← List.map_drop]
    obtain ⟨G5, hG5⟩ : ∃ G5 : List Blk, G5 = H4 ++ [.row 3 [[.i .i64 w.lo, .i .i64 w.hi, .rsl p 8 0 l.length c e]]] := ⟨_, rfl⟩
    have hb10 : (H4 ++ [.row 3 [[.i .i64 w.lo, .i .i64 w.hi, .rsl p 8 0 l.length c e]]])[1]? = some (.row 3 [bungC w l]) := get_app hb1'' _
    have hp5 : G5[p]? = some (.row 8 (l.map Sag.c)) := by rw [hG5]; exact get_app hp _
    have hb15 : G5[1]? = some (.row 3 [bungC w l]) := by rw [hG5]; exact get_app hb1'' _
    have hb25 : G5[2]? = some (.row 2 [(heightS w l).c]) := by rw [hG5]; exact get_app hb2'' _
    have hbq : G5[H4.length]? = some (.row 3 [[.i .i64 w.lo, .i .i64 w.hi, .rsl p 8 0 l.length c e]]) := by rw [hG5]; exact get_new _ _
    have hqn : H4.length ≠ p := by omega
    have hqn1 : 1 ≠ p := by omega
    have hqn2 : 2 ≠ p := by omega
    simp -dsimp -implicitDefEqProofs only [hb10, hs, Sag.c, qq, Nat.reduceBEq, reduceIte, Nat.reduceAdd, Nat.reduceSub, Nat.reduceLeDiff, Nat.reduceLT, Nat.reduceMul, Nat.reduceEqDiff, Int.reduceEq, Int.reduceBEq, Int.reduceBNe, Int.reduceLT, Int.reduceLE, Int.reduceGT, Int.reduceGE, Int.reduceNeg, Int.reduceAdd, Int.reduceSub, reduceCtorEq, List.reduceReplicate, ← List.map_take, ← List.map_drop]
    refine callI_pure p0 rfl rfl ?_
    simp -dsimp -implicitDefEqProofs only [hb10, qq, Nat.reduceBEq, reduceIte, Nat.reduceAdd, Nat.reduceSub, Nat.reduceLeDiff, Nat.reduceLT, Nat.reduceMul, Nat.reduceEqDiff, Int.reduceEq, Int.reduceBEq, Int.reduceBNe, Int.reduceLT, Int.reduceLE, Int.reduceGT, Int.reduceGE, Int.reduceNeg, Int.reduceAdd, Int.reduceSub, reduceCtorEq, List.reduceReplicate, ← List.map_take, ← List.map_drop]
    rw [← hG5]
    refine callI_pure o0 rfl rfl ?_
    clear hG5 hb10
    generalize H4.length = q at *
    simp -dsimp -implicitDefEqProofs only [hb15, hs, Sag.c, qq, Nat.reduceBEq, reduceIte, Nat.reduceAdd, Nat.reduceSub, Nat.reduceLeDiff, Nat.reduceLT, Nat.reduceMul, Nat.reduceEqDiff, Int.reduceEq, Int.reduceBEq, Int.reduceBNe, Int.reduceLT, Int.reduceLE, Int.reduceGT, Int.reduceGE, Int.reduceNeg, Int.reduceAdd, Int.reduceSub, reduceCtorEq, List.reduceReplicate, ← List.map_take, ← List.map_drop]
    refine callI_pure p1 rfl rfl ?_
    simp -dsimp -implicitDefEqProofs only [hb15, qq, Nat.reduceBEq, reduceIte, Nat.reduceAdd, Nat.reduceSub, Nat.reduceLeDiff, Nat.reduceLT, Nat.reduceMul, Nat.reduceEqDiff, Int.reduceEq, Int.reduceBEq, Int.reduceBNe, Int.reduceLT, Int.reduceLE, Int.reduceGT, Int.reduceGE, Int.reduceNeg, Int.reduceAdd, Int.reduceSub, reduceCtorEq, List.reduceReplicate, ← List.map_take, ← List.map_drop]
    refine callI_pure o1 rfl rfl ?_
    simp -dsimp -implicitDefEqProofs only [hb15, hs, Sag.c, qq, Nat.reduceBEq, reduceIte, Nat.reduceAdd, Nat.reduceSub, Nat.reduceLeDiff, Nat.reduceLT, Nat.reduceMul, Nat.reduceEqDiff, Int.reduceEq, Int.reduceBEq, Int.reduceBNe, Int.reduceLT, Int.reduceLE, Int.reduceGT, Int.reduceGE, Int.reduceNeg, Int.reduceAdd, Int.reduceSub, reduceCtorEq, List.reduceReplicate, ← List.map_take, ← List.map_drop]
    refine callI_pure p2 rfl rfl ?_
    simp -dsimp -implicitDefEqProofs only [hb15, qq, Nat.reduceBEq, reduceIte, Nat.reduceAdd, Nat.reduceSub, Nat.reduceLeDiff, Nat.reduceLT, Nat.reduceMul, Nat.reduceEqDiff, Int.reduceEq, Int.reduceBEq, Int.reduceBNe, Int.reduceLT, Int.reduceLE, Int.reduceGT, Int.reduceGE, Int.reduceNeg, Int.reduceAdd, Int.reduceSub, reduceCtorEq, List.reduceReplicate, ← List.map_take, ← List.map_drop]
    refine callI_pure o2 rfl rfl ?_
    have u1 : ∀ b, (G5.set p b)[p]? = some b := fun b => get_setsame hp5
    have u2 : ∀ b, (G5.set p b)[q]? = some (.row 3 [[.i .i64 w.lo, .i .i64 w.hi, .rsl p 8 0 l.length c e]]) := fun b => get_setne hbq (by omega)
    have u3 : ∀ r, ((l.map Sag.c).set i r)[i]? = some r := fun r => List.getElem?_set_self (by rw [List.length_map]; omega)
    have q0 : ((0 : Int) ≤ (i : Int)) = True := eq_true (by omega)
    have q1 : ((i : Int) < (l.length : Int)) = True := eq_true (by omega)
    have hfin : (l.map Sag.c).set i (Sag.c ⟨s.id, ⟨wn, wn⟩, ⟨bn, bn⟩, ⟨hn, hn⟩, s.tilt⟩) = (l.set i t).map Sag.c := by rw [← ht, List.map_set]
    simp only [Sag.c] at hfin
    simp -dsimp -implicitDefEqProofs only [hbq, q0, q1, hp5, hs, Sag.c, u1, u2, u3, List.set_set, qq, Nat.reduceBEq, reduceIte, Nat.reduceAdd, Nat.reduceSub, Nat.reduceLeDiff, Nat.reduceLT, Nat.reduceMul, Nat.reduceEqDiff, Int.reduceEq, Int.reduceBEq, Int.reduceBNe, Int.reduceLT, Int.reduceLE, Int.reduceGT, Int.reduceGE, Int.reduceNeg, Int.reduceAdd, Int.reduceSub, reduceCtorEq, List.reduceReplicate, ← List.map_take, ← List.map_drop]
    rw [hfin]
    have ho6 : OwnZ (G5.set p (.row 8 ((l.set i t).map Sag.c))) 8 ((l.set i t).map Sag.c) (.rsl p 8 0 l.length c e) := .inr ⟨p, c, e, by simp, u1 _⟩
    have hq6 := u2 (.row 8 ((l.set i t).map Sag.c))
    have hb26 : (G5.set p (.row 8 ((l.set i t).map Sag.c)))[2]? = some (.row 2 [(heightS w l).c]) := get_setne hb25 (by omega)
    generalize hG6 : G5.set p (.row 8 ((l.set i t).map Sag.c)) = G6 at ho6 hq6 hb26 ⊢
    refine callI_lend1 (st1 _ hbn) (frz_bung ho6) rfl ?_
    simp -dsimp -implicitDefEqProofs only [hq6, qq, Nat.reduceBEq, reduceIte, Nat.reduceAdd, Nat.reduceSub, Nat.reduceLeDiff, Nat.reduceLT, Nat.reduceMul, Nat.reduceEqDiff, Int.reduceEq, Int.reduceBEq, Int.reduceBNe, Int.reduceLT, Int.reduceLE, Int.reduceGT, Int.reduceGE, Int.reduceNeg, Int.reduceAdd, Int.reduceSub, reduceCtorEq, List.reduceReplicate, ← List.map_take, ← List.map_drop]
    refine callI_lend1 (he1 _ hbn) (frz_bung ho6) rfl ?_
    have hq7 : ∀ L, (G6 ++ L)[q]? = some (.row 3 [[.i .i64 w.lo, .i .i64 w.hi, .rsl p 8 0 l.length c e]]) := fun L => get_app hq6 L
    have hb27 : ∀ L, (G6 ++ L)[2]? = some (.row 2 [(heightS w l).c]) := fun L => get_app hb26 L
    have d1 : decide ((heightS w (l.set i t)).lo ≥ (heightS w l).lo) = true := decide_eq_true nhe.1
    have d2 : decide ((heightS w (l.set i t)).hi ≤ (heightS w l).hi) = true := decide_eq_true nhe.2
    have d3 : decide (leanS w (l.set i t) ≤ leanS w l) = true := decide_eq_true nle
    simp -dsimp -implicitDefEqProofs only [hq7, qq, Nat.reduceBEq, reduceIte, Nat.reduceAdd, Nat.reduceSub, Nat.reduceLeDiff, Nat.reduceLT, Nat.reduceMul, Nat.reduceEqDiff, Int.reduceEq, Int.reduceBEq, Int.reduceBNe, Int.reduceLT, Int.reduceLE, Int.reduceGT, Int.reduceGE, Int.reduceNeg, Int.reduceAdd, Int.reduceSub, reduceCtorEq, List.reduceReplicate, ← List.map_take, ← List.map_drop]
    refine callI_lend1 (le1 _ hbn) (frz_bung (ho6.app _)) rfl ?_
    cases hn2 : (standsS l == 2)
    case' true => simp -dsimp -implicitDefEqProofs only [hn2, hb27, d1, d2, d3, qq, Nat.reduceBEq, reduceIte, Nat.reduceAdd, Nat.reduceSub, Nat.reduceLeDiff, Nat.reduceLT, Nat.reduceMul, Nat.reduceEqDiff, Int.reduceEq, Int.reduceBEq, Int.reduceBNe, Int.reduceLT, Int.reduceLE, Int.reduceGT, Int.reduceGE, Int.reduceNeg, Int.reduceAdd, Int.reduceSub, reduceCtorEq, List.reduceReplicate, ← List.map_take, ← List.map_drop]
    case' false =>
      have hne : (standsS (l.set i t) == standsS l) = true := by
        rcases nst with h | h
        · rw [h] at hn2; cases hn2
        · rw [h]; simp
      simp -dsimp -implicitDefEqProofs only [hn2, hne, hb27, d1, d2, d3, qq, Nat.reduceBEq, reduceIte, Nat.reduceAdd, Nat.reduceSub, Nat.reduceLeDiff, Nat.reduceLT, Nat.reduceMul, Nat.reduceEqDiff, Int.reduceEq, Int.reduceBEq, Int.reduceBNe, Int.reduceLT, Int.reduceLE, Int.reduceGT, Int.reduceGE, Int.reduceNeg, Int.reduceAdd, Int.reduceSub, reduceCtorEq, List.reduceReplicate, ← List.map_take, ← List.map_drop]
    all_goals exact Ends.plain rfl rfl rfl
end Go.Sh.C3
end
section
namespace Go.Sh
open Go.Proofs Go.Sort Go.Shelf Go.RowKit Go.Lib
variable {P : Program} {ρ : Ren}
theorem sortsI_of (L : SlLaysF.n6 P ρ) (hf : isFn P (ρ.f 6)) : SortsI P (ρ.f 6) :=
  ⟨hf, fun p cap fv w => AnyF.slices_SortFunc_none { L with } p cap fv w, fun enc h1 cf hO g cb blk off cap d w eg hcmp hH hblk hsz hT => Any.slices_SortFunc_total L enc h1 cf hO g cb blk off cap d w eg hcmp hH hblk hsz hT⟩
end Go.Sh
end
section
namespace Go.Proofs
open Go.Shelf
def Try.sortInt_ren : Go.Shelf.Ren := ⟨fun | 6 => 133 | 15 => 148 | 14 => 147 | 28 => 158 | 29 => 159 | 20 => 150 | 21 => 151 | 22 => 152 | 23 => 153 | 24 => 154 | 25 => 155 | 26 => 156 | 27 => 157 | 46 => 160 | 47 => 161 | 48 => 162 | 49 => 163 | 50 => 164 | 57 => 165 | n => n, fun | 22 => 38 | 24 => 3 | 25 => 49 | 3 => 3 | 39 => 172 | 0 => 0 | 53 => 183 | 55 => 185 | 4 => 4 | 46 => 176 | 45 => 175 | 50 => 180 | 5 => 5 | 9 => 9 | 66 => 186 | 70 => 190 | 76 => 192 | 77 => 193 | n => n, fun | n => n⟩
theorem Try.sortInt : Go.Proofs.SlLaysF.n6 Try.prog Try.sortInt_ren := {
  mixed := by kernel_rfl
  f6 := ⟨Try.f133.name, by decide, Try.func133.trans (congrArg some (by kernel_rfl))⟩
  f14 := ⟨Try.f147.name, by decide, Try.func147.trans (congrArg some (by kernel_rfl))⟩
  f15 := Try.func148.trans (congrArg some (by kernel_rfl))
  f20 := ⟨Try.f150.name, by decide, Try.func150.trans (congrArg some (by kernel_rfl))⟩
  f21 := ⟨Try.f151.name, by decide, Try.func151.trans (congrArg some (by kernel_rfl))⟩
  f22 := ⟨Try.f152.name, by decide, Try.func152.trans (congrArg some (by kernel_rfl))⟩
  f23 := ⟨Try.f153.name, by decide, Try.func153.trans (congrArg some (by kernel_rfl))⟩
  f24 := ⟨Try.f154.name, by decide, Try.func154.trans (congrArg some (by kernel_rfl))⟩
  f25 := ⟨Try.f155.name, by decide, Try.func155.trans (congrArg some (by kernel_rfl))⟩
  f26 := ⟨Try.f156.name, by decide, Try.func156.trans (congrArg some (by kernel_rfl))⟩
  f27 := ⟨Try.f157.name, by decide, Try.func157.trans (congrArg some (by kernel_rfl))⟩
  f28 := Try.func158.trans (congrArg some (by kernel_rfl))
  f29 := Try.func159.trans (congrArg some (by kernel_rfl))
  f46 := ⟨Try.f160.name, by decide, Try.func160.trans (congrArg some (by kernel_rfl))⟩
  f47 := Try.func161.trans (congrArg some (by kernel_rfl))
  f48 := Try.func162.trans (congrArg some (by kernel_rfl))
  f49 := ⟨Try.f163.name, by decide, Try.func163.trans (congrArg some (by kernel_rfl))⟩
  f50 := ⟨Try.f164.name, by decide, Try.func164.trans (congrArg some (by kernel_rfl))⟩
  f57 := ⟨Try.f165.name, by decide, Try.func165.trans (congrArg some (by kernel_rfl))⟩
  t0 := Try.underlying0
  a0 := Try.isAgg0
  z0 := Try.sizeOf0
  v0 := Try.zeroValue0
  t3 := Try.underlying3
  a3 := Try.isAgg3
  z3 := Try.sizeOf3
  v3 := Try.zeroValue3
  t4 := Try.underlying4
  a4 := Try.isAgg4
  z4 := Try.sizeOf4
  v4 := Try.zeroValue4
  t5 := Try.underlying5
  a5 := Try.isAgg5
  z5 := Try.sizeOf5
  v5 := Try.zeroValue5
  t9 := Try.underlying9
  a9 := Try.isAgg9
  z9 := Try.sizeOf9
  v9 := Try.zeroValue9
  t22 := Try.underlying38
  a22 := Try.isAgg38
  z22 := Try.sizeOf38
  v22 := Try.zeroValue38
  a24 := Try.isAgg3
  z24 := Try.sizeOf3
  t25 := Try.underlying49
  a25 := Try.isAgg49
  z25 := Try.sizeOf49
  v25 := Try.zeroValue49
  t39 := Try.underlying172
  a39 := Try.isAgg172
  z39 := Try.sizeOf172
  v39 := Try.zeroValue172
  t45 := Try.underlying175
  a45 := Try.isAgg175
  z45 := Try.sizeOf175
  v45 := Try.zeroValue175
  t46 := Try.underlying176
  a46 := Try.isAgg176
  z46 := Try.sizeOf176
  v46 := Try.zeroValue176
  t50 := Try.underlying180
  a50 := Try.isAgg180
  z50 := Try.sizeOf180
  v50 := Try.zeroValue180
  t53 := Try.underlying183
  a53 := Try.isAgg183
  z53 := Try.sizeOf183
  v53 := Try.zeroValue183
  t55 := Try.underlying185
  a55 := Try.isAgg185
  z55 := Try.sizeOf185
  v55 := Try.zeroValue185
  t66 := Try.underlying186
  a66 := Try.isAgg186
  z66 := Try.sizeOf186
  v66 := Try.zeroValue186
  t70 := Try.underlying190
  a70 := Try.isAgg190
  z70 := Try.sizeOf190
  v70 := Try.zeroValue190
  t76 := Try.underlying192
  a76 := Try.isAgg192
  z76 := Try.sizeOf192
  v76 := Try.zeroValue192
  t77 := Try.underlying193
  a77 := Try.isAgg193
  z77 := Try.sizeOf193
  v77 := Try.zeroValue193 }
end Go.Proofs
end
section
namespace Go.Sh.C3
open Go.Sh Go.Proofs
set_option maxRecDepth 100000
set_option linter.unusedVariables false
theorem mixed : Try.prog.follows .mixedOrders = true := by kernel_rfl
theorem low_4 : lowF Try.prog 4 = some (242, [.tmp 6], (ic_potbanklaw03_BungWithout 19 23 24 25 26 27 29 28).erase) := by kernel_rfl
theorem low_19 : lowF Try.prog 19 = some (146, [.tmp 0], (ic_potbanklaw03_sane 75 59 32 24 26 53 20 39 22 40).erase) := by kernel_rfl
theorem low_75 : lowF Try.prog 75 = some (14, [.tmp 0], (ic_potbanklaw03_example).erase) := by kernel_rfl
theorem c_C_example_75 : C_example Try.prog 75 := ok_example mixed low_75
theorem low_59 : lowF Try.prog 59 = some (53, [.cell 6 (some 3), .tmp 7], (ic_bung_Set 110 94 111 112).erase) := by kernel_rfl
theorem low_110 : lowF Try.prog 110 = some (5, [.tmp 2], (ic_bung_isWad 139).erase) := by kernel_rfl
theorem low_139 : lowF Try.prog 139 = some (24, [.tmp 6], (ic_bung_isRange).erase) := by kernel_rfl
theorem c_C_isRange_139 : C_isRange Try.prog 139 := ok_isRange mixed low_139
theorem c_C_isWad_110 : C_isWad Try.prog 110 := ok_isWad mixed low_110 c_C_isRange_139
theorem low_94 : lowF Try.prog 94 = some (29, [.tmp 2], (ic_bung_isList 100).erase) := by kernel_rfl
theorem low_100 : lowF Try.prog 100 = some (26, [.tmp 2], (ic_bung_isSaggar 111 139).erase) := by kernel_rfl
theorem low_111 : lowF Try.prog 111 = some (15, [.tmp 6], (ic_bung_within).erase) := by kernel_rfl
theorem c_C_within_111 : C_within Try.prog 111 := ok_within mixed low_111
theorem c_C_isSaggar_100 : C_isSaggar Try.prog 100 := ok_isSaggar mixed low_100 c_C_within_111 c_C_isRange_139
theorem c_C_isList_94 : C_isList Try.prog 94 := ok_isList mixed low_94 c_C_isSaggar_100
theorem low_112 : lowF Try.prog 112 = some (23, [.tmp 4], (ic_bung_stacked).erase) := by kernel_rfl
theorem c_C_stacked_112 : C_stacked Try.prog 112 := ok_stacked mixed low_112
theorem c_C_Set_59 : C_Set Try.prog 59 := ok_Set mixed low_59 c_C_isWad_110 c_C_isList_94 c_C_within_111 c_C_stacked_112
theorem low_32 : lowF Try.prog 32 = some (10, [.tmp 2, .tmp 3], (ic_bung_Loads 80 88).erase) := by kernel_rfl
theorem low_80 : lowF Try.prog 80 = some (17, [.tmp 2], (ic_bung_isBung 110 94).erase) := by kernel_rfl
theorem c_C_isBung_80 : C_isBung Try.prog 80 := ok_isBung mixed low_80 c_C_isWad_110 c_C_isList_94
theorem low_88 : lowF Try.prog 88 = some (18, [.tmp 2], (ic_bung_loads 130).erase) := by kernel_rfl
theorem low_130 : lowF Try.prog 130 = some (4, [.tmp 2], (ic_bung_down 145).erase) := by kernel_rfl
theorem low_145 : lowF Try.prog 145 = some (25, [], (ic_bung_down_1 129).erase) := by kernel_rfl
theorem low_129 : lowF Try.prog 129 = some (26, [.cell 2 (some 2)], (ic_bung_sum).erase) := by kernel_rfl
theorem c_C_sum_129 : C_sum Try.prog 129 := ok_sum mixed low_129
theorem c_C_down_130 : C_down Try.prog 130 := ok_down mixed low_130 low_145 c_C_sum_129
theorem c_C_loads_88 : C_loads Try.prog 88 := ok_loads mixed low_88 c_C_down_130
theorem c_C_Loads_32 : C_Loads Try.prog 32 := ok_Loads mixed low_32 c_C_isBung_80 c_C_loads_88
theorem low_24 : lowF Try.prog 24 = some (11, [.tmp 2, .tmp 3], (ic_bung_Stands 80 82 81).erase) := by kernel_rfl
theorem low_82 : lowF Try.prog 82 = some (26, [.tmp 2], (ic_bung_courses 88 128).erase) := by kernel_rfl
theorem low_128 : lowF Try.prog 128 = some (17, [.tmp 4], (ic_bung_answer).erase) := by kernel_rfl
theorem c_C_answer_128 : C_answer Try.prog 128 := ok_answer mixed low_128
theorem c_C_courses_82 : C_courses Try.prog 82 := ok_courses mixed low_82 c_C_loads_88 c_C_answer_128
theorem low_81 : lowF Try.prog 81 = some (9, [.tmp 2], (ic_bung_all 127).erase) := by kernel_rfl
theorem low_127 : lowF Try.prog 127 = some (9, [.tmp 4], (ic_slices_Contains_Sint_int 144).erase) := by kernel_rfl
theorem low_144 : lowF Try.prog 144 = some (19, [.tmp 4], (ic_slices_Index_Sint_int).erase) := by kernel_rfl
theorem c_C_Index_144 : C_Index Try.prog 144 := ok_Index mixed low_144
theorem c_C_Contains_127 : C_Contains Try.prog 127 := ok_Contains mixed low_127 c_C_Index_144
theorem c_C_all_81 : C_all Try.prog 81 := ok_all mixed low_81 c_C_Contains_127
theorem c_C_Stands_24 : C_Stands Try.prog 24 := ok_Stands mixed low_24 c_C_isBung_80 c_C_courses_82 c_C_all_81
theorem low_26 : lowF Try.prog 26 = some (9, [.tmp 2, .tmp 3], (ic_bung_Lean 80 84).erase) := by kernel_rfl
theorem low_84 : lowF Try.prog 84 = some (41, [.tmp 2], (ic_bung_lean).erase) := by kernel_rfl
theorem c_C_lean_84 : C_lean Try.prog 84 := ok_lean mixed low_84
theorem c_C_Lean_26 : C_Lean Try.prog 26 := ok_Lean mixed low_26 c_C_isBung_80 c_C_lean_84
theorem low_53 : lowF Try.prog 53 = some (55, [.cell 2 (some 3), .tmp 3], (ic_bung_Breaks 80 82).erase) := by kernel_rfl
theorem c_C_Breaks_53 : C_Breaks Try.prog 53 := ok_Breaks mixed low_53 c_C_isBung_80 c_C_courses_82
theorem low_20 : lowF Try.prog 20 = some (45, [.tmp 6, .tmp 7], (ic_bung_Fewest 76 77).erase) := by kernel_rfl
theorem low_76 : lowF Try.prog 76 = some (19, [.tmp 6], (ic_bung_asked 110 94 85).erase) := by kernel_rfl
theorem low_85 : lowF Try.prog 85 = some (11, [.tmp 2], (ic_bung_isSpot 111).erase) := by kernel_rfl
theorem c_C_isSpot_85 : C_isSpot Try.prog 85 := ok_isSpot mixed low_85 c_C_within_111
theorem c_C_asked_76 : C_asked Try.prog 76 := ok_asked mixed low_76 c_C_isWad_110 c_C_isList_94 c_C_isSpot_85
theorem low_77 : lowF Try.prog 77 = some (69, [.tmp 8], (ic_bung_packer_pack 124 125 126 77).erase) := by kernel_rfl
theorem low_124 : lowF Try.prog 124 = some (8, [.tmp 2], (ic_slices_Clone_SSint_Sint).erase) := by kernel_rfl
theorem c_C_CloneR_124 : C_CloneR Try.prog 124 := ok_CloneR mixed low_124
theorem low_125 : lowF Try.prog 125 = some (8, [.tmp 2], (ic_slices_Clone_Sint_int).erase) := by kernel_rfl
theorem c_C_CloneI_125 : C_CloneI Try.prog 125 := ok_CloneI mixed low_125
theorem low_126 : lowF Try.prog 126 = some (36, [.tmp 4], (ic_bung_packer_known 107).erase) := by kernel_rfl
theorem low_107 : lowF Try.prog 107 = some (19, [.tmp 4], (ic_bung_packer_do 95 112 86).erase) := by kernel_rfl
theorem low_95 : lowF Try.prog 95 = some (14, [.tmp 4], (ic_bung_rule 132 125 134 133).erase) := by kernel_rfl
theorem isFn_134 : isFn Try.prog 134 := ⟨_, Try.func134, by kernel_rfl, by kernel_rfl⟩
theorem low_132 : lowF Try.prog 132 = some (17, [.tmp 3], (ic_bung_rule_1).erase) := by kernel_rfl
theorem c_C_strong_132 : C_strong Try.prog 132 := ok_strong mixed low_132
theorem low_134 : lowF Try.prog 134 = some (27, [.tmp 6], (ic_bung_rule_2 136 135).erase) := by kernel_rfl
theorem low_136 : lowF Try.prog 136 = some (20, [.tmp 4], (ic_cmp_Compare_int 149).erase) := by kernel_rfl
theorem low_149 : lowF Try.prog 149 = some (6, [.tmp 2], (ic_cmp_isNaN_int).erase) := by kernel_rfl
theorem c_C_isNaN_149 : C_isNaN Try.prog 149 := ok_isNaN mixed low_149
theorem c_C_Compare_136 : C_Compare Try.prog 136 := ok_Compare mixed low_136 c_C_isNaN_149
theorem low_135 : lowF Try.prog 135 = some (18, [.tmp 2], (ic_cmp_Or_int).erase) := by kernel_rfl
theorem c_C_Or_135 : C_Or Try.prog 135 := ok_Or mixed low_135
theorem c_C_order_134_132 : C_order Try.prog 134 132 := ok_order mixed low_134 c_C_Compare_136 c_C_Or_135 c_C_strong_132
theorem isFn_133 : isFn Try.prog 133 := ⟨_, Try.func133, by kernel_rfl, by kernel_rfl⟩
theorem c_C_rule_95 : C_rule Try.prog 95 := ok_rule mixed low_95 isFn_134 c_C_strong_132 c_C_CloneI_125 c_C_order_134_132 (sortsI_of Try.sortInt isFn_133)
theorem low_86 : lowF Try.prog 86 = some (40, [.tmp 4], (ic_bung_fits 83 82 81 84).erase) := by kernel_rfl
theorem low_83 : lowF Try.prog 83 = some (29, [.cell 2 (some 2)], (ic_bung_height 129).erase) := by kernel_rfl
theorem c_C_height_83 : C_height Try.prog 83 := ok_height mixed low_83 c_C_sum_129
theorem c_C_fits_86 : C_fits Try.prog 86 := ok_fits mixed low_86 c_C_height_83 c_C_courses_82 c_C_all_81 c_C_lean_84
theorem c_C_do_107 : C_do Try.prog 107 := ok_do mixed low_107 c_C_rule_95 c_C_stacked_112 c_C_fits_86
theorem c_C_known_126 : C_known Try.prog 126 := ok_known' mixed low_126 c_C_do_107
theorem c_C_pack_77 : C_pack Try.prog 77 := ok_pack mixed low_77 c_C_CloneR_124 c_C_CloneI_125 c_C_known_126
theorem c_C_Fewest_20 : C_Fewest Try.prog 20 := ok_Fewest mixed low_20 c_C_asked_76 c_C_pack_77
theorem low_39 : lowF Try.prog 39 = some (31, [.tmp 4], (ic_potbankref03_SameRanges).erase) := by kernel_rfl
theorem c_C_SameRanges_39 : C_SameRanges Try.prog 39 := ok_SameRanges mixed low_39
theorem low_22 : lowF Try.prog 22 = some (31, [.tmp 4], (ic_potbankref03_SameParts 40).erase) := by kernel_rfl
theorem low_40 : lowF Try.prog 40 = some (26, [.tmp 4], (ic_potbankref01_Same).erase) := by kernel_rfl
theorem c_C_Same_40 : C_Same Try.prog 40 := ok_Same mixed low_40
theorem c_C_SameParts_22 : C_SameParts Try.prog 22 := ok_SameParts mixed low_22 c_C_Same_40
theorem c_C_sane_19 : C_sane Try.prog 19 := ok_sane mixed low_19 c_C_example_75 c_C_Set_59 c_C_Loads_32 c_C_Stands_24 c_C_Lean_26 c_C_Breaks_53 c_C_Fewest_20 c_C_SameRanges_39 c_C_SameParts_22 c_C_Same_40
theorem low_23 : lowF Try.prog 23 = some (45, [.cell 6 (some 3)], (ic_potbanklaw03_stack 61 62 74).erase) := by kernel_rfl
theorem low_61 : lowF Try.prog 61 = some (72, [.tmp 4], (ic_potbankref03_Made 27).erase) := by kernel_rfl
theorem low_27 : lowF Try.prog 27 = some (12, [.tmp 4], (ic_potbankref03_Mod).erase) := by kernel_rfl
theorem c_C_Mod_27 : C_Mod Try.prog 27 := ok_Mod mixed low_27
theorem c_C_Made_61 : C_Made Try.prog 61 := ok_Made mixed low_61 c_C_Mod_27
theorem low_62 : lowF Try.prog 62 = some (14, [.cell 2 (some 2)], (ic_potbankref03_Wad 27).erase) := by kernel_rfl
theorem c_C_Wad_62 : C_Wad Try.prog 62 := ok_Wad mixed low_62 c_C_Mod_27
theorem low_74 : lowF Try.prog 74 = some (55, [.tmp 4], (ic_potbankref03_Shuffled 27).erase) := by kernel_rfl
theorem c_C_Shuffled_74 : C_Shuffled Try.prog 74 := ok_Shuffled mixed low_74 c_C_Mod_27
theorem c_C_stack_23 : C_stack Try.prog 23 := ok_stack mixed low_23 c_C_Made_61 c_C_Wad_62 c_C_Shuffled_74
theorem low_25 : lowF Try.prog 25 = some (10, [.cell 2 (some 2), .tmp 3], (ic_bung_Height 80 83).erase) := by kernel_rfl
theorem c_C_Height_25 : C_Height Try.prog 25 := ok_Height mixed low_25 c_C_isBung_80 c_C_height_83
theorem low_29 : lowF Try.prog 29 = some (15, [.tmp 4], (ic_potbanklaw03_at).erase) := by kernel_rfl
theorem c_C_at_29 : C_at Try.prog 29 := ok_at mixed low_29
theorem low_28 : lowF Try.prog 28 = some (16, [.tmp 4], (ic_potbanklaw03_one 27).erase) := by kernel_rfl
theorem c_C_one_28 : C_one Try.prog 28 := ok_one mixed low_28 c_C_Mod_27
theorem c_L_BungWithout_4 : L_BungWithout Try.prog 4 := ok_BungWithout mixed low_4 c_C_sane_19 c_C_stack_23 c_C_Stands_24 c_C_Height_25 c_C_Lean_26 c_C_Mod_27 c_C_at_29 c_C_one_28
theorem isFn_4 : isFn Try.prog 4 := ⟨_, Try.func4, by kernel_rfl, by kernel_rfl⟩
end Go.Sh.C3
end
