/- The calculus over shadows, and contracts: B3A, B3B, B3C, B3D, B3E, B3F, B3G, B3H, B3I, B3J, ShSo, B3K, B3L, B3M, B3N, B3O, B3P, B3Q, B3Qa, B3R, B3S, B3T, B3U, B3V. -/
import Derived.Test.YthaiheabibapiaaK2
import Derived.Shelf.SlSortCmp.Kit1
set_option linter.all false
section
namespace Go.Sh.C3
open Go.Sh
set_option maxRecDepth 10000
set_option linter.unusedVariables false
set_option linter.unusedSimpArgs false
variable {P : Program}
def ic_bung_within : IC := .seq (.reg [⟨some 6, none, .mov (.c (.b false))⟩] [0, 1, 2]) (.seq (.reg [⟨some 7, none, .mov (.t 1)⟩, ⟨some 8, none, .mov (.t 0)⟩, ⟨some 9, none, .bin .leq (.t 7) (.t 8)⟩, ⟨some 10, none, .mov (.t 9)⟩, ⟨some 11, some (10, true), .mov (.t 0)⟩, ⟨some 12, some (10, true), .mov (.t 2)⟩, ⟨some 13, some (10, true), .bin .leq (.t 11) (.t 12)⟩, ⟨some 14, none, .pick (.t 10) (.t 13) (.c (.b false))⟩, ⟨some 6, none, .mov (.t 14)⟩] [6]) (.ret))
abbrev Low_bung_within (P : Program) (f : Nat) : Prop := lowF P f = some (15, [.tmp 6], (ic_bung_within).erase)
def ic_bung_isRange : IC := .seq (.reg [⟨some 3, none, .box (.t 0)⟩, ⟨some 6, none, .mov (.c (.b false))⟩] [1, 2, 3]) (.seq (.reg [⟨some 7, none, .mov (.t 1)⟩, ⟨some 8, none, .fad 0 (.t 3)⟩, ⟨some 9, none, .ld none (.t 8)⟩, ⟨some 10, none, .bin .leq (.t 7) (.t 9)⟩, ⟨some 11, none, .mov (.t 10)⟩, ⟨some 12, some (11, true), .fad 0 (.t 3)⟩, ⟨some 13, some (11, true), .ld none (.t 12)⟩, ⟨some 14, some (11, true), .fad 1 (.t 3)⟩, ⟨some 15, some (11, true), .ld none (.t 14)⟩, ⟨some 16, some (11, true), .bin .leq (.t 13) (.t 15)⟩, ⟨some 17, none, .pick (.t 11) (.t 16) (.c (.b false))⟩, ⟨some 18, none, .mov (.t 17)⟩, ⟨some 19, some (18, true), .fad 1 (.t 3)⟩, ⟨some 20, some (18, true), .ld none (.t 19)⟩, ⟨some 21, some (18, true), .mov (.t 2)⟩, ⟨some 22, some (18, true), .bin .leq (.t 20) (.t 21)⟩, ⟨some 23, none, .pick (.t 18) (.t 22) (.c (.b false))⟩, ⟨some 6, none, .mov (.t 23)⟩] [6]) (.ret))
abbrev Low_bung_isRange (P : Program) (f : Nat) : Prop := lowF P f = some (24, [.tmp 6], (ic_bung_isRange).erase)
def ic_bung_isSaggar (f0 f1 : Nat) : IC := .seq (.reg [⟨some 1, none, .box (.t 0)⟩, ⟨some 2, none, .mov (.c (.b false))⟩] [1]) (.seq (.reg [⟨some 3, none, .fad 0 (.t 1)⟩, ⟨some 4, none, .ld none (.t 3)⟩, ⟨some 5, none, .calv (.c (.fn (.func f0) [] [])) [.t 4, .c (.i .i64 (1)), .c (.i .i64 (999))]⟩, ⟨some 6, none, .mov (.t 5)⟩, ⟨some 7, some (6, true), .fad 1 (.t 1)⟩, ⟨some 8, some (6, true), .ld (some 2) (.t 7)⟩, ⟨some 9, some (6, true), .calv (.c (.fn (.func f1) [] [])) [.t 8, .c (.i .i64 (0)), .c (.i .i64 (10000000))]⟩, ⟨some 10, none, .pick (.t 6) (.t 9) (.c (.b false))⟩, ⟨some 11, none, .mov (.t 10)⟩, ⟨some 12, some (11, true), .fad 3 (.t 1)⟩, ⟨some 13, some (11, true), .ld (some 2) (.t 12)⟩, ⟨some 14, some (11, true), .calv (.c (.fn (.func f1) [] [])) [.t 13, .c (.i .i64 (0)), .c (.i .i64 (10000000))]⟩, ⟨some 15, none, .pick (.t 11) (.t 14) (.c (.b false))⟩, ⟨some 16, none, .mov (.t 15)⟩, ⟨some 17, some (16, true), .fad 5 (.t 1)⟩, ⟨some 18, some (16, true), .ld (some 2) (.t 17)⟩, ⟨some 19, some (16, true), .calv (.c (.fn (.func f1) [] [])) [.t 18, .c (.i .i64 (1)), .c (.i .i64 (10000))]⟩, ⟨some 20, none, .pick (.t 16) (.t 19) (.c (.b false))⟩, ⟨some 21, none, .mov (.t 20)⟩, ⟨some 22, some (21, true), .fad 7 (.t 1)⟩, ⟨some 23, some (21, true), .ld none (.t 22)⟩, ⟨some 24, some (21, true), .calv (.c (.fn (.func f0) [] [])) [.t 23, .c (.i .i64 (0)), .c (.i .i64 (200))]⟩, ⟨some 25, none, .pick (.t 21) (.t 24) (.c (.b false))⟩, ⟨some 2, none, .mov (.t 25)⟩] [2]) (.ret))
abbrev Low_bung_isSaggar (P : Program) (f f0 f1 : Nat) : Prop := lowF P f = some (26, [.tmp 2], (ic_bung_isSaggar f0 f1).erase)
def ic_bung_isList (f0 : Nat) : IC := .seq (.reg [⟨some 2, none, .mov (.c (.b false))⟩] [0]) (.seq (.seq (.reg [⟨some 6, none, .mov (.t 0)⟩, ⟨some 7, none, .len false (.t 6)⟩, ⟨some 8, none, .bin .gtr (.t 7) (.c (.i .i64 (30)))⟩] [0, 8]) (.cond (.t 8) (.seq (.reg [⟨some 2, none, .mov (.c (.b false))⟩] [2]) (.ret)) (.skip))) (.seq (.reg [⟨some 9, none, .mkm⟩, ⟨some 3, none, .mov (.t 9)⟩] [0, 3]) (.seq (.seq (.reg [⟨some 10, none, .mov (.t 0)⟩, ⟨some 11, none, .len false (.t 10)⟩, ⟨some 12, none, .mov (.c (.i .i64 (0)))⟩] [3, 10, 11, 12]) (.block 0 (.loop (.seq (.reg [⟨some 13, none, .bin .lss (.t 12) (.t 11)⟩] [3, 10, 11, 12, 13]) (.seq (.cond (.t 13) (.skip) (.exit 0)) (.seq (.block 1 (.seq (.reg [⟨some 14, none, .ixs 8 (.t 10) (.t 12)⟩, ⟨some 15, none, .ld (some 8) (.t 14)⟩, ⟨some 5, none, .alloc [.i .i64 (0), .i .i64 (0), .i .i64 (0), .i .i64 (0), .i .i64 (0), .i .i64 (0), .i .i64 (0), .i .i64 (0)]⟩, ⟨none, none, .st 8 (.t 5) (.t 15)⟩] [3, 5, 10, 11, 12]) (.seq (.seq (.reg [⟨some 16, none, .ld (some 8) (.t 5)⟩, ⟨some 17, none, .calv (.c (.fn (.func f0) [] [])) [.t 16]⟩, ⟨some 18, none, .un .not (.t 17)⟩, ⟨some 19, none, .mov (.t 18)⟩, ⟨some 20, some (19, false), .mov (.t 3)⟩, ⟨some 21, some (19, false), .fad 0 (.t 5)⟩, ⟨some 22, some (19, false), .ld none (.t 21)⟩, ⟨some 23, some (19, false), .lk 0 [] (.b false) false (.t 20) (.t 22)⟩, ⟨some 24, none, .pick (.t 19) (.c (.b true)) (.t 23)⟩] [3, 5, 10, 11, 12, 24]) (.cond (.t 24) (.seq (.reg [⟨some 2, none, .mov (.c (.b false))⟩] [2]) (.ret)) (.skip))) (.reg [⟨some 25, none, .mov (.t 3)⟩, ⟨some 26, none, .fad 0 (.t 5)⟩, ⟨some 27, none, .ld none (.t 26)⟩, ⟨none, none, .mup 0 [] (.t 25) (.t 27) (.c (.b true))⟩] [3, 10, 11, 12])))) (.reg [⟨some 28, none, .bin .add (.t 12) (.c (.i .i64 (1)))⟩, ⟨some 12, none, .mov (.t 28)⟩] [3, 10, 11, 12]))))))) (.seq (.reg [⟨some 2, none, .mov (.c (.b true))⟩] [2]) (.ret)))))
abbrev Low_bung_isList (P : Program) (f f0 : Nat) : Prop := lowF P f = some (29, [.tmp 2], (ic_bung_isList f0).erase)

structure Rg where
  lo : Int
  hi : Int
  deriving DecidableEq, Inhabited
abbrev Rg.c (r : Rg) : List V := [.i .i64 r.lo, .i .i64 r.hi]
structure Sag where
  id : Int
  w : Rg
  b : Rg
  h : Rg
  tilt : Int
  deriving DecidableEq, Inhabited
abbrev Sag.c (s : Sag) : List V := [.i .i64 s.id, .i .i64 s.w.lo, .i .i64 s.w.hi, .i .i64 s.b.lo, .i .i64 s.b.hi, .i .i64 s.h.lo, .i .i64 s.h.hi, .i .i64 s.tilt]

def inR (n lo hi : Int) : Bool := decide (lo ≤ n) && decide (n ≤ hi)
def rgB (r : Rg) (lo hi : Int) : Bool := decide (lo ≤ r.lo) && decide (r.lo ≤ r.hi) && decide (r.hi ≤ hi)
def sagB (s : Sag) : Bool := inR s.id 1 999 && rgB s.w 0 10000000 && rgB s.b 0 10000000 && rgB s.h 1 10000 && inR s.tilt 0 200
def listB (l : List Sag) : Bool := decide (l.length ≤ 30) && l.all sagB && decide ((l.map (·.id)).Nodup)

def C_within (P : Program) (f : Nat) : Prop := ∀ n lo hi : Int, Snd P f [.i .i64 n, .i .i64 lo, .i .i64 hi] [] (.b (inR n lo hi)) []
theorem ok_within (hm : P.follows .mixedOrders = true) {f : Nat} (low : Low_bung_within P f) : C_within P f := by
  intro n lo hi
  refine snd_ic hm low (by simp) ?_
  unfold ic_bung_within
  simp -dsimp -implicitDefEqProofs only [qq, Nat.reduceBEq, reduceIte, Nat.reduceAdd, Nat.reduceSub, Nat.reduceLeDiff, Nat.reduceLT, Nat.reduceMul, Nat.reduceEqDiff, Int.reduceEq, Int.reduceBEq, Int.reduceBNe, Int.reduceLT, Int.reduceLE, Int.reduceGT, Int.reduceGE, Int.reduceNeg, Int.reduceAdd, Int.reduceSub, reduceCtorEq, List.reduceReplicate, ← List.map_take, ← List.map_drop]
  refine brG_of (fun h1 => ?_) (fun h1 => ?_) <;> simp -dsimp -implicitDefEqProofs only [h1, qq, Nat.reduceBEq, reduceIte, Nat.reduceAdd, Nat.reduceSub, Nat.reduceLeDiff, Nat.reduceLT, Nat.reduceMul, Nat.reduceEqDiff, Int.reduceEq, Int.reduceBEq, Int.reduceBNe, Int.reduceLT, Int.reduceLE, Int.reduceGT, Int.reduceGE, Int.reduceNeg, Int.reduceAdd, Int.reduceSub, reduceCtorEq, List.reduceReplicate, ← List.map_take, ← List.map_drop]
  all_goals exact Ends.plain rfl rfl (by simp [resV, inR, h1])

def C_isRange (P : Program) (f : Nat) : Prop := ∀ (r : Rg) (lo hi : Int), Snd P f [.agg r.c, .i .i64 lo, .i .i64 hi] [] (.b (rgB r lo hi)) []
theorem ok_isRange (hm : P.follows .mixedOrders = true) {f : Nat} (low : Low_bung_isRange P f) : C_isRange P f := by
  intro r lo hi
  refine snd_ic hm low (by simp) ?_
  unfold ic_bung_isRange
  simp -dsimp -implicitDefEqProofs only [qq, Nat.reduceBEq, reduceIte, Nat.reduceAdd, Nat.reduceSub, Nat.reduceLeDiff, Nat.reduceLT, Nat.reduceMul, Nat.reduceEqDiff, Int.reduceEq, Int.reduceBEq, Int.reduceBNe, Int.reduceLT, Int.reduceLE, Int.reduceGT, Int.reduceGE, Int.reduceNeg, Int.reduceAdd, Int.reduceSub, reduceCtorEq, List.reduceReplicate, ← List.map_take, ← List.map_drop]
  repeat' (first | (refine brG_of (fun h => ?_) (fun h => ?_) <;> simp -dsimp -implicitDefEqProofs only [h, qq, Nat.reduceBEq, reduceIte, Nat.reduceAdd, Nat.reduceSub, Nat.reduceLeDiff, Nat.reduceLT, Nat.reduceMul, Nat.reduceEqDiff, Int.reduceEq, Int.reduceBEq, Int.reduceBNe, Int.reduceLT, Int.reduceLE, Int.reduceGT, Int.reduceGE, Int.reduceNeg, Int.reduceAdd, Int.reduceSub, reduceCtorEq, List.reduceReplicate, ← List.map_take, ← List.map_drop]))
  all_goals exact Ends.plain rfl rfl (by first | (simp_all [resV, rgB]; done) | (simp_all [resV, rgB]; omega) | (simp only [resV, rgB]; grind))

def C_isSaggar (P : Program) (f : Nat) : Prop := ∀ s : Sag, Snd P f [.agg s.c] [] (.b (sagB s)) []
theorem ok_isSaggar (hm : P.follows .mixedOrders = true) {f f0 f1 : Nat} (low : Low_bung_isSaggar P f f0 f1) (h0 : C_within P f0) (h1 : C_isRange P f1) : C_isSaggar P f := by
  intro s
  refine snd_ic hm low (by simp) ?_
  unfold ic_bung_isSaggar
  simp -dsimp -implicitDefEqProofs only [qq, Nat.reduceBEq, reduceIte, Nat.reduceAdd, Nat.reduceSub, Nat.reduceLeDiff, Nat.reduceLT, Nat.reduceMul, Nat.reduceEqDiff, Int.reduceEq, Int.reduceBEq, Int.reduceBNe, Int.reduceLT, Int.reduceLE, Int.reduceGT, Int.reduceGE, Int.reduceNeg, Int.reduceAdd, Int.reduceSub, reduceCtorEq, List.reduceReplicate, ← List.map_take, ← List.map_drop]
  repeat' (first | (refine brG_of (fun h => ?_) (fun h => ?_) <;> simp -dsimp -implicitDefEqProofs only [h, qq, Nat.reduceBEq, reduceIte, Nat.reduceAdd, Nat.reduceSub, Nat.reduceLeDiff, Nat.reduceLT, Nat.reduceMul, Nat.reduceEqDiff, Int.reduceEq, Int.reduceBEq, Int.reduceBNe, Int.reduceLT, Int.reduceLE, Int.reduceGT, Int.reduceGE, Int.reduceNeg, Int.reduceAdd, Int.reduceSub, reduceCtorEq, List.reduceReplicate, ← List.map_take, ← List.map_drop]) | (refine callI_pure (h0 _ _ _) rfl rfl ?_; simp -dsimp -implicitDefEqProofs only [qq, Nat.reduceBEq, reduceIte, Nat.reduceAdd, Nat.reduceSub, Nat.reduceLeDiff, Nat.reduceLT, Nat.reduceMul, Nat.reduceEqDiff, Int.reduceEq, Int.reduceBEq, Int.reduceBNe, Int.reduceLT, Int.reduceLE, Int.reduceGT, Int.reduceGE, Int.reduceNeg, Int.reduceAdd, Int.reduceSub, reduceCtorEq, List.reduceReplicate, ← List.map_take, ← List.map_drop]) | (refine callI_pure (h1 ⟨_, _⟩ _ _) rfl rfl ?_; simp -dsimp -implicitDefEqProofs only [qq, Nat.reduceBEq, reduceIte, Nat.reduceAdd, Nat.reduceSub, Nat.reduceLeDiff, Nat.reduceLT, Nat.reduceMul, Nat.reduceEqDiff, Int.reduceEq, Int.reduceBEq, Int.reduceBNe, Int.reduceLT, Int.reduceLE, Int.reduceGT, Int.reduceGE, Int.reduceNeg, Int.reduceAdd, Int.reduceSub, reduceCtorEq, List.reduceReplicate, ← List.map_take, ← List.map_drop]))
  all_goals exact Ends.plain rfl rfl (by first | (simp_all [resV, sagB]; done) | (simp_all [resV, sagB]; omega) | (simp only [resV, sagB]; grind))

def idMap (ids : List Int) : List (V × V) := ids.map fun n => (.i .i64 n, .b true)
theorem findK_ids (n : Int) : ∀ ids : List Int, findK 0 [] (.i .i64 n) (idMap ids) = some (if n ∈ ids then some (.b true) else none)
  | [] => rfl
  | m :: r => by
    simp only [idMap, List.map_cons, findK, eqK, eq1, if_true, List.mem_cons]
    by_cases h : n = m
    · simp [h]
    · simp only [beq_eq_false_iff_ne.2 h, h, false_or]; exact findK_ids n r
theorem updK_ids (n : Int) : ∀ ids : List Int, n ∉ ids → updK 0 [] (.i .i64 n) (.b true) (idMap ids) = some (idMap (ids ++ [n]))
  | [], _ => rfl
  | m :: r, h => by
    simp only [List.mem_cons, not_or] at h
    simp only [idMap, List.map_cons, updK, eqK, eq1, if_true, beq_eq_false_iff_ne.2 h.1]
    have := updK_ids n r h.2
    simp only [idMap] at this
    simp [this]

def C_isList (P : Program) (f : Nat) : Prop := ∀ l : List Sag, Snd P f [.fsl (l.map Sag.c)] [] (.b (listB l)) []
theorem ok_isList (hm : P.follows .mixedOrders = true) {f f0 : Nat} (low : Low_bung_isList P f f0) (h0 : C_isSaggar P f0) : C_isList P f := by
  intro l
  refine snd_ic hm low (by simp) ?_
  unfold ic_bung_isList
  simp -dsimp -implicitDefEqProofs only [qq, Nat.reduceBEq, reduceIte, Nat.reduceAdd, Nat.reduceSub, Nat.reduceLeDiff, Nat.reduceLT, Nat.reduceMul, Nat.reduceEqDiff, Int.reduceEq, Int.reduceBEq, Int.reduceBNe, Int.reduceLT, Int.reduceLE, Int.reduceGT, Int.reduceGE, Int.reduceNeg, Int.reduceAdd, Int.reduceSub, reduceCtorEq, List.reduceReplicate, ← List.map_take, ← List.map_drop]
  refine brG_of (fun h => ?_) (fun h => ?_) <;> simp -dsimp -implicitDefEqProofs only [h, qq, Nat.reduceBEq, reduceIte, Nat.reduceAdd, Nat.reduceSub, Nat.reduceLeDiff, Nat.reduceLT, Nat.reduceMul, Nat.reduceEqDiff, Int.reduceEq, Int.reduceBEq, Int.reduceBNe, Int.reduceLT, Int.reduceLE, Int.reduceGT, Int.reduceGE, Int.reduceNeg, Int.reduceAdd, Int.reduceSub, reduceCtorEq, List.reduceReplicate, ← List.map_take, ← List.map_drop]
  · exact Ends.plain rfl rfl (by simp [resV, listB]; intro h; simp at *; omega)
  have hl : l.length ≤ 30 := by simp at h; omega
  refine loopI_st (fun k : Nat => l.length - k) (fun k E H => k ≤ l.length ∧ (E = [(3, .rmp 0), (10, .fsl (l.map Sag.c)), (11, .i .i64 l.length), (12, .i .i64 k)] ∧ ∃ G, H = .mp (idMap ((l.take k).map (·.id))) :: G) ∧ (l.take k).all sagB = true ∧ ((l.take k).map (·.id)).Nodup) 0 ⟨by omega, ⟨rfl, [], rfl⟩, rfl, by simp⟩ ?_
  rintro k _ _ ⟨hk, ⟨rfl, G, rfl⟩, ha, hn⟩
  simp -dsimp -implicitDefEqProofs only [qq, Nat.reduceBEq, reduceIte, Nat.reduceAdd, Nat.reduceSub, Nat.reduceLeDiff, Nat.reduceLT, Nat.reduceMul, Nat.reduceEqDiff, Int.reduceEq, Int.reduceBEq, Int.reduceBNe, Int.reduceLT, Int.reduceLE, Int.reduceGT, Int.reduceGE, Int.reduceNeg, Int.reduceAdd, Int.reduceSub, reduceCtorEq, List.reduceReplicate, ← List.map_take, ← List.map_drop]
  refine brG_of (fun hlt => ?_) (fun hge => ?_) <;> simp -dsimp -implicitDefEqProofs only [qq, Nat.reduceBEq, reduceIte, Nat.reduceAdd, Nat.reduceSub, Nat.reduceLeDiff, Nat.reduceLT, Nat.reduceMul, Nat.reduceEqDiff, Int.reduceEq, Int.reduceBEq, Int.reduceBNe, Int.reduceLT, Int.reduceLE, Int.reduceGT, Int.reduceGE, Int.reduceNeg, Int.reduceAdd, Int.reduceSub, reduceCtorEq, List.reduceReplicate, ← List.map_take, ← List.map_drop]
  · have hlt' : k < l.length := by simpa using hlt
    obtain ⟨x, hx⟩ : ∃ x, l[k]? = some x := ⟨l[k], by simp [hlt']⟩
    have hwk : IntKind.i64.wrap ((k : Int) + 1) = ((k + 1 : Nat) : Int) := wrap_succ (by omega)
    have htk : l.take (k + 1) = l.take k ++ [x] := by rw [List.take_add_one, hx]; rfl
    simp -dsimp -implicitDefEqProofs only [hx, Sag.c, qq, Nat.reduceBEq, reduceIte, Nat.reduceAdd, Nat.reduceSub, Nat.reduceLeDiff, Nat.reduceLT, Nat.reduceMul, Nat.reduceEqDiff, Int.reduceEq, Int.reduceBEq, Int.reduceBNe, Int.reduceLT, Int.reduceLE, Int.reduceGT, Int.reduceGE, Int.reduceNeg, Int.reduceAdd, Int.reduceSub, reduceCtorEq, List.reduceReplicate, ← List.map_take, ← List.map_drop]
    refine callI_pure (h0 x) rfl rfl ?_
    simp -dsimp -implicitDefEqProofs only [qq, Nat.reduceBEq, reduceIte, Nat.reduceAdd, Nat.reduceSub, Nat.reduceLeDiff, Nat.reduceLT, Nat.reduceMul, Nat.reduceEqDiff, Int.reduceEq, Int.reduceBEq, Int.reduceBNe, Int.reduceLT, Int.reduceLE, Int.reduceGT, Int.reduceGE, Int.reduceNeg, Int.reduceAdd, Int.reduceSub, reduceCtorEq, List.reduceReplicate, ← List.map_take, ← List.map_drop]
    refine brG_of (fun hs => ?_) (fun hs => ?_)
    · simp -dsimp -implicitDefEqProofs only [hs, qq, Nat.reduceBEq, reduceIte, Nat.reduceAdd, Nat.reduceSub, Nat.reduceLeDiff, Nat.reduceLT, Nat.reduceMul, Nat.reduceEqDiff, Int.reduceEq, Int.reduceBEq, Int.reduceBNe, Int.reduceLT, Int.reduceLE, Int.reduceGT, Int.reduceGE, Int.reduceNeg, Int.reduceAdd, Int.reduceSub, reduceCtorEq, List.reduceReplicate, ← List.map_take, ← List.map_drop]
      refine Ends.plain rfl rfl ?_
      have hx' : sagB x = false := by simpa using hs
      have hm : x ∈ l := List.mem_of_getElem? hx
      simp only [resV, listB]
      rw [show l.all sagB = false from by simp; exact ⟨x, hm, hx'⟩]
      simp
    · have hx' : sagB x = true := by simpa using hs
      by_cases hid : x.id ∈ (l.take k).map (·.id)
      · simp -dsimp -implicitDefEqProofs only [hs, findK_ids, if_pos hid, qq, Nat.reduceBEq, reduceIte, Nat.reduceAdd, Nat.reduceSub, Nat.reduceLeDiff, Nat.reduceLT, Nat.reduceMul, Nat.reduceEqDiff, Int.reduceEq, Int.reduceBEq, Int.reduceBNe, Int.reduceLT, Int.reduceLE, Int.reduceGT, Int.reduceGE, Int.reduceNeg, Int.reduceAdd, Int.reduceSub, reduceCtorEq, List.reduceReplicate, ← List.map_take, ← List.map_drop]
        refine Ends.plain rfl rfl ?_
        simp only [resV, listB]
        rw [show decide ((l.map (·.id)).Nodup) = false from ?_]
        · simp
        · rw [decide_eq_false_iff_not]
          intro hnd
          rw [← List.take_append_drop k l, List.map_append, List.nodup_append] at hnd
          obtain ⟨y, hy, e⟩ := List.mem_map.1 hid
          exact hnd.2.2 _ hid x.id (List.mem_map.2 ⟨x, List.mem_of_getElem? (i := 0) (by rw [List.getElem?_drop]; simpa using hx), rfl⟩) rfl
      · simp -dsimp -implicitDefEqProofs only [hs, findK_ids, if_neg hid, updK_ids _ _ hid, hwk, qq, Nat.reduceBEq, reduceIte, Nat.reduceAdd, Nat.reduceSub, Nat.reduceLeDiff, Nat.reduceLT, Nat.reduceMul, Nat.reduceEqDiff, Int.reduceEq, Int.reduceBEq, Int.reduceBNe, Int.reduceLT, Int.reduceLE, Int.reduceGT, Int.reduceGE, Int.reduceNeg, Int.reduceAdd, Int.reduceSub, reduceCtorEq, List.reduceReplicate, ← List.map_take, ← List.map_drop]
        refine ⟨k + 1, by omega, by omega, ⟨rfl, ?_⟩, ?_, ?_⟩
        · rw [htk, List.map_append]; exact ⟨_, rfl⟩
        · rw [htk]; simp [List.all_append] at ha ⊢; exact ⟨ha, hx'⟩
        · rw [htk]; simp [List.nodup_append] at hn ⊢; exact ⟨hn, fun a ha e => by subst e; simp at hid; exact hid ha⟩
  · have hkl : k = l.length := by simp at hge; omega
    subst hkl
    refine Ends.plain rfl rfl ?_
    simp at ha hn
    simp [resV, listB, hl, ha, hn]
    exact ha
end Go.Sh.C3
end
section
namespace Go.Sh.C3
open Go.Sh
set_option maxRecDepth 10000
set_option linter.unusedVariables false
set_option linter.unusedSimpArgs false
variable {P : Program}
def ic_bung_sum : IC := .seq (.reg [⟨some 2, none, .alloc [.i .i64 (0), .i .i64 (0)]⟩] [0, 2]) (.seq (.reg [⟨some 3, none, .alloc [.i .i64 (0), .i .i64 (0)]⟩] [0, 2, 3]) (.seq (.seq (.reg [⟨some 6, none, .mov (.t 0)⟩, ⟨some 7, none, .len false (.t 6)⟩, ⟨some 8, none, .mov (.c (.i .i64 (0)))⟩] [2, 3, 6, 7, 8]) (.block 0 (.loop (.seq (.reg [⟨some 9, none, .bin .lss (.t 8) (.t 7)⟩] [2, 3, 6, 7, 8, 9]) (.seq (.cond (.t 9) (.skip) (.exit 0)) (.seq (.block 1 (.seq (.reg [⟨some 10, none, .ixs 2 (.t 6) (.t 8)⟩, ⟨some 11, none, .ld (some 2) (.t 10)⟩, ⟨some 5, none, .alloc [.i .i64 (0), .i .i64 (0)]⟩, ⟨none, none, .st 2 (.t 5) (.t 11)⟩] [2, 3, 5, 6, 7, 8]) (.seq (.reg [⟨some 12, none, .fad 0 (.t 3)⟩, ⟨some 13, none, .ld none (.t 12)⟩, ⟨some 14, none, .fad 0 (.t 5)⟩, ⟨some 15, none, .ld none (.t 14)⟩, ⟨some 16, none, .bin .add (.t 13) (.t 15)⟩, ⟨some 17, none, .fad 0 (.t 3)⟩, ⟨none, none, .st 1 (.t 17) (.t 16)⟩] [2, 3, 5, 6, 7, 8]) (.reg [⟨some 18, none, .fad 1 (.t 3)⟩, ⟨some 19, none, .ld none (.t 18)⟩, ⟨some 20, none, .fad 1 (.t 5)⟩, ⟨some 21, none, .ld none (.t 20)⟩, ⟨some 22, none, .bin .add (.t 19) (.t 21)⟩, ⟨some 23, none, .fad 1 (.t 3)⟩, ⟨none, none, .st 1 (.t 23) (.t 22)⟩] [2, 3, 6, 7, 8])))) (.reg [⟨some 24, none, .bin .add (.t 8) (.c (.i .i64 (1)))⟩, ⟨some 8, none, .mov (.t 24)⟩] [2, 3, 6, 7, 8]))))))) (.seq (.reg [⟨some 25, none, .ld (some 2) (.t 3)⟩, ⟨none, none, .st 2 (.t 2) (.t 25)⟩] [2]) (.ret))))
abbrev Low_bung_sum (P : Program) (f : Nat) : Prop := lowF P f = some (26, [.cell 2 (some 2)], (ic_bung_sum).erase)
def ic_bung_down (f0 : Nat) : IC := .seq (.reg [⟨some 1, none, .box (.t 0)⟩, ⟨some 2, none, .mov (.c (.nfn))⟩] [1]) (.seq (.reg [⟨some 3, none, .mkf (.func f0) [] [.t 1]⟩, ⟨some 2, none, .mov (.t 3)⟩] [2]) (.ret))
abbrev Low_bung_down (P : Program) (f f0 : Nat) : Prop := lowF P f = some (4, [.tmp 2], (ic_bung_down f0).erase)
def ic_bung_down_1 (f0 : Nat) : IC := .seq (.reg [⟨some 3, none, .alloc [.i .i64 (0), .i .i64 (0)]⟩] [0, 1, 3]) (.seq (.reg [⟨some 5, none, .ld none (.t 1)⟩, ⟨some 6, none, .len false (.t 5)⟩, ⟨some 7, none, .bin .sub (.t 6) (.c (.i .i64 (1)))⟩, ⟨some 4, none, .mov (.t 7)⟩] [0, 1, 3, 4]) (.block 0 (.loop (.seq (.seq (.reg [⟨some 8, none, .mov (.t 4)⟩, ⟨some 9, none, .bin .geq (.t 8) (.c (.i .i64 (0)))⟩] [0, 1, 3, 4, 9]) (.cond (.t 9) (.skip) (.exit 0))) (.seq (.block 1 (.seq (.seq (.reg [⟨some 12, none, .mov (.t 0)⟩, ⟨some 13, none, .mov (.t 4)⟩, ⟨some 14, none, .ld (some 2) (.t 3)⟩, ⟨some 15, none, .calv (.t 12) [.t 13, .t 14]⟩, ⟨some 16, none, .un .not (.t 15)⟩] [0, 1, 3, 4, 16]) (.cond (.t 16) (.ret) (.skip))) (.drg [(0, ⟨some 17, none, .ld (some 2) (.t 3)⟩), (0, ⟨some 18, none, .ld none (.t 1)⟩), (0, ⟨some 19, none, .mov (.t 4)⟩), (0, ⟨some 20, none, .ixs 8 (.t 18) (.t 19)⟩), (0, ⟨some 21, none, .fad 1 (.t 20)⟩), (0, ⟨some 22, none, .ld (some 2) (.t 21)⟩), (1, ⟨some 23, none, .bsl false 2 2 [.i .i64 (0), .i .i64 (0)] [(0, (.t 17)), (1, (.t 22))]⟩), (1, ⟨some 24, none, .calv (.c (.fn (.func f0) [] [])) [.t 23]⟩), (1, ⟨none, none, .st 2 (.t 3) (.t 24)⟩)] 6 [0, 1, 3, 4]))) (.reg [⟨some 10, none, .mov (.t 4)⟩, ⟨some 11, none, .bin .sub (.t 10) (.c (.i .i64 (1)))⟩, ⟨some 4, none, .mov (.t 11)⟩] [0, 1, 3, 4]))))))
abbrev Low_bung_down_1 (P : Program) (f f0 : Nat) : Prop := lowF P f = some (25, [], (ic_bung_down_1 f0).erase)
def ic_bung_loads (f0 : Nat) : IC := .seq (.reg [⟨some 2, none, .mov (.c (.nsl))⟩] [0]) (.seq (.reg [⟨some 6, none, .mov (.t 0)⟩, ⟨some 7, none, .len false (.t 6)⟩, ⟨some 8, none, .mks 2 16 [.i .i64 (0), .i .i64 (0)] (.t 7) (.t 7)⟩, ⟨some 3, none, .alloc [.nsl]⟩, ⟨none, none, .st 1 (.t 3) (.t 8)⟩] [0, 3]) (.seq (.seq (.reg [⟨some 9, none, .mov (.t 0)⟩, ⟨some 10, none, .calv (.c (.fn (.func f0) [] [])) [.t 9]⟩] [3, 10]) (.block 0 (.rng (.t 10) [11, 12] (.seq (.reg [⟨some 4, none, .mov (.t 11)⟩] [3, 4, 12]) (.reg [⟨some 5, none, .alloc [.i .i64 (0), .i .i64 (0)]⟩, ⟨none, none, .st 2 (.t 5) (.t 12)⟩] [3, 4, 5])) (.block 1 (.reg [⟨some 13, none, .ld none (.t 3)⟩, ⟨some 14, none, .mov (.t 4)⟩, ⟨some 15, none, .ld (some 2) (.t 5)⟩, ⟨some 16, none, .ixs 2 (.t 13) (.t 14)⟩, ⟨none, none, .st 2 (.t 16) (.t 15)⟩] []))))) (.seq (.reg [⟨some 17, none, .ld none (.t 3)⟩, ⟨some 2, none, .mov (.t 17)⟩] [2]) (.ret))))
abbrev Low_bung_loads (P : Program) (f f0 : Nat) : Prop := lowF P f = some (18, [.tmp 2], (ic_bung_loads f0).erase)
def ic_bung_answer : IC := .seq (.reg [⟨some 2, none, .box (.t 0)⟩, ⟨some 3, none, .box (.t 1)⟩, ⟨some 4, none, .mov (.c (.i .i64 (0)))⟩] [2, 3]) (.seq (.block 0 (.seq (.reg [⟨some 6, none, .fad 1 (.t 2)⟩, ⟨some 7, none, .ld none (.t 6)⟩, ⟨some 8, none, .fad 0 (.t 3)⟩, ⟨some 9, none, .ld none (.t 8)⟩, ⟨some 10, none, .bin .leq (.t 7) (.t 9)⟩, ⟨some 5, none, .mov (.t 10)⟩] [2, 3, 5]) (.cond (.t 5) (.seq (.reg [⟨some 4, none, .mov (.c (.i .i64 (1)))⟩] [4]) (.ret)) (.seq (.reg [⟨some 12, none, .fad 0 (.t 2)⟩, ⟨some 13, none, .ld none (.t 12)⟩, ⟨some 14, none, .fad 1 (.t 3)⟩, ⟨some 15, none, .ld none (.t 14)⟩, ⟨some 16, none, .bin .gtr (.t 13) (.t 15)⟩, ⟨some 11, none, .mov (.t 16)⟩] [11]) (.cond (.t 11) (.seq (.reg [⟨some 4, none, .mov (.c (.i .i64 (0)))⟩] [4]) (.ret)) (.skip)))))) (.seq (.reg [⟨some 4, none, .mov (.c (.i .i64 (2)))⟩] [4]) (.ret)))
abbrev Low_bung_answer (P : Program) (f : Nat) : Prop := lowF P f = some (17, [.tmp 4], (ic_bung_answer).erase)
def ic_bung_courses (f0 f1 : Nat) : IC := .seq (.reg [⟨some 2, none, .mov (.c (.nsl))⟩] [0]) (.seq (.reg [⟨some 3, none, .mov (.c (.nsl))⟩] [0, 3]) (.seq (.seq (.reg [⟨some 6, none, .mov (.t 0)⟩, ⟨some 7, none, .calv (.c (.fn (.func f0) [] [])) [.t 6]⟩, ⟨some 8, none, .len false (.t 7)⟩, ⟨some 9, none, .mov (.c (.i .i64 (0)))⟩] [0, 3, 7, 8, 9]) (.block 0 (.loop (.seq (.reg [⟨some 10, none, .bin .lss (.t 9) (.t 8)⟩] [0, 3, 7, 8, 9, 10]) (.seq (.cond (.t 10) (.skip) (.exit 0)) (.seq (.block 1 (.seq (.reg [⟨some 11, none, .mov (.t 9)⟩, ⟨some 12, none, .ixs 2 (.t 7) (.t 9)⟩, ⟨some 13, none, .ld (some 2) (.t 12)⟩, ⟨some 5, none, .alloc [.i .i64 (0), .i .i64 (0)]⟩, ⟨some 4, none, .mov (.t 11)⟩, ⟨none, none, .st 2 (.t 5) (.t 13)⟩] [0, 3, 4, 5, 7, 8, 9]) (.drg [(0, ⟨some 14, none, .mov (.t 3)⟩), (0, ⟨some 15, none, .ld (some 2) (.t 5)⟩), (0, ⟨some 16, none, .mov (.t 0)⟩), (0, ⟨some 17, none, .mov (.t 4)⟩), (0, ⟨some 18, none, .ixs 8 (.t 16) (.t 17)⟩), (0, ⟨some 19, none, .fad 3 (.t 18)⟩), (0, ⟨some 20, none, .ld (some 2) (.t 19)⟩), (0, ⟨some 21, none, .calv (.c (.fn (.func f1) [] [])) [.t 15, .t 20]⟩), (1, ⟨some 22, none, .bsl false 1 1 [.i .i64 (0)] [(0, (.t 21))]⟩), (1, ⟨some 23, none, .app 1 8 (.t 14) (.t 22)⟩), (0, ⟨some 3, none, .mov (.t 23)⟩)] 9 [0, 3, 7, 8, 9]))) (.reg [⟨some 24, none, .bin .add (.t 9) (.c (.i .i64 (1)))⟩, ⟨some 9, none, .mov (.t 24)⟩] [0, 3, 7, 8, 9]))))))) (.seq (.reg [⟨some 25, none, .mov (.t 3)⟩, ⟨some 2, none, .mov (.t 25)⟩] [2]) (.ret))))
abbrev Low_bung_courses (P : Program) (f f0 f1 : Nat) : Prop := lowF P f = some (26, [.tmp 2], (ic_bung_courses f0 f1).erase)
def ic_slices_Index_Sint_int : IC := .seq (.reg [⟨some 4, none, .mov (.c (.i .i64 (0)))⟩] [0, 1]) (.seq (.seq (.reg [⟨some 6, none, .mov (.t 0)⟩, ⟨some 7, none, .len false (.t 6)⟩, ⟨some 8, none, .mov (.c (.i .i64 (0)))⟩] [0, 1, 7, 8]) (.block 0 (.loop (.seq (.reg [⟨some 9, none, .bin .lss (.t 8) (.t 7)⟩] [0, 1, 7, 8, 9]) (.seq (.cond (.t 9) (.skip) (.exit 0)) (.seq (.block 1 (.seq (.reg [⟨some 10, none, .mov (.t 8)⟩, ⟨some 5, none, .mov (.t 10)⟩] [0, 1, 5, 7, 8]) (.seq (.reg [⟨some 11, none, .mov (.t 1)⟩, ⟨some 12, none, .mov (.t 0)⟩, ⟨some 13, none, .mov (.t 5)⟩, ⟨some 14, none, .ixs 1 (.t 12) (.t 13)⟩, ⟨some 15, none, .ld none (.t 14)⟩, ⟨some 16, none, .bin .eql (.t 11) (.t 15)⟩] [0, 1, 5, 7, 8, 16]) (.cond (.t 16) (.seq (.reg [⟨some 17, none, .mov (.t 5)⟩, ⟨some 4, none, .mov (.t 17)⟩] [4]) (.ret)) (.skip))))) (.reg [⟨some 18, none, .bin .add (.t 8) (.c (.i .i64 (1)))⟩, ⟨some 8, none, .mov (.t 18)⟩] [0, 1, 7, 8]))))))) (.seq (.reg [⟨some 4, none, .mov (.c (.i .i64 (-1)))⟩] [4]) (.ret)))
abbrev Low_slices_Index_Sint_int (P : Program) (f : Nat) : Prop := lowF P f = some (19, [.tmp 4], (ic_slices_Index_Sint_int).erase)
def ic_slices_Contains_Sint_int (f0 : Nat) : IC := .seq (.reg [⟨some 4, none, .mov (.c (.b false))⟩] [0, 1]) (.seq (.reg [⟨some 5, none, .mov (.t 0)⟩, ⟨some 6, none, .mov (.t 1)⟩, ⟨some 7, none, .calv (.c (.fn (.func f0) [] [])) [.t 5, .t 6]⟩, ⟨some 8, none, .bin .geq (.t 7) (.c (.i .i64 (0)))⟩, ⟨some 4, none, .mov (.t 8)⟩] [4]) (.ret))
abbrev Low_slices_Contains_Sint_int (P : Program) (f f0 : Nat) : Prop := lowF P f = some (9, [.tmp 4], (ic_slices_Contains_Sint_int f0).erase)
def ic_bung_all (f0 : Nat) : IC := .seq (.reg [⟨some 2, none, .mov (.c (.i .i64 (0)))⟩] [0]) (.seq (.block 0 (.seq (.reg [⟨some 4, none, .mov (.t 0)⟩, ⟨some 5, none, .calv (.c (.fn (.func f0) [] [])) [.t 4, .c (.i .i64 (0))]⟩, ⟨some 3, none, .mov (.t 5)⟩] [0, 3]) (.cond (.t 3) (.seq (.reg [⟨some 2, none, .mov (.c (.i .i64 (0)))⟩] [2]) (.ret)) (.seq (.reg [⟨some 7, none, .mov (.t 0)⟩, ⟨some 8, none, .calv (.c (.fn (.func f0) [] [])) [.t 7, .c (.i .i64 (2))]⟩, ⟨some 6, none, .mov (.t 8)⟩] [6]) (.cond (.t 6) (.seq (.reg [⟨some 2, none, .mov (.c (.i .i64 (2)))⟩] [2]) (.ret)) (.skip)))))) (.seq (.reg [⟨some 2, none, .mov (.c (.i .i64 (1)))⟩] [2]) (.ret)))
abbrev Low_bung_all (P : Program) (f f0 : Nat) : Prop := lowF P f = some (9, [.tmp 2], (ic_bung_all f0).erase)
def sumR (l : List Rg) : Rg := ⟨(l.map (·.lo)).sum, (l.map (·.hi)).sum⟩
theorem sumR_append (a b : List Rg) : sumR (a ++ b) = ⟨(sumR a).lo + (sumR b).lo, (sumR a).hi + (sumR b).hi⟩ := by simp [sumR, List.sum_append]
def Rg.le (M : Int) (r : Rg) : Prop := -M ≤ r.lo ∧ r.lo ≤ M ∧ -M ≤ r.hi ∧ r.hi ≤ M
theorem sumR_le {M : Int} (h0 : 0 ≤ M) : ∀ (l : List Rg), (∀ r ∈ l, r.le M) → (sumR l).le (l.length * M)
  | [], _ => by simp [sumR, Rg.le]
  | r :: l, h => by
    have h1 := h r (by simp)
    have h2 := sumR_le h0 l (fun x hx => h x (by simp [hx]))
    simp only [Rg.le, sumR, List.map_cons, List.sum_cons, List.length_cons] at h1 h2 ⊢
    rw [show (((l.length + 1 : Nat) : Int)) * M = l.length * M + M by rw [Int.natCast_add, Int.add_mul]; simp]
    omega

def C_sum (P : Program) (f : Nat) : Prop := ∀ l : List Rg, l.length ≤ 1000 → (∀ r ∈ l, r.le 1000000000000) → Snd P f [.fsl (l.map Rg.c)] [] (.agg (sumR l).c) []
theorem ok_sum (hm : P.follows .mixedOrders = true) {f : Nat} (low : Low_bung_sum P f) : C_sum P f := by
  intro l hl hb
  refine snd_ic hm low (by simp) ?_
  unfold ic_bung_sum
  simp -dsimp -implicitDefEqProofs only [qq, Nat.reduceBEq, reduceIte, Nat.reduceAdd, Nat.reduceSub, Nat.reduceLeDiff, Nat.reduceLT, Nat.reduceMul, Nat.reduceEqDiff, Int.reduceEq, Int.reduceBEq, Int.reduceBNe, Int.reduceLT, Int.reduceLE, Int.reduceGT, Int.reduceGE, Int.reduceNeg, Int.reduceAdd, Int.reduceSub, reduceCtorEq, List.reduceReplicate, ← List.map_take, ← List.map_drop]
  refine loopI_st (fun k : Nat => l.length - k) (fun k E H => k ≤ l.length ∧ E = [(2, .rpt 0 2 0 0), (3, .rpt 1 2 0 0), (6, .fsl (l.map Rg.c)), (7, .i .i64 l.length), (8, .i .i64 k)] ∧ ∃ G, H = .row 2 [[.i .i64 0, .i .i64 0]] :: .row 2 [(sumR (l.take k)).c] :: G) 0 ⟨by omega, rfl, [], rfl⟩ ?_
  rintro k _ _ ⟨hk, rfl, G, rfl⟩
  simp -dsimp -implicitDefEqProofs only [qq, Nat.reduceBEq, reduceIte, Nat.reduceAdd, Nat.reduceSub, Nat.reduceLeDiff, Nat.reduceLT, Nat.reduceMul, Nat.reduceEqDiff, Int.reduceEq, Int.reduceBEq, Int.reduceBNe, Int.reduceLT, Int.reduceLE, Int.reduceGT, Int.reduceGE, Int.reduceNeg, Int.reduceAdd, Int.reduceSub, reduceCtorEq, List.reduceReplicate, ← List.map_take, ← List.map_drop]
  refine brG_of (fun hlt => ?_) (fun hge => ?_)
  · obtain ⟨x, hx, hxm, htk, _⟩ := next_of (show k < l.length by simpa using hlt)
    have hwk : IntKind.i64.wrap ((k : Int) + 1) = ((k + 1 : Nat) : Int) := wrap_succ (by omega)
    have hs := sumR_le (by decide) (l.take k) (fun r hr => hb r (List.mem_of_mem_take hr))
    have hkl : ((l.take k).length : Int) ≤ 1000 := by simp; omega
    have hM : ((l.take k).length : Int) * 1000000000000 ≤ 1000 * 1000000000000 := Int.mul_le_mul_of_nonneg_right hkl (by decide)
    have hbx := hb x hxm
    simp only [Rg.le] at hs hbx
    have hw1 : IntKind.i64.wrap ((sumR (l.take k)).lo + x.lo) = (sumR (l.take (k + 1))).lo := by rw [wrap_id (by omega) (by omega), htk, sumR_append]; simp [sumR]
    have hw2 : IntKind.i64.wrap ((sumR (l.take k)).hi + x.hi) = (sumR (l.take (k + 1))).hi := by rw [wrap_id (by omega) (by omega), htk, sumR_append]; simp [sumR]
    simp -dsimp -implicitDefEqProofs only [hx, Rg.c, hwk, hw1, hw2, qq, Nat.reduceBEq, reduceIte, Nat.reduceAdd, Nat.reduceSub, Nat.reduceLeDiff, Nat.reduceLT, Nat.reduceMul, Nat.reduceEqDiff, Int.reduceEq, Int.reduceBEq, Int.reduceBNe, Int.reduceLT, Int.reduceLE, Int.reduceGT, Int.reduceGE, Int.reduceNeg, Int.reduceAdd, Int.reduceSub, reduceCtorEq, List.reduceReplicate, ← List.map_take, ← List.map_drop]
    have : k < l.length := by simpa using hlt
    exact ⟨k + 1, by omega, by omega, rfl, _, rfl⟩
  · obtain rfl : k = l.length := by simp at hge; omega
    simp -dsimp -implicitDefEqProofs only [Rg.c, qq, Nat.reduceBEq, reduceIte, Nat.reduceAdd, Nat.reduceSub, Nat.reduceLeDiff, Nat.reduceLT, Nat.reduceMul, Nat.reduceEqDiff, Int.reduceEq, Int.reduceBEq, Int.reduceBNe, Int.reduceLT, Int.reduceLE, Int.reduceGT, Int.reduceGE, Int.reduceNeg, Int.reduceAdd, Int.reduceSub, reduceCtorEq, List.reduceReplicate, ← List.map_take, ← List.map_drop]
    refine Ends.plain rfl rfl ?_
    simp [resV]

theorem sag_w {l : List Sag} (h : listB l = true) {s : Sag} (hs : s ∈ l) : sagB s = true := by simp [listB] at h; exact h.1.2 s hs
theorem list_len {l : List Sag} (h : listB l = true) : l.length ≤ 30 := by simp [listB] at h; exact h.1.1

theorem Rg.le.mono {M M' : Int} {r : Rg} (h : r.le M) (hm : M ≤ M') : r.le M' := by simp only [Rg.le] at *; omega
def wOf (l : List Sag) : Rg := sumR (l.map (·.w))
theorem w_le {l m : List Sag} (h : listB l = true) (hm : ∀ s ∈ m, s ∈ l) (hl : m.length ≤ 30) : (wOf m).le 300000000 := by
  have h1 := sumR_le (M := 10000000) (by decide) (m.map (·.w)) (fun r hr => by
    obtain ⟨s, hs, rfl⟩ := List.mem_map.1 hr
    have := sag_w h (hm s hs)
    simp [sagB, rgB, inR] at this
    simp [Rg.le]; omega)
  simp only [Rg.le, List.length_map] at h1 ⊢
  have : (m.length : Int) * 10000000 ≤ 30 * 10000000 := Int.mul_le_mul_of_nonneg_right (by omega) (by decide)
  simp only [wOf]
  omega

theorem wOf_one (s : Sag) : wOf [s] = s.w := by simp [wOf, sumR]
theorem wOf_cons (s : Sag) (l : List Sag) : wOf (s :: l) = ⟨s.w.lo + (wOf l).lo, s.w.hi + (wOf l).hi⟩ := by simp [wOf, sumR]

/-- The courses from the top, with their loads. -/
def downXs (l : List Sag) : List (List V) := (List.range l.length).map fun (i : Nat) => [.i .i64 ((l.length : Int) - 1 - i), .agg (wOf (l.drop (l.length - i))).c]

def I_down (P : Program) (f : Nat) : Prop := ∀ l : List Sag, listB l = true → IterJ P (.fn (.func f) [] [.fpt [.fsl (l.map Sag.c)] 0]) (downXs l)
theorem ok_down_1 (hm : P.follows .mixedOrders = true) {f f0 : Nat} (low : Low_bung_down_1 P f f0) (h0 : C_sum P f0) : I_down P f := by
  intro l hv id J n st hn hst1 hst2 hJ hr F H hj
  have hlen := list_len hv
  have hnl : n ≤ l.length := by simpa [downXs] using hn
  have hst2' : st = false → n = l.length := fun h => by simpa [downXs] using hst2 h
  refine sndx_fn ?_
  refine sndx_ic hm low (by simp) ?_
  unfold ic_bung_down_1
  simp -dsimp -implicitDefEqProofs only [qq, Nat.reduceBEq, reduceIte, Nat.reduceAdd, Nat.reduceSub, Nat.reduceLeDiff, Nat.reduceLT, Nat.reduceMul, Nat.reduceEqDiff, Int.reduceEq, Int.reduceBEq, Int.reduceBNe, Int.reduceLT, Int.reduceLE, Int.reduceGT, Int.reduceGE, Int.reduceNeg, Int.reduceAdd, Int.reduceSub, reduceCtorEq, List.reduceReplicate, ← List.map_take, ← List.map_drop]
  refine loopI_st (fun i : Nat => l.length + 1 - i) (fun i E H' => i ≤ l.length ∧ i ≤ n ∧ (st = true → i < n) ∧ E = [(0, .yld id), (1, .fpt [.fsl (l.map Sag.c)] 0), (3, .rpt H.length 2 0 0), (4, .i .i64 ((l.length : Int) - 1 - i))] ∧ H'[H.length]? = some (.row 2 [(wOf (l.drop (l.length - i))).c]) ∧ ∃ F', J i F' H' ∧ H.length ∉ F' ∧ Grow F F' H H') 0 ?_ ?_
  · refine ⟨by omega, by omega, fun h => hst1 h, by rw [wrap_id (by omega) (by omega)]; simp, by simp [wOf, sumR], F, hJ.app hj _, fun h => by have := hJ.lt hj _ h; omega, (Grow.refl F H).app _⟩
  · rintro i _ H' ⟨hil, hin, hst, rfl, hb, F', hj', hnF, hg⟩
    simp -dsimp -implicitDefEqProofs only [qq, Nat.reduceBEq, reduceIte, Nat.reduceAdd, Nat.reduceSub, Nat.reduceLeDiff, Nat.reduceLT, Nat.reduceMul, Nat.reduceEqDiff, Int.reduceEq, Int.reduceBEq, Int.reduceBNe, Int.reduceLT, Int.reduceLE, Int.reduceGT, Int.reduceGE, Int.reduceNeg, Int.reduceAdd, Int.reduceSub, reduceCtorEq, List.reduceReplicate, ← List.map_take, ← List.map_drop]
    refine brG_of (fun hc => ?_) (fun hc => ?_)
    · have hil' : i < l.length := by simp at hc; omega
      have hin' : i < n := by cases st with
        | true => exact hst rfl
        | false => rw [hst2' rfl]; exact hil'
      obtain ⟨s, hs⟩ : ∃ s, l[l.length - 1 - i]? = some s := ⟨l[l.length - 1 - i], by simp⟩
      have hsm : s ∈ l := List.mem_of_getElem? hs
      have hrow : rowAt (l.map Sag.c) ((l.length : Int) - 1 - i) = some s.c := by
        rw [show (l.length : Int) - 1 - i = ((l.length - 1 - i : Nat) : Int) by omega, rowAt_map, hs]; rfl
      have hdrop : l.drop (l.length - (i + 1)) = s :: l.drop (l.length - i) := by
        rw [show l.length - (i + 1) = l.length - 1 - i by omega, show l.length - i = l.length - 1 - i + 1 by omega]
        rw [List.getElem?_eq_some_iff] at hs
        obtain ⟨h1, h2⟩ := hs
        rw [← h2]; exact List.drop_eq_getElem_cons h1
      have hwd := w_le hv (m := l.drop (l.length - i)) (fun x hx => List.mem_of_mem_drop hx) (by simp; omega)
      have hww := w_le hv (m := [s]) (by simpa using hsm) (by simp)
      have hx : (downXs l)[i]? = some [.i .i64 ((l.length : Int) - 1 - i), .agg (wOf (l.drop (l.length - i))).c] := by simp [downXs, hil']
      have hdec : IntKind.i64.wrap ((l.length : Int) - 1 - i - 1) = (l.length : Int) - 1 - (i + 1 : Nat) := by rw [wrap_id (by omega) (by omega)]; omega
      simp -dsimp -implicitDefEqProofs only [hb, Rg.c, qq, Nat.reduceBEq, reduceIte, Nat.reduceAdd, Nat.reduceSub, Nat.reduceLeDiff, Nat.reduceLT, Nat.reduceMul, Nat.reduceEqDiff, Int.reduceEq, Int.reduceBEq, Int.reduceBNe, Int.reduceLT, Int.reduceLE, Int.reduceGT, Int.reduceGE, Int.reduceNeg, Int.reduceAdd, Int.reduceSub, reduceCtorEq, List.reduceReplicate, ← List.map_take, ← List.map_drop]
      refine callI_x (hr i _ F' H' hin' hx hj') ?_
      rintro r H2 ⟨rfl, F2, hj2, hg2⟩
      have hlt := get_lt hb
      have hb2 := hg2.get hnF hb
      have hn2 := hg2.notin hnF hlt
      simp -dsimp -implicitDefEqProofs only [qq, Nat.reduceBEq, reduceIte, Nat.reduceAdd, Nat.reduceSub, Nat.reduceLeDiff, Nat.reduceLT, Nat.reduceMul, Nat.reduceEqDiff, Int.reduceEq, Int.reduceBEq, Int.reduceBNe, Int.reduceLT, Int.reduceLE, Int.reduceGT, Int.reduceGE, Int.reduceNeg, Int.reduceAdd, Int.reduceSub, reduceCtorEq, List.reduceReplicate, ← List.map_take, ← List.map_drop]
      refine brG_of (fun hq => ?_) (fun hq => ?_)
      · have hni : n = i + 1 := by simp at hq; omega
        subst hni
        simp -dsimp -implicitDefEqProofs only [qq, Nat.reduceBEq, reduceIte, Nat.reduceAdd, Nat.reduceSub, Nat.reduceLeDiff, Nat.reduceLT, Nat.reduceMul, Nat.reduceEqDiff, Int.reduceEq, Int.reduceBEq, Int.reduceBNe, Int.reduceLT, Int.reduceLE, Int.reduceGT, Int.reduceGE, Int.reduceNeg, Int.reduceAdd, Int.reduceSub, reduceCtorEq, List.reduceReplicate, ← List.map_take, ← List.map_drop]
        exact EndsX.void (.inr rfl) ⟨rfl, F2, hj2, hg.trans hg2⟩
      · have hq' : st = true → i + 1 < n := fun h => by simp [h] at hq; omega
        simp -dsimp -implicitDefEqProofs only [hb2, get_app hb2, hrow, Rg.c, Sag.c, qq, Nat.reduceBEq, reduceIte, Nat.reduceAdd, Nat.reduceSub, Nat.reduceLeDiff, Nat.reduceLT, Nat.reduceMul, Nat.reduceEqDiff, Int.reduceEq, Int.reduceBEq, Int.reduceBNe, Int.reduceLT, Int.reduceLE, Int.reduceGT, Int.reduceGE, Int.reduceNeg, Int.reduceAdd, Int.reduceSub, reduceCtorEq, List.reduceReplicate, ← List.map_take, ← List.map_drop]
        refine callI_lend1 (h0 [wOf (l.drop (l.length - i)), s.w] (by simp) ?_) (frz_lit (get_new _ _) rfl (by simp [belL, V.bel])) rfl ?_
        · intro r hr
          rcases List.mem_cons.1 hr with rfl | hr
          · exact hwd.mono (by decide)
          · simp at hr; subst hr; rw [wOf_one] at hww; exact hww.mono (by decide)
        simp -dsimp -implicitDefEqProofs only [hb2, get_app hb2, hdec, qq, Nat.reduceBEq, reduceIte, Nat.reduceAdd, Nat.reduceSub, Nat.reduceLeDiff, Nat.reduceLT, Nat.reduceMul, Nat.reduceEqDiff, Int.reduceEq, Int.reduceBEq, Int.reduceBNe, Int.reduceLT, Int.reduceLE, Int.reduceGT, Int.reduceGE, Int.reduceNeg, Int.reduceAdd, Int.reduceSub, reduceCtorEq, List.reduceReplicate, ← List.map_take, ← List.map_drop]
        refine ⟨i + 1, by omega, by omega, by omega, hq', rfl, ?_, F2, hJ.set (hJ.app hj2 _) hn2 _, hn2, ((hg.trans hg2).app _).set (Nat.le_refl _) _⟩
        rw [get_setsame (get_app hb2 _), hdrop]
        rw [wOf_cons]
        simp [sumR]
        omega
    · have hil' : i = l.length := by simp at hc; omega
      have : i = n := by cases st with
        | true => have := hst rfl; omega
        | false => rw [hst2' rfl]; exact hil'
      subst this
      simp -dsimp -implicitDefEqProofs only [qq, Nat.reduceBEq, reduceIte, Nat.reduceAdd, Nat.reduceSub, Nat.reduceLeDiff, Nat.reduceLT, Nat.reduceMul, Nat.reduceEqDiff, Int.reduceEq, Int.reduceBEq, Int.reduceBNe, Int.reduceLT, Int.reduceLE, Int.reduceGT, Int.reduceGE, Int.reduceNeg, Int.reduceAdd, Int.reduceSub, reduceCtorEq, List.reduceReplicate, ← List.map_take, ← List.map_drop]
      exact EndsX.void (.inl rfl) ⟨rfl, F', hj', hg⟩
end Go.Sh.C3
end
section
namespace Go.Sh.C3
open Go.Sh
set_option maxRecDepth 10000
set_option linter.unusedVariables false
set_option linter.unusedSimpArgs false
variable {P : Program}

def C_down (P : Program) (f : Nat) : Prop := ∃ g, isFn P g ∧ I_down P g ∧ ∀ l : List Sag, Snd P f [.fsl (l.map Sag.c)] [] (.fn (.func g) [] [.fpt [.fsl (l.map Sag.c)] 0]) []
theorem ok_down (hm : P.follows .mixedOrders = true) {f f0 g0 : Nat} (low : Low_bung_down P f f0) (low1 : Low_bung_down_1 P f0 g0) (h0 : C_sum P g0) : C_down P f := by
  refine ⟨f0, lowF_fn low1, ok_down_1 hm low1 h0, fun l => ?_⟩
  refine snd_ic hm low (by simp) ?_
  unfold ic_bung_down
  simp -dsimp -implicitDefEqProofs only [qq, Nat.reduceBEq, reduceIte, Nat.reduceAdd, Nat.reduceSub, Nat.reduceLeDiff, Nat.reduceLT, Nat.reduceMul, Nat.reduceEqDiff, Int.reduceEq, Int.reduceBEq, Int.reduceBNe, Int.reduceLT, Int.reduceLE, Int.reduceGT, Int.reduceGE, Int.reduceNeg, Int.reduceAdd, Int.reduceSub, reduceCtorEq, List.reduceReplicate, ← List.map_take, ← List.map_drop]
  refine Ends.ret rfl ?_
  exact .fn _ _ _ _ _ rfl rfl (fun j v v' e => by simp at e) (fun j v v' e1 e2 => by
    cases j with
    | zero => simp at e1 e2; subst e1 e2; exact .pt 0 1 0 0 _ _ _ (Nat.le_refl _) rfl rfl rfl rfl (fun j v v' e1 e2 => by rw [e1] at e2; cases e2; exact .keep _ (by cases j <;> simp at e1; subst e1; rfl))
    | succ j => simp at e1)

def loadsS : List Sag → List Rg
  | [] => []
  | s :: r => wOf r :: loadsS r
theorem loadsS_length : ∀ l, (loadsS l).length = l.length
  | [] => rfl
  | s :: r => by simp [loadsS, loadsS_length r]

def C_loads (P : Program) (f : Nat) : Prop := ∀ l : List Sag, listB l = true → Snd P f [.fsl (l.map Sag.c)] [] (.fsl ((loadsS l).map Rg.c)) []
theorem ok_loads (hm : P.follows .mixedOrders = true) {f f0 : Nat} (low : Low_bung_loads P f f0) (h0 : C_down P f0) : C_loads P f := by
  intro l hv
  obtain ⟨g, hg, hI, hd⟩ := h0
  have hlen := list_len hv
  refine snd_ic hm low (by simp) ?_
  unfold ic_bung_loads
  simp -dsimp -implicitDefEqProofs only [qq, Nat.reduceBEq, reduceIte, Nat.reduceAdd, Nat.reduceSub, Nat.reduceLeDiff, Nat.reduceLT, Nat.reduceMul, Nat.reduceEqDiff, Int.reduceEq, Int.reduceBEq, Int.reduceBNe, Int.reduceLT, Int.reduceLE, Int.reduceGT, Int.reduceGE, Int.reduceNeg, Int.reduceAdd, Int.reduceSub, reduceCtorEq, List.reduceReplicate, ← List.map_take, ← List.map_drop]
  repeat (refine ⟨by first | omega | trivial | (intro row hr; obtain ⟨x, _, rfl⟩ := List.mem_map.1 hr; rfl), ?_⟩)
  refine callI_pure (hd l) rfl rfl ?_
  simp -dsimp -implicitDefEqProofs only [qq, Nat.reduceBEq, reduceIte, Nat.reduceAdd, Nat.reduceSub, Nat.reduceLeDiff, Nat.reduceLT, Nat.reduceMul, Nat.reduceEqDiff, Int.reduceEq, Int.reduceBEq, Int.reduceBNe, Int.reduceLT, Int.reduceLE, Int.reduceGT, Int.reduceGE, Int.reduceNeg, Int.reduceAdd, Int.reduceSub, reduceCtorEq, List.reduceReplicate, ← List.map_take, ← List.map_drop]
  refine ⟨g, _, _, rfl, hg, downXs l, l.length, .normal, fun i F H => F = [0, 1] ∧ H[0]? = some (.row 2 (List.replicate (l.length - i) [.i .i64 0, .i .i64 0] ++ (loadsS (l.drop (l.length - i))).map Rg.c)) ∧ H[1]? = some (.row 1 [[.rsl 0 2 0 l.length l.length true]]), [0, 1], hI l hv, by simp [rngOk, downXs], ⟨?_, ?_⟩, ⟨rfl, by simp [loadsS], rfl⟩, ?_, ?_⟩
  · rintro i F H H' ⟨rfl, h1, h2⟩ hl hk
    exact ⟨rfl, (hk 0 (by simp)).trans h1, (hk 1 (by simp)).trans h2⟩
  · rintro i F H ⟨rfl, h1, h2⟩ p hp
    have := get_lt h2
    simp at hp; omega
  · rintro L Lb i y F H1 hi hy ⟨rfl, h1, h2⟩ hno hL
    have hrow := w_le hv (m := l.drop (l.length - i)) (fun x hx => List.mem_of_mem_drop hx) (by simp; omega)
    simp [downXs, hi] at hy
    subst hy
    refine ⟨rfl, ?_⟩
    obtain ⟨k, hk⟩ : ∃ k, l.length - i = k + 1 := ⟨l.length - i - 1, by omega⟩
    have htn : ((l.length : Int) - 1 - i).toNat = k := by omega
    have h0i : (0 : Int) ≤ (l.length : Int) - 1 - i := by omega
    have hil : (l.length : Int) - 1 - i < l.length := by omega
    rw [hk] at h1
    have hlt := get_lt hL
    have e1 : ∀ m b, ((H1 ++ m).set 2 b)[0]? = _ := fun m b => get_setne (get_app h1 m) (by decide)
    have e2 : ∀ m b, ((H1 ++ m).set 2 b)[1]? = _ := fun m b => get_setne (get_app h2 m) (by decide)
    have e3 : ∀ m b, ((H1 ++ [m]).set 2 b)[H1.length]? = some m := fun m b => get_setne (get_new H1 m) (by simp at hlt; omega)
    have hL' : H1[2]? = some L := hL
    simp -dsimp -implicitDefEqProofs only [get_app hL', Rg.c, qq, Nat.reduceBEq, reduceIte, Nat.reduceAdd, Nat.reduceSub, Nat.reduceLeDiff, Nat.reduceLT, Nat.reduceMul, Nat.reduceEqDiff, Int.reduceEq, Int.reduceBEq, Int.reduceBNe, Int.reduceLT, Int.reduceLE, Int.reduceGT, Int.reduceGE, Int.reduceNeg, Int.reduceAdd, Int.reduceSub, reduceCtorEq, List.reduceReplicate, ← List.map_take, ← List.map_drop]
    simp -dsimp -implicitDefEqProofs only [ite_self, e1, e2, e3, htn, h0i, hil, get_rep, set_rep, qq, Nat.reduceBEq, reduceIte, Nat.reduceAdd, Nat.reduceSub, Nat.reduceLeDiff, Nat.reduceLT, Nat.reduceMul, Nat.reduceEqDiff, Int.reduceEq, Int.reduceBEq, Int.reduceBNe, Int.reduceLT, Int.reduceLE, Int.reduceGT, Int.reduceGE, Int.reduceNeg, Int.reduceAdd, Int.reduceSub, reduceCtorEq, List.reduceReplicate, ← List.map_take, ← List.map_drop]
    refine ⟨get_setne (get_setsame (get_app hL' _)) (by decide), [0, 1], ⟨rfl, ?_, get_setne (e2 _ _) (by decide)⟩, ?_⟩
    · rw [get_setsame (e1 _ _), show l.length - (i + 1) = k by omega]
      obtain ⟨s, hs⟩ : ∃ s, l.drop k = s :: l.drop (k + 1) := ⟨l[k]'(by omega), List.drop_eq_getElem_cons (by omega)⟩
      rw [hs, hk]; rfl
    · exact ⟨by simp, fun p hp hn hq => by
        simp at hn
        have : p ≠ 2 := hq
        rw [List.getElem?_set_ne (by omega), List.getElem?_set_ne (by omega), List.getElem?_append_left hp], fun p hp => .inl hp⟩
  · rintro F' H' ⟨rfl, h1, h2⟩ hg
    simp -dsimp -implicitDefEqProofs only [h2, qq, Nat.reduceBEq, reduceIte, Nat.reduceAdd, Nat.reduceSub, Nat.reduceLeDiff, Nat.reduceLT, Nat.reduceMul, Nat.reduceEqDiff, Int.reduceEq, Int.reduceBEq, Int.reduceBNe, Int.reduceLT, Int.reduceLE, Int.reduceGT, Int.reduceGE, Int.reduceNeg, Int.reduceAdd, Int.reduceSub, reduceCtorEq, List.reduceReplicate, ← List.map_take, ← List.map_drop]
    simp at h1
    refine Ends.ret rfl (frz_lit h1 (by simp [loadsS_length]) ?_)
    intro row hr
    simp at hr
    obtain ⟨r, _, rfl⟩ := hr
    rfl

def answerS (load bears : Rg) : Int := if load.hi ≤ bears.lo then 1 else if load.lo > bears.hi then 0 else 2
def C_answer (P : Program) (f : Nat) : Prop := ∀ a b : Rg, Snd P f [.agg a.c, .agg b.c] [] (.i .i64 (answerS a b)) []
theorem ok_answer (hm : P.follows .mixedOrders = true) {f : Nat} (low : Low_bung_answer P f) : C_answer P f := by
  intro a b
  refine snd_ic hm low (by simp) ?_
  unfold ic_bung_answer
  simp -dsimp -implicitDefEqProofs only [qq, Nat.reduceBEq, reduceIte, Nat.reduceAdd, Nat.reduceSub, Nat.reduceLeDiff, Nat.reduceLT, Nat.reduceMul, Nat.reduceEqDiff, Int.reduceEq, Int.reduceBEq, Int.reduceBNe, Int.reduceLT, Int.reduceLE, Int.reduceGT, Int.reduceGE, Int.reduceNeg, Int.reduceAdd, Int.reduceSub, reduceCtorEq, List.reduceReplicate, ← List.map_take, ← List.map_drop]
  repeat' (first | (refine brG_of (fun h => ?_) (fun h => ?_) <;> simp -dsimp -implicitDefEqProofs only [h, qq, Nat.reduceBEq, reduceIte, Nat.reduceAdd, Nat.reduceSub, Nat.reduceLeDiff, Nat.reduceLT, Nat.reduceMul, Nat.reduceEqDiff, Int.reduceEq, Int.reduceBEq, Int.reduceBNe, Int.reduceLT, Int.reduceLE, Int.reduceGT, Int.reduceGE, Int.reduceNeg, Int.reduceAdd, Int.reduceSub, reduceCtorEq, List.reduceReplicate, ← List.map_take, ← List.map_drop]))
  all_goals exact Ends.plain rfl rfl (by first | (simp_all [resV, answerS]; done) | (simp_all [resV, answerS]; omega) | (simp only [resV, answerS]; grind))

def coursesS : List Sag → List Int
  | [] => []
  | s :: r => answerS (wOf r) s.b :: coursesS r
theorem coursesS_length : ∀ l, (coursesS l).length = l.length
  | [] => rfl
  | s :: r => by simp [coursesS, coursesS_length r]
theorem coursesS_get : ∀ (l : List Sag) (k : Nat), (coursesS l)[k]? = (match (loadsS l)[k]?, l[k]? with | some a, some s => some (answerS a s.b) | _, _ => none)
  | [], k => by simp [coursesS, loadsS]
  | s :: r, 0 => by simp [coursesS, loadsS]
  | s :: r, k + 1 => by simp [coursesS, loadsS, coursesS_get r k]
abbrev intC (n : Int) : List V := [.i .i64 n]

def C_courses (P : Program) (f : Nat) : Prop := ∀ l : List Sag, listB l = true → Snd P f [.fsl (l.map Sag.c)] [] (.fsl ((coursesS l).map intC)) []
theorem ok_courses (hm : P.follows .mixedOrders = true) {f f0 f1 : Nat} (low : Low_bung_courses P f f0 f1) (h0 : C_loads P f0) (h1 : C_answer P f1) : C_courses P f := by
  intro l hv
  have hlen := list_len hv
  have hll := loadsS_length l
  refine snd_ic hm low (by simp) ?_
  unfold ic_bung_courses
  simp -dsimp -implicitDefEqProofs only [qq, Nat.reduceBEq, reduceIte, Nat.reduceAdd, Nat.reduceSub, Nat.reduceLeDiff, Nat.reduceLT, Nat.reduceMul, Nat.reduceEqDiff, Int.reduceEq, Int.reduceBEq, Int.reduceBNe, Int.reduceLT, Int.reduceLE, Int.reduceGT, Int.reduceGE, Int.reduceNeg, Int.reduceAdd, Int.reduceSub, reduceCtorEq, List.reduceReplicate, ← List.map_take, ← List.map_drop]
  refine callI_pure (h0 l hv) rfl rfl ?_
  simp -dsimp -implicitDefEqProofs only [qq, Nat.reduceBEq, reduceIte, Nat.reduceAdd, Nat.reduceSub, Nat.reduceLeDiff, Nat.reduceLT, Nat.reduceMul, Nat.reduceEqDiff, Int.reduceEq, Int.reduceBEq, Int.reduceBNe, Int.reduceLT, Int.reduceLE, Int.reduceGT, Int.reduceGE, Int.reduceNeg, Int.reduceAdd, Int.reduceSub, reduceCtorEq, List.reduceReplicate, ← List.map_take, ← List.map_drop]
  refine loopI_st (fun k : Nat => l.length - k) (fun k E H => k ≤ l.length ∧ ∃ v, E = [(0, .fsl (l.map Sag.c)), (3, v), (7, .fsl ((loadsS l).map Rg.c)), (8, .i .i64 (loadsS l).length), (9, .i .i64 k)] ∧ OwnS H 1 (((coursesS l).take k).map intC) v) 0 ⟨by omega, _, rfl, .nil _ _⟩ ?_
  rintro k _ H ⟨hk, v, rfl, ho⟩
  simp -dsimp -implicitDefEqProofs only [qq, Nat.reduceBEq, reduceIte, Nat.reduceAdd, Nat.reduceSub, Nat.reduceLeDiff, Nat.reduceLT, Nat.reduceMul, Nat.reduceEqDiff, Int.reduceEq, Int.reduceBEq, Int.reduceBNe, Int.reduceLT, Int.reduceLE, Int.reduceGT, Int.reduceGE, Int.reduceNeg, Int.reduceAdd, Int.reduceSub, reduceCtorEq, List.reduceReplicate, ← List.map_take, ← List.map_drop]
  refine brG_of (fun hlt => ?_) (fun hge => ?_)
  · have hkl : k < l.length := by simp at hlt; omega
    obtain ⟨x, hx, hxm, _, _⟩ := next_of hkl
    obtain ⟨r, hr, _, _, _⟩ := next_of (show k < (loadsS l).length by omega)
    have hwk : IntKind.i64.wrap ((k : Int) + 1) = ((k + 1 : Nat) : Int) := wrap_succ (by omega)
    simp -dsimp -implicitDefEqProofs only [hx, hr, Rg.c, Sag.c, qq, Nat.reduceBEq, reduceIte, Nat.reduceAdd, Nat.reduceSub, Nat.reduceLeDiff, Nat.reduceLT, Nat.reduceMul, Nat.reduceEqDiff, Int.reduceEq, Int.reduceBEq, Int.reduceBNe, Int.reduceLT, Int.reduceLE, Int.reduceGT, Int.reduceGE, Int.reduceNeg, Int.reduceAdd, Int.reduceSub, reduceCtorEq, List.reduceReplicate, ← List.map_take, ← List.map_drop]
    refine callI_pure (h1 r x.b) rfl rfl ?_
    simp -dsimp -implicitDefEqProofs only [qq, Nat.reduceBEq, reduceIte, Nat.reduceAdd, Nat.reduceSub, Nat.reduceLeDiff, Nat.reduceLT, Nat.reduceMul, Nat.reduceEqDiff, Int.reduceEq, Int.reduceBEq, Int.reduceBNe, Int.reduceLT, Int.reduceLE, Int.reduceGT, Int.reduceGE, Int.reduceNeg, Int.reduceAdd, Int.reduceSub, reduceCtorEq, List.reduceReplicate, ← List.map_take, ← List.map_drop]
    refine app_own (ys := [intC (answerS r x.b)]) (ho.app _) (by decide) (by decide) (by simp [Sh.shown, gapp]) (by simp [V.one]) (by simp; omega) fun v' H' ho' ha hf => ?_
    simp -dsimp -implicitDefEqProofs only [hwk, qq, Nat.reduceBEq, reduceIte, Nat.reduceAdd, Nat.reduceSub, Nat.reduceLeDiff, Nat.reduceLT, Nat.reduceMul, Nat.reduceEqDiff, Int.reduceEq, Int.reduceBEq, Int.reduceBNe, Int.reduceLT, Int.reduceLE, Int.reduceGT, Int.reduceGE, Int.reduceNeg, Int.reduceAdd, Int.reduceSub, reduceCtorEq, List.reduceReplicate, ← List.map_take, ← List.map_drop]
    refine ⟨k + 1, by omega, by omega, v', rfl, ?_⟩
    rw [List.take_add_one, coursesS_get, hr, hx]
    simpa using ho'
  · obtain rfl : k = l.length := by simp at hge; omega
    simp -dsimp -implicitDefEqProofs only [qq, Nat.reduceBEq, reduceIte, Nat.reduceAdd, Nat.reduceSub, Nat.reduceLeDiff, Nat.reduceLT, Nat.reduceMul, Nat.reduceEqDiff, Int.reduceEq, Int.reduceBEq, Int.reduceBNe, Int.reduceLT, Int.reduceLE, Int.reduceGT, Int.reduceGE, Int.reduceNeg, Int.reduceAdd, Int.reduceSub, reduceCtorEq, List.reduceReplicate, ← List.map_take, ← List.map_drop]
    refine Ends.ret rfl ?_
    have := ho.frz (by intro row hr; obtain ⟨n, _, rfl⟩ := List.mem_map.1 hr; rfl)
    rwa [List.take_of_length_le (by rw [coursesS_length]; omega)] at this
end Go.Sh.C3
end
section
namespace Go.Sh.C3
open Go.Sh
set_option maxRecDepth 10000
set_option linter.unusedVariables false
set_option linter.unusedSimpArgs false
variable {P : Program}
def ic_bung_height (f0 : Nat) : IC := .seq (.reg [⟨some 1, none, .box (.t 0)⟩, ⟨some 2, none, .alloc [.i .i64 (0), .i .i64 (0)]⟩] [1, 2]) (.seq (.reg [⟨some 3, none, .mov (.c (.nsl))⟩] [1, 2, 3]) (.seq (.seq (.reg [⟨some 6, none, .fad 2 (.t 1)⟩, ⟨some 7, none, .ld none (.t 6)⟩, ⟨some 8, none, .len false (.t 7)⟩, ⟨some 9, none, .mov (.c (.i .i64 (0)))⟩] [1, 2, 3, 7, 8, 9]) (.block 0 (.loop (.seq (.reg [⟨some 10, none, .bin .lss (.t 9) (.t 8)⟩] [1, 2, 3, 7, 8, 9, 10]) (.seq (.cond (.t 10) (.skip) (.exit 0)) (.seq (.block 1 (.seq (.reg [⟨some 11, none, .mov (.t 9)⟩, ⟨some 12, none, .ixs 8 (.t 7) (.t 9)⟩, ⟨some 13, none, .ld (some 8) (.t 12)⟩, ⟨some 5, none, .alloc [.i .i64 (0), .i .i64 (0), .i .i64 (0), .i .i64 (0), .i .i64 (0), .i .i64 (0), .i .i64 (0), .i .i64 (0)]⟩, ⟨some 4, none, .mov (.t 11)⟩, ⟨none, none, .st 8 (.t 5) (.t 13)⟩] [1, 2, 3, 4, 5, 7, 8, 9]) (.seq (.seq (.reg [⟨some 14, none, .mov (.t 4)⟩, ⟨some 15, none, .bin .gtr (.t 14) (.c (.i .i64 (0)))⟩] [1, 2, 3, 5, 7, 8, 9, 15]) (.cond (.t 15) (.reg [⟨some 16, none, .mov (.t 3)⟩, ⟨some 17, none, .fad 0 (.t 1)⟩, ⟨some 18, none, .ld (some 2) (.t 17)⟩, ⟨some 19, none, .bsl false 2 1 [.i .i64 (0), .i .i64 (0)] [(0, (.t 18))]⟩, ⟨some 20, none, .app 2 16 (.t 16) (.t 19)⟩, ⟨some 3, none, .mov (.t 20)⟩] [1, 2, 3, 5, 7, 8, 9]) (.skip))) (.reg [⟨some 21, none, .mov (.t 3)⟩, ⟨some 22, none, .fad 5 (.t 5)⟩, ⟨some 23, none, .ld (some 2) (.t 22)⟩, ⟨some 24, none, .bsl false 2 1 [.i .i64 (0), .i .i64 (0)] [(0, (.t 23))]⟩, ⟨some 25, none, .app 2 16 (.t 21) (.t 24)⟩, ⟨some 3, none, .mov (.t 25)⟩] [1, 2, 3, 7, 8, 9])))) (.reg [⟨some 26, none, .bin .add (.t 9) (.c (.i .i64 (1)))⟩, ⟨some 9, none, .mov (.t 26)⟩] [1, 2, 3, 7, 8, 9]))))))) (.seq (.reg [⟨some 27, none, .mov (.t 3)⟩, ⟨some 28, none, .calv (.c (.fn (.func f0) [] [])) [.t 27]⟩, ⟨none, none, .st 2 (.t 2) (.t 28)⟩] [2]) (.ret))))
abbrev Low_bung_height (P : Program) (f f0 : Nat) : Prop := lowF P f = some (29, [.cell 2 (some 2)], (ic_bung_height f0).erase)
def ic_bung_lean : IC := .seq (.reg [⟨some 1, none, .box (.t 0)⟩, ⟨some 2, none, .mov (.c (.i .i64 (0)))⟩] [1]) (.seq (.reg [⟨some 3, none, .mov (.c (.i .i64 (0)))⟩, ⟨some 4, none, .mov (.c (.i .i64 (0)))⟩] [1, 3, 4]) (.seq (.seq (.reg [⟨some 6, none, .fad 2 (.t 1)⟩, ⟨some 7, none, .ld none (.t 6)⟩, ⟨some 8, none, .len false (.t 7)⟩, ⟨some 9, none, .bin .sub (.t 8) (.c (.i .i64 (1)))⟩, ⟨some 5, none, .mov (.t 9)⟩] [1, 3, 4, 5]) (.block 0 (.loop (.seq (.seq (.reg [⟨some 10, none, .mov (.t 5)⟩, ⟨some 11, none, .bin .gtr (.t 10) (.c (.i .i64 (0)))⟩] [1, 3, 4, 5, 11]) (.cond (.t 11) (.skip) (.exit 0))) (.seq (.block 1 (.seq (.reg [⟨some 14, none, .mov (.t 4)⟩, ⟨some 15, none, .fad 2 (.t 1)⟩, ⟨some 16, none, .ld none (.t 15)⟩, ⟨some 17, none, .mov (.t 5)⟩, ⟨some 18, none, .ixs 8 (.t 16) (.t 17)⟩, ⟨some 19, none, .fad 5 (.t 18)⟩, ⟨some 20, none, .fad 1 (.t 19)⟩, ⟨some 21, none, .ld none (.t 20)⟩, ⟨some 22, none, .bin .add (.t 14) (.t 21)⟩, ⟨some 4, none, .mov (.t 22)⟩] [1, 3, 4, 5]) (.seq (.reg [⟨some 23, none, .mov (.t 3)⟩, ⟨some 24, none, .fad 2 (.t 1)⟩, ⟨some 25, none, .ld none (.t 24)⟩, ⟨some 26, none, .mov (.t 5)⟩, ⟨some 27, none, .ixs 8 (.t 25) (.t 26)⟩, ⟨some 28, none, .fad 7 (.t 27)⟩, ⟨some 29, none, .ld none (.t 28)⟩, ⟨some 30, none, .mov (.t 4)⟩, ⟨some 31, none, .bin .mul (.t 29) (.t 30)⟩, ⟨some 32, none, .bin .add (.t 23) (.t 31)⟩, ⟨some 3, none, .mov (.t 32)⟩] [1, 3, 4, 5]) (.reg [⟨some 33, none, .mov (.t 4)⟩, ⟨some 34, none, .fad 0 (.t 1)⟩, ⟨some 35, none, .fad 1 (.t 34)⟩, ⟨some 36, none, .ld none (.t 35)⟩, ⟨some 37, none, .bin .add (.t 33) (.t 36)⟩, ⟨some 4, none, .mov (.t 37)⟩] [1, 3, 4, 5])))) (.reg [⟨some 12, none, .mov (.t 5)⟩, ⟨some 13, none, .bin .sub (.t 12) (.c (.i .i64 (1)))⟩, ⟨some 5, none, .mov (.t 13)⟩] [1, 3, 4, 5])))))) (.seq (.reg [⟨some 38, none, .mov (.t 3)⟩, ⟨some 39, none, .bin .add (.t 38) (.c (.i .i64 (999)))⟩, ⟨some 40, none, .bin .quo (.t 39) (.c (.i .i64 (1000)))⟩, ⟨some 2, none, .mov (.t 40)⟩] [2]) (.ret))))
abbrev Low_bung_lean (P : Program) (f : Nat) : Prop := lowF P f = some (41, [.tmp 2], (ic_bung_lean).erase)
def ic_bung_fits (f0 f1 f2 f3 : Nat) : IC := .seq (.reg [⟨some 2, none, .box (.t 0)⟩, ⟨some 3, none, .box (.t 1)⟩, ⟨some 4, none, .mov (.c (.i .i64 (0)))⟩] [2, 3]) (.seq (.drg [(0, ⟨some 7, none, .ld (some 3) (.t 2)⟩), (0, ⟨some 8, none, .calv (.c (.fn (.func f0) [] [])) [.t 7]⟩), (0, ⟨some 9, none, .fad 2 (.t 2)⟩), (0, ⟨some 10, none, .ld none (.t 9)⟩), (0, ⟨some 11, none, .calv (.c (.fn (.func f1) [] [])) [.t 10]⟩), (0, ⟨some 12, none, .calv (.c (.fn (.func f2) [] [])) [.t 11]⟩), (2, ⟨some 5, none, .alloc [.i .i64 (0), .i .i64 (0)]⟩), (1, ⟨none, none, .st 2 (.t 5) (.t 8)⟩), (0, ⟨some 6, none, .mov (.t 12)⟩)] 7 [2, 3, 5, 6]) (.seq (.block 0 (.seq (.reg [⟨some 14, none, .fad 0 (.t 5)⟩, ⟨some 15, none, .ld none (.t 14)⟩, ⟨some 16, none, .fad 0 (.t 3)⟩, ⟨some 17, none, .ld none (.t 16)⟩, ⟨some 18, none, .bin .gtr (.t 15) (.t 17)⟩, ⟨some 19, none, .mov (.t 18)⟩, ⟨some 20, some (19, false), .mov (.t 6)⟩, ⟨some 21, some (19, false), .bin .eql (.t 20) (.c (.i .i64 (0)))⟩, ⟨some 22, none, .pick (.t 19) (.c (.b true)) (.t 21)⟩, ⟨some 13, none, .mov (.t 22)⟩] [2, 3, 5, 6, 13]) (.cond (.t 13) (.seq (.reg [⟨some 4, none, .mov (.c (.i .i64 (0)))⟩] [4]) (.ret)) (.seq (.drg [(0, ⟨some 24, none, .fad 1 (.t 5)⟩), (0, ⟨some 25, none, .ld none (.t 24)⟩), (0, ⟨some 26, none, .fad 0 (.t 3)⟩), (0, ⟨some 27, none, .ld none (.t 26)⟩), (0, ⟨some 28, none, .bin .leq (.t 25) (.t 27)⟩), (0, ⟨some 29, none, .mov (.t 28)⟩), (0, ⟨some 30, some (29, true), .ld (some 3) (.t 2)⟩), (0, ⟨some 31, some (29, true), .calv (.c (.fn (.func f3) [] [])) [.t 30]⟩), (0, ⟨some 32, some (29, true), .fad 1 (.t 3)⟩), (0, ⟨some 33, some (29, true), .ld none (.t 32)⟩), (0, ⟨some 34, some (29, true), .bin .leq (.t 31) (.t 33)⟩), (0, ⟨some 35, none, .pick (.t 29) (.t 34) (.c (.b false))⟩), (0, ⟨some 36, none, .mov (.t 35)⟩), (0, ⟨some 37, some (36, true), .mov (.t 6)⟩), (0, ⟨some 38, some (36, true), .bin .eql (.t 37) (.c (.i .i64 (1)))⟩), (0, ⟨some 39, none, .pick (.t 36) (.t 38) (.c (.b false))⟩), (0, ⟨some 23, none, .mov (.t 39)⟩)] 10 [23]) (.cond (.t 23) (.seq (.reg [⟨some 4, none, .mov (.c (.i .i64 (1)))⟩] [4]) (.ret)) (.skip)))))) (.seq (.reg [⟨some 4, none, .mov (.c (.i .i64 (2)))⟩] [4]) (.ret))))
abbrev Low_bung_fits (P : Program) (f f0 f1 f2 f3 : Nat) : Prop := lowF P f = some (40, [.tmp 4], (ic_bung_fits f0 f1 f2 f3).erase)
def ic_bung_isBung (f0 f1 : Nat) : IC := .seq (.reg [⟨some 1, none, .box (.t 0)⟩, ⟨some 2, none, .mov (.c (.b false))⟩] [1]) (.seq (.reg [⟨some 3, none, .fad 0 (.t 1)⟩, ⟨some 4, none, .ld (some 2) (.t 3)⟩, ⟨some 5, none, .calv (.c (.fn (.func f0) [] [])) [.t 4]⟩, ⟨some 6, none, .mov (.t 5)⟩, ⟨some 7, some (6, true), .fad 2 (.t 1)⟩, ⟨some 8, some (6, true), .ld none (.t 7)⟩, ⟨some 9, some (6, true), .len false (.t 8)⟩, ⟨some 10, some (6, true), .bin .gtr (.t 9) (.c (.i .i64 (0)))⟩, ⟨some 11, none, .pick (.t 6) (.t 10) (.c (.b false))⟩, ⟨some 12, none, .mov (.t 11)⟩, ⟨some 13, some (12, true), .fad 2 (.t 1)⟩, ⟨some 14, some (12, true), .ld none (.t 13)⟩, ⟨some 15, some (12, true), .calv (.c (.fn (.func f1) [] [])) [.t 14]⟩, ⟨some 16, none, .pick (.t 12) (.t 15) (.c (.b false))⟩, ⟨some 2, none, .mov (.t 16)⟩] [2]) (.ret))
abbrev Low_bung_isBung (P : Program) (f f0 f1 : Nat) : Prop := lowF P f = some (17, [.tmp 2], (ic_bung_isBung f0 f1).erase)
def ic_bung_isWad (f0 : Nat) : IC := .seq (.reg [⟨some 1, none, .box (.t 0)⟩, ⟨some 2, none, .mov (.c (.b false))⟩] [1]) (.seq (.reg [⟨some 3, none, .ld (some 2) (.t 1)⟩, ⟨some 4, none, .calv (.c (.fn (.func f0) [] [])) [.t 3, .c (.i .i64 (0)), .c (.i .i64 (200))]⟩, ⟨some 2, none, .mov (.t 4)⟩] [2]) (.ret))
abbrev Low_bung_isWad (P : Program) (f f0 : Nat) : Prop := lowF P f = some (5, [.tmp 2], (ic_bung_isWad f0).erase)
def ic_bung_isSpot (f0 : Nat) : IC := .seq (.reg [⟨some 1, none, .box (.t 0)⟩, ⟨some 2, none, .mov (.c (.b false))⟩] [1]) (.seq (.reg [⟨some 3, none, .fad 0 (.t 1)⟩, ⟨some 4, none, .ld none (.t 3)⟩, ⟨some 5, none, .calv (.c (.fn (.func f0) [] [])) [.t 4, .c (.i .i64 (0)), .c (.i .i64 (400000))]⟩, ⟨some 6, none, .mov (.t 5)⟩, ⟨some 7, some (6, true), .fad 1 (.t 1)⟩, ⟨some 8, some (6, true), .ld none (.t 7)⟩, ⟨some 9, some (6, true), .calv (.c (.fn (.func f0) [] [])) [.t 8, .c (.i .i64 (0)), .c (.i .i64 (100000))]⟩, ⟨some 10, none, .pick (.t 6) (.t 9) (.c (.b false))⟩, ⟨some 2, none, .mov (.t 10)⟩] [2]) (.ret))
abbrev Low_bung_isSpot (P : Program) (f f0 : Nat) : Prop := lowF P f = some (11, [.tmp 2], (ic_bung_isSpot f0).erase)
def ic_bung_Loads (f0 f1 : Nat) : IC := .seq (.reg [⟨some 1, none, .box (.t 0)⟩, ⟨some 2, none, .mov (.c (.nsl))⟩, ⟨some 3, none, .mov (.c (.i .i64 (0)))⟩] [1]) (.seq (.seq (.reg [⟨some 4, none, .ld (some 3) (.t 1)⟩, ⟨some 5, none, .calv (.c (.fn (.func f0) [] [])) [.t 4]⟩, ⟨some 6, none, .un .not (.t 5)⟩] [1, 6]) (.cond (.t 6) (.seq (.reg [⟨some 2, none, .mov (.c (.nsl))⟩, ⟨some 3, none, .mov (.c (.i .i64 (31)))⟩] [2, 3]) (.ret)) (.skip))) (.seq (.reg [⟨some 7, none, .fad 2 (.t 1)⟩, ⟨some 8, none, .ld none (.t 7)⟩, ⟨some 9, none, .calv (.c (.fn (.func f1) [] [])) [.t 8]⟩, ⟨some 2, none, .mov (.t 9)⟩, ⟨some 3, none, .mov (.c (.i .i64 (0)))⟩] [2, 3]) (.ret)))
abbrev Low_bung_Loads (P : Program) (f f0 f1 : Nat) : Prop := lowF P f = some (10, [.tmp 2, .tmp 3], (ic_bung_Loads f0 f1).erase)
def ic_bung_Stands (f0 f1 f2 : Nat) : IC := .seq (.reg [⟨some 1, none, .box (.t 0)⟩, ⟨some 2, none, .mov (.c (.i .i64 (0)))⟩, ⟨some 3, none, .mov (.c (.i .i64 (0)))⟩] [1]) (.seq (.seq (.reg [⟨some 4, none, .ld (some 3) (.t 1)⟩, ⟨some 5, none, .calv (.c (.fn (.func f0) [] [])) [.t 4]⟩, ⟨some 6, none, .un .not (.t 5)⟩] [1, 6]) (.cond (.t 6) (.seq (.reg [⟨some 2, none, .mov (.c (.i .i64 (0)))⟩, ⟨some 3, none, .mov (.c (.i .i64 (31)))⟩] [2, 3]) (.ret)) (.skip))) (.seq (.reg [⟨some 7, none, .fad 2 (.t 1)⟩, ⟨some 8, none, .ld none (.t 7)⟩, ⟨some 9, none, .calv (.c (.fn (.func f1) [] [])) [.t 8]⟩, ⟨some 10, none, .calv (.c (.fn (.func f2) [] [])) [.t 9]⟩, ⟨some 2, none, .mov (.t 10)⟩, ⟨some 3, none, .mov (.c (.i .i64 (0)))⟩] [2, 3]) (.ret)))
abbrev Low_bung_Stands (P : Program) (f f0 f1 f2 : Nat) : Prop := lowF P f = some (11, [.tmp 2, .tmp 3], (ic_bung_Stands f0 f1 f2).erase)
def ic_bung_Lean (f0 f1 : Nat) : IC := .seq (.reg [⟨some 1, none, .box (.t 0)⟩, ⟨some 2, none, .mov (.c (.i .i64 (0)))⟩, ⟨some 3, none, .mov (.c (.i .i64 (0)))⟩] [1]) (.seq (.seq (.reg [⟨some 4, none, .ld (some 3) (.t 1)⟩, ⟨some 5, none, .calv (.c (.fn (.func f0) [] [])) [.t 4]⟩, ⟨some 6, none, .un .not (.t 5)⟩] [1, 6]) (.cond (.t 6) (.seq (.reg [⟨some 2, none, .mov (.c (.i .i64 (0)))⟩, ⟨some 3, none, .mov (.c (.i .i64 (31)))⟩] [2, 3]) (.ret)) (.skip))) (.seq (.reg [⟨some 7, none, .ld (some 3) (.t 1)⟩, ⟨some 8, none, .calv (.c (.fn (.func f1) [] [])) [.t 7]⟩, ⟨some 2, none, .mov (.t 8)⟩, ⟨some 3, none, .mov (.c (.i .i64 (0)))⟩] [2, 3]) (.ret)))
abbrev Low_bung_Lean (P : Program) (f f0 f1 : Nat) : Prop := lowF P f = some (9, [.tmp 2, .tmp 3], (ic_bung_Lean f0 f1).erase)
theorem frz2 {n : Nat} {H : List Blk} {a a' b b' : V} (h1 : Frz n H a a') (h2 : Frz n H b b') : Frz n H (resV [a, b]) (.tup [a', b']) := .tup _ _ rfl fun j v v' e1 e2 => by
  match j with
  | 0 => simp at e1 e2; subst e1 e2; exact h1
  | 1 => simp at e1 e2; subst e1 e2; exact h2
  | j + 2 => simp at e1

def C_Index (P : Program) (f : Nat) : Prop := ∀ (l : List Int) (n : Int), l.length < 1000000000 → Snd P f [.fsl (l.map intC), .i .i64 n] [] (.i .i64 (match l.findIdx? (· == n) with | some k => (k : Int) | none => -1)) []
theorem ok_Index (hm : P.follows .mixedOrders = true) {f : Nat} (low : Low_slices_Index_Sint_int P f) : C_Index P f := by
  intro l n hl
  refine snd_ic hm low (by simp) ?_
  unfold ic_slices_Index_Sint_int
  simp -dsimp -implicitDefEqProofs only [qq, Nat.reduceBEq, reduceIte, Nat.reduceAdd, Nat.reduceSub, Nat.reduceLeDiff, Nat.reduceLT, Nat.reduceMul, Nat.reduceEqDiff, Int.reduceEq, Int.reduceBEq, Int.reduceBNe, Int.reduceLT, Int.reduceLE, Int.reduceGT, Int.reduceGE, Int.reduceNeg, Int.reduceAdd, Int.reduceSub, reduceCtorEq, List.reduceReplicate, ← List.map_take, ← List.map_drop]
  refine loopI_st (fun k : Nat => l.length - k) (fun k E H => k ≤ l.length ∧ E = [(0, .fsl (l.map intC)), (1, .i .i64 n), (7, .i .i64 l.length), (8, .i .i64 k)] ∧ (∀ j, j < k → l[j]? ≠ some n)) 0 ⟨by omega, rfl, by simp⟩ ?_
  rintro k _ H ⟨hk, rfl, hn⟩
  simp -dsimp -implicitDefEqProofs only [qq, Nat.reduceBEq, reduceIte, Nat.reduceAdd, Nat.reduceSub, Nat.reduceLeDiff, Nat.reduceLT, Nat.reduceMul, Nat.reduceEqDiff, Int.reduceEq, Int.reduceBEq, Int.reduceBNe, Int.reduceLT, Int.reduceLE, Int.reduceGT, Int.reduceGE, Int.reduceNeg, Int.reduceAdd, Int.reduceSub, reduceCtorEq, List.reduceReplicate, ← List.map_take, ← List.map_drop]
  refine brG_of (fun hlt => ?_) (fun hge => ?_)
  · have hkl : k < l.length := by simpa using hlt
    obtain ⟨x, hx, _, _, _⟩ := next_of hkl
    have hwk : IntKind.i64.wrap ((k : Int) + 1) = ((k + 1 : Nat) : Int) := wrap_succ (by omega)
    simp -dsimp -implicitDefEqProofs only [hx, intC, qq, Nat.reduceBEq, reduceIte, Nat.reduceAdd, Nat.reduceSub, Nat.reduceLeDiff, Nat.reduceLT, Nat.reduceMul, Nat.reduceEqDiff, Int.reduceEq, Int.reduceBEq, Int.reduceBNe, Int.reduceLT, Int.reduceLE, Int.reduceGT, Int.reduceGE, Int.reduceNeg, Int.reduceAdd, Int.reduceSub, reduceCtorEq, List.reduceReplicate, ← List.map_take, ← List.map_drop]
    refine brG_of (fun he => ?_) (fun he => ?_)
    · simp -dsimp -implicitDefEqProofs only [qq, Nat.reduceBEq, reduceIte, Nat.reduceAdd, Nat.reduceSub, Nat.reduceLeDiff, Nat.reduceLT, Nat.reduceMul, Nat.reduceEqDiff, Int.reduceEq, Int.reduceBEq, Int.reduceBNe, Int.reduceLT, Int.reduceLE, Int.reduceGT, Int.reduceGE, Int.reduceNeg, Int.reduceAdd, Int.reduceSub, reduceCtorEq, List.reduceReplicate, ← List.map_take, ← List.map_drop]
      refine Ends.plain rfl rfl ?_
      have : l.findIdx? (· == n) = some k := by
        rw [List.findIdx?_eq_some_iff_getElem]
        refine ⟨hkl, ?_, fun j hj => ?_⟩
        · rw [List.getElem?_eq_some_iff] at hx; obtain ⟨_, rfl⟩ := hx; simp at he; simp [he]
        · have := hn j hj; rw [List.getElem?_eq_getElem (by omega)] at this; simpa using this
      rw [this]; rfl
    · simp -dsimp -implicitDefEqProofs only [hwk, qq, Nat.reduceBEq, reduceIte, Nat.reduceAdd, Nat.reduceSub, Nat.reduceLeDiff, Nat.reduceLT, Nat.reduceMul, Nat.reduceEqDiff, Int.reduceEq, Int.reduceBEq, Int.reduceBNe, Int.reduceLT, Int.reduceLE, Int.reduceGT, Int.reduceGE, Int.reduceNeg, Int.reduceAdd, Int.reduceSub, reduceCtorEq, List.reduceReplicate, ← List.map_take, ← List.map_drop]
      refine ⟨k + 1, by omega, by omega, rfl, fun j hj => ?_⟩
      rcases Nat.lt_succ_iff_lt_or_eq.1 hj with h | rfl
      · exact hn j h
      · rw [hx]; simp at he ⊢; exact fun e => he e.symm
  · obtain rfl : k = l.length := by simp at hge; omega
    simp -dsimp -implicitDefEqProofs only [qq, Nat.reduceBEq, reduceIte, Nat.reduceAdd, Nat.reduceSub, Nat.reduceLeDiff, Nat.reduceLT, Nat.reduceMul, Nat.reduceEqDiff, Int.reduceEq, Int.reduceBEq, Int.reduceBNe, Int.reduceLT, Int.reduceLE, Int.reduceGT, Int.reduceGE, Int.reduceNeg, Int.reduceAdd, Int.reduceSub, reduceCtorEq, List.reduceReplicate, ← List.map_take, ← List.map_drop]
    refine Ends.plain rfl rfl ?_
    have : l.findIdx? (· == n) = none := by
      rw [List.findIdx?_eq_none_iff]
      intro x hx
      obtain ⟨j, hj⟩ := List.getElem?_of_mem hx
      have := hn j (List.getElem?_eq_some_iff.1 hj).1
      rw [hj] at this; simpa using this
    rw [this]; rfl

def C_Contains (P : Program) (f : Nat) : Prop := ∀ (l : List Int) (n : Int), l.length < 1000000000 → Snd P f [.fsl (l.map intC), .i .i64 n] [] (.b (decide (n ∈ l))) []
theorem ok_Contains (hm : P.follows .mixedOrders = true) {f f0 : Nat} (low : Low_slices_Contains_Sint_int P f f0) (h0 : C_Index P f0) : C_Contains P f := by
  intro l n hl
  refine snd_ic hm low (by simp) ?_
  unfold ic_slices_Contains_Sint_int
  simp -dsimp -implicitDefEqProofs only [qq, Nat.reduceBEq, reduceIte, Nat.reduceAdd, Nat.reduceSub, Nat.reduceLeDiff, Nat.reduceLT, Nat.reduceMul, Nat.reduceEqDiff, Int.reduceEq, Int.reduceBEq, Int.reduceBNe, Int.reduceLT, Int.reduceLE, Int.reduceGT, Int.reduceGE, Int.reduceNeg, Int.reduceAdd, Int.reduceSub, reduceCtorEq, List.reduceReplicate, ← List.map_take, ← List.map_drop]
  refine callI_pure (h0 l n hl) rfl rfl ?_
  simp -dsimp -implicitDefEqProofs only [qq, Nat.reduceBEq, reduceIte, Nat.reduceAdd, Nat.reduceSub, Nat.reduceLeDiff, Nat.reduceLT, Nat.reduceMul, Nat.reduceEqDiff, Int.reduceEq, Int.reduceBEq, Int.reduceBNe, Int.reduceLT, Int.reduceLE, Int.reduceGT, Int.reduceGE, Int.reduceNeg, Int.reduceAdd, Int.reduceSub, reduceCtorEq, List.reduceReplicate, ← List.map_take, ← List.map_drop]
  refine Ends.plain rfl rfl ?_
  simp only [resV]
  congr 1
  cases h : l.findIdx? (· == n) with
  | none =>
    rw [List.findIdx?_eq_none_iff] at h
    have : n ∉ l := fun hm => by have := h n hm; simp at this
    simp [this]
  | some k =>
    rw [List.findIdx?_eq_some_iff_getElem] at h
    obtain ⟨h1, h2, _⟩ := h
    have : n ∈ l := by simp at h2; rw [← h2]; simp
    simp [this]

def allS (l : List Int) : Int := if 0 ∈ l then 0 else if 2 ∈ l then 2 else 1
def C_all (P : Program) (f : Nat) : Prop := ∀ (l : List Int), l.length < 1000000000 → Snd P f [.fsl (l.map intC)] [] (.i .i64 (allS l)) []
theorem ok_all (hm : P.follows .mixedOrders = true) {f f0 : Nat} (low : Low_bung_all P f f0) (h0 : C_Contains P f0) : C_all P f := by
  intro l hl
  refine snd_ic hm low (by simp) ?_
  unfold ic_bung_all
  simp -dsimp -implicitDefEqProofs only [qq, Nat.reduceBEq, reduceIte, Nat.reduceAdd, Nat.reduceSub, Nat.reduceLeDiff, Nat.reduceLT, Nat.reduceMul, Nat.reduceEqDiff, Int.reduceEq, Int.reduceBEq, Int.reduceBNe, Int.reduceLT, Int.reduceLE, Int.reduceGT, Int.reduceGE, Int.reduceNeg, Int.reduceAdd, Int.reduceSub, reduceCtorEq, List.reduceReplicate, ← List.map_take, ← List.map_drop]
  repeat' (first | (refine brG_of (fun h => ?_) (fun h => ?_) <;> simp -dsimp -implicitDefEqProofs only [h, qq, Nat.reduceBEq, reduceIte, Nat.reduceAdd, Nat.reduceSub, Nat.reduceLeDiff, Nat.reduceLT, Nat.reduceMul, Nat.reduceEqDiff, Int.reduceEq, Int.reduceBEq, Int.reduceBNe, Int.reduceLT, Int.reduceLE, Int.reduceGT, Int.reduceGE, Int.reduceNeg, Int.reduceAdd, Int.reduceSub, reduceCtorEq, List.reduceReplicate, ← List.map_take, ← List.map_drop]) | (refine callI_pure (h0 _ _ hl) rfl rfl ?_; simp -dsimp -implicitDefEqProofs only [qq, Nat.reduceBEq, reduceIte, Nat.reduceAdd, Nat.reduceSub, Nat.reduceLeDiff, Nat.reduceLT, Nat.reduceMul, Nat.reduceEqDiff, Int.reduceEq, Int.reduceBEq, Int.reduceBNe, Int.reduceLT, Int.reduceLE, Int.reduceGT, Int.reduceGE, Int.reduceNeg, Int.reduceAdd, Int.reduceSub, reduceCtorEq, List.reduceReplicate, ← List.map_take, ← List.map_drop]))
  all_goals exact Ends.plain rfl rfl (by simp only [resV, allS]; grind)

def standsS (l : List Sag) : Int := allS (coursesS l)
abbrev bungC (w : Rg) (l : List Sag) : List V := [.i .i64 w.lo, .i .i64 w.hi, .fsl (l.map Sag.c)]
def bungB (w : Rg) (l : List Sag) : Bool := rgB w 0 200 && decide (0 < l.length) && listB l
theorem bung_list {w : Rg} {l : List Sag} (h : bungB w l = true) : listB l = true := by simp [bungB] at h; exact h.2
theorem bung_wad {w : Rg} {l : List Sag} (h : bungB w l = true) : rgB w 0 200 = true := by simp [bungB] at h; exact h.1.1

def C_isWad (P : Program) (f : Nat) : Prop := ∀ (w : Rg), Snd P f [.agg w.c] [] (.b (rgB w 0 200)) []
theorem ok_isWad (hm : P.follows .mixedOrders = true) {f f0 : Nat} (low : Low_bung_isWad P f f0) (h0 : C_isRange P f0) : C_isWad P f := by
  intro w
  refine snd_ic hm low (by simp) ?_
  unfold ic_bung_isWad
  simp -dsimp -implicitDefEqProofs only [qq, Nat.reduceBEq, reduceIte, Nat.reduceAdd, Nat.reduceSub, Nat.reduceLeDiff, Nat.reduceLT, Nat.reduceMul, Nat.reduceEqDiff, Int.reduceEq, Int.reduceBEq, Int.reduceBNe, Int.reduceLT, Int.reduceLE, Int.reduceGT, Int.reduceGE, Int.reduceNeg, Int.reduceAdd, Int.reduceSub, reduceCtorEq, List.reduceReplicate, ← List.map_take, ← List.map_drop]
  repeat' (first | (refine brG_of (fun h => ?_) (fun h => ?_) <;> simp -dsimp -implicitDefEqProofs only [h, qq, Nat.reduceBEq, reduceIte, Nat.reduceAdd, Nat.reduceSub, Nat.reduceLeDiff, Nat.reduceLT, Nat.reduceMul, Nat.reduceEqDiff, Int.reduceEq, Int.reduceBEq, Int.reduceBNe, Int.reduceLT, Int.reduceLE, Int.reduceGT, Int.reduceGE, Int.reduceNeg, Int.reduceAdd, Int.reduceSub, reduceCtorEq, List.reduceReplicate, ← List.map_take, ← List.map_drop]) | (refine callI_pure (h0 w _ _) rfl rfl ?_; simp -dsimp -implicitDefEqProofs only [qq, Nat.reduceBEq, reduceIte, Nat.reduceAdd, Nat.reduceSub, Nat.reduceLeDiff, Nat.reduceLT, Nat.reduceMul, Nat.reduceEqDiff, Int.reduceEq, Int.reduceBEq, Int.reduceBNe, Int.reduceLT, Int.reduceLE, Int.reduceGT, Int.reduceGE, Int.reduceNeg, Int.reduceAdd, Int.reduceSub, reduceCtorEq, List.reduceReplicate, ← List.map_take, ← List.map_drop]))
  all_goals exact Ends.plain rfl rfl (by first | (simp_all [resV, Rg.c]; done) | (simp_all [resV, Rg.c]; omega) | (simp only [resV, Rg.c]; grind))
def C_isBung (P : Program) (f : Nat) : Prop := ∀ (w : Rg) (l : List Sag), Snd P f [.agg (bungC w l)] [] (.b (bungB w l)) []
theorem ok_isBung (hm : P.follows .mixedOrders = true) {f f0 f1 : Nat} (low : Low_bung_isBung P f f0 f1) (h0 : C_isWad P f0) (h1 : C_isList P f1) : C_isBung P f := by
  intro w l
  refine snd_ic hm low (by simp) ?_
  unfold ic_bung_isBung
  simp -dsimp -implicitDefEqProofs only [qq, Nat.reduceBEq, reduceIte, Nat.reduceAdd, Nat.reduceSub, Nat.reduceLeDiff, Nat.reduceLT, Nat.reduceMul, Nat.reduceEqDiff, Int.reduceEq, Int.reduceBEq, Int.reduceBNe, Int.reduceLT, Int.reduceLE, Int.reduceGT, Int.reduceGE, Int.reduceNeg, Int.reduceAdd, Int.reduceSub, reduceCtorEq, List.reduceReplicate, ← List.map_take, ← List.map_drop]
  repeat' (first | (refine brG_of (fun h => ?_) (fun h => ?_) <;> simp -dsimp -implicitDefEqProofs only [h, qq, Nat.reduceBEq, reduceIte, Nat.reduceAdd, Nat.reduceSub, Nat.reduceLeDiff, Nat.reduceLT, Nat.reduceMul, Nat.reduceEqDiff, Int.reduceEq, Int.reduceBEq, Int.reduceBNe, Int.reduceLT, Int.reduceLE, Int.reduceGT, Int.reduceGE, Int.reduceNeg, Int.reduceAdd, Int.reduceSub, reduceCtorEq, List.reduceReplicate, ← List.map_take, ← List.map_drop]) | (refine callI_pure (h0 w) rfl rfl ?_; simp -dsimp -implicitDefEqProofs only [qq, Nat.reduceBEq, reduceIte, Nat.reduceAdd, Nat.reduceSub, Nat.reduceLeDiff, Nat.reduceLT, Nat.reduceMul, Nat.reduceEqDiff, Int.reduceEq, Int.reduceBEq, Int.reduceBNe, Int.reduceLT, Int.reduceLE, Int.reduceGT, Int.reduceGE, Int.reduceNeg, Int.reduceAdd, Int.reduceSub, reduceCtorEq, List.reduceReplicate, ← List.map_take, ← List.map_drop]) | (refine callI_pure (h1 l) rfl rfl ?_; simp -dsimp -implicitDefEqProofs only [qq, Nat.reduceBEq, reduceIte, Nat.reduceAdd, Nat.reduceSub, Nat.reduceLeDiff, Nat.reduceLT, Nat.reduceMul, Nat.reduceEqDiff, Int.reduceEq, Int.reduceBEq, Int.reduceBNe, Int.reduceLT, Int.reduceLE, Int.reduceGT, Int.reduceGE, Int.reduceNeg, Int.reduceAdd, Int.reduceSub, reduceCtorEq, List.reduceReplicate, ← List.map_take, ← List.map_drop]))
  all_goals exact Ends.plain rfl rfl (by first | (simp_all [resV, bungB]; done) | (simp_all [resV, bungB]; omega) | (simp only [resV, bungB]; grind))

structure Spt where
  crown : Int
  lean : Int
  deriving DecidableEq, Inhabited
abbrev Spt.c (s : Spt) : List V := [.i .i64 s.crown, .i .i64 s.lean]
def spotB (s : Spt) : Bool := inR s.crown 0 400000 && inR s.lean 0 100000
def C_isSpot (P : Program) (f : Nat) : Prop := ∀ (s : Spt), Snd P f [.agg s.c] [] (.b (spotB s)) []
theorem ok_isSpot (hm : P.follows .mixedOrders = true) {f f0 : Nat} (low : Low_bung_isSpot P f f0) (h0 : C_within P f0) : C_isSpot P f := by
  intro s
  refine snd_ic hm low (by simp) ?_
  unfold ic_bung_isSpot
  simp -dsimp -implicitDefEqProofs only [qq, Nat.reduceBEq, reduceIte, Nat.reduceAdd, Nat.reduceSub, Nat.reduceLeDiff, Nat.reduceLT, Nat.reduceMul, Nat.reduceEqDiff, Int.reduceEq, Int.reduceBEq, Int.reduceBNe, Int.reduceLT, Int.reduceLE, Int.reduceGT, Int.reduceGE, Int.reduceNeg, Int.reduceAdd, Int.reduceSub, reduceCtorEq, List.reduceReplicate, ← List.map_take, ← List.map_drop]
  repeat' (first | (refine brG_of (fun h => ?_) (fun h => ?_) <;> simp -dsimp -implicitDefEqProofs only [h, qq, Nat.reduceBEq, reduceIte, Nat.reduceAdd, Nat.reduceSub, Nat.reduceLeDiff, Nat.reduceLT, Nat.reduceMul, Nat.reduceEqDiff, Int.reduceEq, Int.reduceBEq, Int.reduceBNe, Int.reduceLT, Int.reduceLE, Int.reduceGT, Int.reduceGE, Int.reduceNeg, Int.reduceAdd, Int.reduceSub, reduceCtorEq, List.reduceReplicate, ← List.map_take, ← List.map_drop]) | (refine callI_pure (h0 _ _ _) rfl rfl ?_; simp -dsimp -implicitDefEqProofs only [qq, Nat.reduceBEq, reduceIte, Nat.reduceAdd, Nat.reduceSub, Nat.reduceLeDiff, Nat.reduceLT, Nat.reduceMul, Nat.reduceEqDiff, Int.reduceEq, Int.reduceBEq, Int.reduceBNe, Int.reduceLT, Int.reduceLE, Int.reduceGT, Int.reduceGE, Int.reduceNeg, Int.reduceAdd, Int.reduceSub, reduceCtorEq, List.reduceReplicate, ← List.map_take, ← List.map_drop]))
  all_goals exact Ends.plain rfl rfl (by first | (simp_all [resV, spotB]; done) | (simp_all [resV, spotB]; omega) | (simp only [resV, spotB]; grind))

def C_Check (P : Program) (f : Nat) : Prop := ∀ (w : Rg) (l : List Sag), Snd P f [.agg (bungC w l)] [] (.i .i64 (if bungB w l then 0 else 31)) []
def C_CheckList (P : Program) (f : Nat) : Prop := ∀ (l : List Sag), Snd P f [.fsl (l.map Sag.c)] [] (.i .i64 (if listB l then 0 else 30)) []
def C_CheckSaggar (P : Program) (f : Nat) : Prop := ∀ (s : Sag), Snd P f [.agg s.c] [] (.i .i64 (if sagB s then 0 else 30)) []
end Go.Sh.C3
end
section
namespace Go.Sh.C3
open Go.Sh
set_option maxRecDepth 10000
set_option linter.unusedVariables false
set_option linter.unusedSimpArgs false
variable {P : Program}

/-- The heights of a bung, from below: its saggars', and wads between two. -/
def hsL (w : Rg) : List Sag → List Rg
  | [] => []
  | s :: r => s.h :: r.flatMap fun x => [w, x.h]
theorem hsL_snoc (w : Rg) (l : List Sag) (x : Sag) : hsL w (l ++ [x]) = hsL w l ++ (if l = [] then [x.h] else [w, x.h]) := by
  cases l with
  | nil => rfl
  | cons s r => simp [hsL]
theorem hsL_length (w : Rg) (l : List Sag) : (hsL w l).length ≤ 2 * l.length := by
  cases l with
  | nil => simp [hsL]
  | cons s r => simp [hsL, List.length_flatMap, List.map_const', List.sum_replicate_nat]; omega
def heightS (w : Rg) (l : List Sag) : Rg := sumR (hsL w l)
theorem hsL_le {w : Rg} {l : List Sag} (hw : rgB w 0 200 = true) (hl : ∀ s ∈ l, sagB s = true) : ∀ r ∈ hsL w l, r.le 10000 := by
  intro r hr
  cases l with
  | nil => simp [hsL] at hr
  | cons s l =>
    have key : ∀ x, sagB x = true → x.h.le 10000 := fun x hx => by
      simp [sagB, rgB, inR] at hx
      simp [Rg.le]; omega
    simp only [hsL, List.mem_cons, List.mem_flatMap] at hr
    rcases hr with rfl | ⟨x, hx, rfl | rfl | hr⟩
    · exact key s (hl s (by simp))
    · simp [rgB] at hw; simp [Rg.le]; omega
    · exact key x (hl x (by simp [hx]))
    · simp at hr

def C_height (P : Program) (f : Nat) : Prop := ∀ (w : Rg) (l : List Sag), rgB w 0 200 = true → listB l = true → Snd P f [.agg (bungC w l)] [] (.agg (heightS w l).c) []
theorem ok_height (hm : P.follows .mixedOrders = true) {f f0 : Nat} (low : Low_bung_height P f f0) (h0 : C_sum P f0) : C_height P f := by
  intro w l hw hv
  have hlen := list_len hv
  refine snd_ic hm low (by simp) ?_
  unfold ic_bung_height
  simp -dsimp -implicitDefEqProofs only [qq, Nat.reduceBEq, reduceIte, Nat.reduceAdd, Nat.reduceSub, Nat.reduceLeDiff, Nat.reduceLT, Nat.reduceMul, Nat.reduceEqDiff, Int.reduceEq, Int.reduceBEq, Int.reduceBNe, Int.reduceLT, Int.reduceLE, Int.reduceGT, Int.reduceGE, Int.reduceNeg, Int.reduceAdd, Int.reduceSub, reduceCtorEq, List.reduceReplicate, ← List.map_take, ← List.map_drop]
  refine loopI_st (fun k : Nat => l.length - k) (fun k E H => k ≤ l.length ∧ 2 ≤ H.length ∧ H[0]? = some (.row 3 [bungC w l]) ∧ H[1]? = some (.row 2 [[.i .i64 0, .i .i64 0]]) ∧ ∃ v, E = [(1, .rpt 0 3 0 0), (2, .rpt 1 2 0 0), (3, v), (7, .fsl (l.map Sag.c)), (8, .i .i64 l.length), (9, .i .i64 k)] ∧ OwnF 2 H 2 ((hsL w (l.take k)).map Rg.c) v) 0 ⟨by omega, by simp, rfl, rfl, _, rfl, .nil _ _ _⟩ ?_
  rintro k _ H ⟨hk, hH, g0, g1, v, rfl, ho⟩
  simp -dsimp -implicitDefEqProofs only [qq, Nat.reduceBEq, reduceIte, Nat.reduceAdd, Nat.reduceSub, Nat.reduceLeDiff, Nat.reduceLT, Nat.reduceMul, Nat.reduceEqDiff, Int.reduceEq, Int.reduceBEq, Int.reduceBNe, Int.reduceLT, Int.reduceLE, Int.reduceGT, Int.reduceGE, Int.reduceNeg, Int.reduceAdd, Int.reduceSub, reduceCtorEq, List.reduceReplicate, ← List.map_take, ← List.map_drop]
  refine brG_of (fun hlt => ?_) (fun hge => ?_)
  · have hkl : k < l.length := by simpa using hlt
    obtain ⟨x, hx, hxm, htk, _⟩ := next_of hkl
    have hwk : IntKind.i64.wrap ((k : Int) + 1) = ((k + 1 : Nat) : Int) := wrap_succ (by omega)
    have hls := hsL_length w (l.take k)
    have htl : (l.take k).length ≤ 30 := by rw [List.length_take]; omega
    simp -dsimp -implicitDefEqProofs only [hx, Sag.c, qq, Nat.reduceBEq, reduceIte, Nat.reduceAdd, Nat.reduceSub, Nat.reduceLeDiff, Nat.reduceLT, Nat.reduceMul, Nat.reduceEqDiff, Int.reduceEq, Int.reduceBEq, Int.reduceBNe, Int.reduceLT, Int.reduceLE, Int.reduceGT, Int.reduceGE, Int.reduceNeg, Int.reduceAdd, Int.reduceSub, reduceCtorEq, List.reduceReplicate, ← List.map_take, ← List.map_drop]
    refine brG_of (fun hc => ?_) (fun hc => ?_)
    · have hk0 : 0 < k := by simp at hc; omega
      have hne : l.take k ≠ [] := fun e => by have := congrArg List.length e; rw [List.length_take] at this; simp only [List.length_nil] at this; omega
      simp -dsimp -implicitDefEqProofs only [get_app g0, bungC, Rg.c, qq, Nat.reduceBEq, reduceIte, Nat.reduceAdd, Nat.reduceSub, Nat.reduceLeDiff, Nat.reduceLT, Nat.reduceMul, Nat.reduceEqDiff, Int.reduceEq, Int.reduceBEq, Int.reduceBNe, Int.reduceLT, Int.reduceLE, Int.reduceGT, Int.reduceGE, Int.reduceNeg, Int.reduceAdd, Int.reduceSub, reduceCtorEq, List.reduceReplicate, ← List.map_take, ← List.map_drop]
      refine app_ownF (ys := [w.c]) ho (by omega) (by decide) (by decide) (by simp [Sh.shown, gapp]) (by simp [V.one]) (by simp only [List.length_map, List.length_append, List.length_cons, List.length_nil]; omega) fun v' H' ho' hH' hk' => ?_
      have e0 := hk' 0 _ (.inl (by omega)) (get_app g0 _)
      have e1 := hk' 1 _ (.inl (by omega)) (get_app g1 _)
      have e2 := hk' H.length _ (.inr (Nat.le_refl _)) (by rw [gapp0]; rfl)
      simp at hH'
      simp -dsimp -implicitDefEqProofs only [e2, qq, Nat.reduceBEq, reduceIte, Nat.reduceAdd, Nat.reduceSub, Nat.reduceLeDiff, Nat.reduceLT, Nat.reduceMul, Nat.reduceEqDiff, Int.reduceEq, Int.reduceBEq, Int.reduceBNe, Int.reduceLT, Int.reduceLE, Int.reduceGT, Int.reduceGE, Int.reduceNeg, Int.reduceAdd, Int.reduceSub, reduceCtorEq, List.reduceReplicate, ← List.map_take, ← List.map_drop]
      refine app_ownF (ys := [x.h.c]) ho' (by omega) (by decide) (by decide) (by simp [Sh.shown, gapp]) (by simp [V.one]) (by simp only [List.length_map, List.length_append, List.length_cons, List.length_nil]; omega) fun v2 H2 ho2 hH2 hk2 => ?_
      simp at hH2
      simp -dsimp -implicitDefEqProofs only [hwk, qq, Nat.reduceBEq, reduceIte, Nat.reduceAdd, Nat.reduceSub, Nat.reduceLeDiff, Nat.reduceLT, Nat.reduceMul, Nat.reduceEqDiff, Int.reduceEq, Int.reduceBEq, Int.reduceBNe, Int.reduceLT, Int.reduceLE, Int.reduceGT, Int.reduceGE, Int.reduceNeg, Int.reduceAdd, Int.reduceSub, reduceCtorEq, List.reduceReplicate, ← List.map_take, ← List.map_drop]
      refine ⟨k + 1, by omega, by omega, by omega, hk2 0 _ (.inl (by omega)) (get_app e0 _), hk2 1 _ (.inl (by omega)) (get_app e1 _), v2, rfl, ?_⟩
      rw [htk, hsL_snoc, if_neg hne]
      simpa using ho2
    · have hk0 : k = 0 := by simp at hc; omega
      subst hk0
      have hls0 : (hsL w (l.take 0)).length = 0 := rfl
      simp -dsimp -implicitDefEqProofs only [qq, Nat.reduceBEq, reduceIte, Nat.reduceAdd, Nat.reduceSub, Nat.reduceLeDiff, Nat.reduceLT, Nat.reduceMul, Nat.reduceEqDiff, Int.reduceEq, Int.reduceBEq, Int.reduceBNe, Int.reduceLT, Int.reduceLE, Int.reduceGT, Int.reduceGE, Int.reduceNeg, Int.reduceAdd, Int.reduceSub, reduceCtorEq, List.reduceReplicate, ← List.map_take, ← List.map_drop]
      refine app_ownF (ys := [x.h.c]) ho (by omega) (by decide) (by decide) (by simp [Sh.shown, gapp]) (by simp [V.one]) (by simp only [List.length_map, List.length_append, List.length_cons, List.length_nil]; omega) fun v2 H2 ho2 hH2 hk2 => ?_
      simp at hH2
      simp -dsimp -implicitDefEqProofs only [hwk, qq, Nat.reduceBEq, reduceIte, Nat.reduceAdd, Nat.reduceSub, Nat.reduceLeDiff, Nat.reduceLT, Nat.reduceMul, Nat.reduceEqDiff, Int.reduceEq, Int.reduceBEq, Int.reduceBNe, Int.reduceLT, Int.reduceLE, Int.reduceGT, Int.reduceGE, Int.reduceNeg, Int.reduceAdd, Int.reduceSub, reduceCtorEq, List.reduceReplicate, ← List.map_take, ← List.map_drop]
      refine ⟨1, by omega, by omega, by omega, hk2 0 _ (.inl (by omega)) (get_app g0 _), hk2 1 _ (.inl (by omega)) (get_app g1 _), v2, rfl, ?_⟩
      rw [htk, hsL_snoc]
      simpa using ho2
  · obtain rfl : k = l.length := by simp at hge; omega
    rw [List.take_length] at ho
    have hls := hsL_length w l
    have hb := hsL_le hw (fun s hs => sag_w hv hs)
    simp -dsimp -implicitDefEqProofs only [qq, Nat.reduceBEq, reduceIte, Nat.reduceAdd, Nat.reduceSub, Nat.reduceLeDiff, Nat.reduceLT, Nat.reduceMul, Nat.reduceEqDiff, Int.reduceEq, Int.reduceBEq, Int.reduceBNe, Int.reduceLT, Int.reduceLE, Int.reduceGT, Int.reduceGE, Int.reduceNeg, Int.reduceAdd, Int.reduceSub, reduceCtorEq, List.reduceReplicate, ← List.map_take, ← List.map_drop]
    refine callI_lend1 (h0 (hsL w l) (by omega) (fun r hr => (hb r hr).mono (by decide))) (ho.own.frz (by intro row hr; obtain ⟨n, _, rfl⟩ := List.mem_map.1 hr; rfl)) rfl ?_
    simp -dsimp -implicitDefEqProofs only [g1, Rg.c, qq, Nat.reduceBEq, reduceIte, Nat.reduceAdd, Nat.reduceSub, Nat.reduceLeDiff, Nat.reduceLT, Nat.reduceMul, Nat.reduceEqDiff, Int.reduceEq, Int.reduceBEq, Int.reduceBNe, Int.reduceLT, Int.reduceLE, Int.reduceGT, Int.reduceGE, Int.reduceNeg, Int.reduceAdd, Int.reduceSub, reduceCtorEq, List.reduceReplicate, ← List.map_take, ← List.map_drop]
    refine Ends.plain (vs := [.agg (heightS w l).c]) ?_ rfl rfl
    simp [resIs, resI1, get, get_setsame g1, ldRow, heightS]

end Go.Sh.C3
end
section
namespace Go.Sh.C3
open Go.Sh
set_option maxRecDepth 10000
set_option linter.unusedVariables false
set_option linter.unusedSimpArgs false
variable {P : Program}

def leanG (w : Int) : List Sag → Int × Int
  | [] => (0, 0)
  | s :: r => ((leanG w r).1 + s.tilt * ((leanG w r).2 + s.h.hi), (leanG w r).2 + s.h.hi + w)
def leanS (w : Rg) (l : List Sag) : Int := ((leanG w.hi l.tail).1 + 999).tdiv 1000
theorem leanG_le {w : Int} (h0 : 0 ≤ w) (h1 : w ≤ 200) : ∀ l : List Sag, (∀ s ∈ l, sagB s = true) → 0 ≤ (leanG w l).2 ∧ (leanG w l).2 ≤ l.length * 10200 ∧ 0 ≤ (leanG w l).1 ∧ (leanG w l).1 ≤ l.length * (200 * (l.length * 10200))
  | [], _ => by simp [leanG]
  | s :: r, h => by
    obtain ⟨a1, a2, a3, a4⟩ := leanG_le h0 h1 r (fun x hx => h x (by simp [hx]))
    have hs := h s (by simp)
    simp [sagB, rgB, inR] at hs
    simp only [leanG, List.length_cons]
    have hp : 0 ≤ s.tilt * ((leanG w r).2 + s.h.hi) := Int.mul_nonneg (by omega) (by omega)
    have hq : s.tilt * ((leanG w r).2 + s.h.hi) ≤ 200 * ((r.length + 1 : Nat) * 10200) := Int.mul_le_mul (by omega) (by omega) (by omega) (by decide)
    have hr : (r.length : Int) * (200 * (r.length * 10200)) ≤ (r.length : Int) * (200 * ((r.length + 1 : Nat) * 10200)) := Int.mul_le_mul_of_nonneg_left (by omega) (by omega)
    have he : (((r.length + 1 : Nat) : Int)) * (200 * ((r.length + 1 : Nat) * 10200)) = (r.length : Int) * (200 * ((r.length + 1 : Nat) * 10200)) + 200 * ((r.length + 1 : Nat) * 10200) := by
      rw [show (((r.length + 1 : Nat)) : Int) = (r.length : Int) + 1 by omega, Int.add_mul, Int.one_mul]
    refine ⟨by omega, by omega, by omega, ?_⟩
    rw [he]
    omega

def C_lean (P : Program) (f : Nat) : Prop := ∀ (w : Rg) (l : List Sag), rgB w 0 200 = true → listB l = true → 0 < l.length → Snd P f [.agg (bungC w l)] [] (.i .i64 (leanS w l)) []
theorem ok_lean (hm : P.follows .mixedOrders = true) {f : Nat} (low : Low_bung_lean P f) : C_lean P f := by
  intro w l hw hv hpos
  have hlen := list_len hv
  have hw' : 0 ≤ w.hi ∧ w.hi ≤ 200 := by simp [rgB] at hw; omega
  refine snd_ic hm low (by simp) ?_
  unfold ic_bung_lean
  simp -dsimp -implicitDefEqProofs only [qq, Nat.reduceBEq, reduceIte, Nat.reduceAdd, Nat.reduceSub, Nat.reduceLeDiff, Nat.reduceLT, Nat.reduceMul, Nat.reduceEqDiff, Int.reduceEq, Int.reduceBEq, Int.reduceBNe, Int.reduceLT, Int.reduceLE, Int.reduceGT, Int.reduceGE, Int.reduceNeg, Int.reduceAdd, Int.reduceSub, reduceCtorEq, List.reduceReplicate, ← List.map_take, ← List.map_drop]
  refine loopI_st (fun k : Nat => l.length - k) (fun k E H => k + 1 ≤ l.length ∧ E = [(1, .rpt 0 3 0 0), (3, .i .i64 (leanG w.hi (l.drop (l.length - k))).1), (4, .i .i64 (leanG w.hi (l.drop (l.length - k))).2), (5, .i .i64 ((l.length : Int) - 1 - k))] ∧ H = [.row 3 [bungC w l]]) 0 ⟨by omega, by rw [wrap_id (by omega) (by omega)]; simp [leanG], rfl⟩ ?_
  rintro k _ _ ⟨hk, rfl, rfl⟩
  simp -dsimp -implicitDefEqProofs only [qq, Nat.reduceBEq, reduceIte, Nat.reduceAdd, Nat.reduceSub, Nat.reduceLeDiff, Nat.reduceLT, Nat.reduceMul, Nat.reduceEqDiff, Int.reduceEq, Int.reduceBEq, Int.reduceBNe, Int.reduceLT, Int.reduceLE, Int.reduceGT, Int.reduceGE, Int.reduceNeg, Int.reduceAdd, Int.reduceSub, reduceCtorEq, List.reduceReplicate, ← List.map_take, ← List.map_drop]
  obtain ⟨a1, a2, a3, a4⟩ := leanG_le hw'.1 hw'.2 (l.drop (l.length - k)) (fun s hs => sag_w hv (List.mem_of_mem_drop hs))
  have hkl : ((l.drop (l.length - k)).length : Int) = k := by simp; omega
  rw [hkl] at a2 a4
  have ha4 : (k : Int) * (200 * (k * 10200)) ≤ 30 * (200 * (30 * 10200)) := Int.mul_le_mul (by omega) (by omega) (by omega) (by decide)
  refine brG_of (fun hc => ?_) (fun hc => ?_)
  · have hk1 : k + 1 < l.length := by simp at hc; omega
    obtain ⟨s, hs⟩ : ∃ s, l[l.length - 1 - k]? = some s := ⟨l[l.length - 1 - k], by simp⟩
    have hsb := sag_w hv (List.mem_of_getElem? hs)
    simp [sagB, rgB, inR] at hsb
    have hrow : rowAt (l.map Sag.c) ((l.length : Int) - 1 - k) = some s.c := by
      rw [show (l.length : Int) - 1 - k = ((l.length - 1 - k : Nat) : Int) by omega, rowAt_map, hs]; rfl
    have hdrop : l.drop (l.length - (k + 1)) = s :: l.drop (l.length - k) := by
      rw [show l.length - (k + 1) = l.length - 1 - k by omega, show l.length - k = l.length - 1 - k + 1 by omega]
      rw [List.getElem?_eq_some_iff] at hs
      obtain ⟨h1, h2⟩ := hs
      rw [← h2]; exact List.drop_eq_getElem_cons h1
    have hp : 0 ≤ s.tilt * ((leanG w.hi (l.drop (l.length - k))).2 + s.h.hi) := Int.mul_nonneg (by omega) (by omega)
    have hq : s.tilt * ((leanG w.hi (l.drop (l.length - k))).2 + s.h.hi) ≤ 200 * 400000 := Int.mul_le_mul (by omega) (by omega) (by omega) (by decide)
    have w1 : IntKind.i64.wrap ((leanG w.hi (l.drop (l.length - k))).2 + s.h.hi) = (leanG w.hi (l.drop (l.length - k))).2 + s.h.hi := wrap_id (by omega) (by omega)
    have w2 : IntKind.i64.wrap (s.tilt * ((leanG w.hi (l.drop (l.length - k))).2 + s.h.hi)) = s.tilt * ((leanG w.hi (l.drop (l.length - k))).2 + s.h.hi) := wrap_id (by omega) (by omega)
    have w3 : IntKind.i64.wrap ((leanG w.hi (l.drop (l.length - k))).1 + s.tilt * ((leanG w.hi (l.drop (l.length - k))).2 + s.h.hi)) = (leanG w.hi (l.drop (l.length - k))).1 + s.tilt * ((leanG w.hi (l.drop (l.length - k))).2 + s.h.hi) := wrap_id (by omega) (by omega)
    have w4 : IntKind.i64.wrap ((leanG w.hi (l.drop (l.length - k))).2 + s.h.hi + w.hi) = (leanG w.hi (l.drop (l.length - k))).2 + s.h.hi + w.hi := wrap_id (by omega) (by omega)
    have hdec : IntKind.i64.wrap ((l.length : Int) - 1 - k - 1) = (l.length : Int) - 1 - (k + 1 : Nat) := by rw [wrap_id (by omega) (by omega)]; omega
    simp -dsimp -implicitDefEqProofs only [bungC, Rg.c, Sag.c, hrow, w1, w2, w3, w4, hdec, qq, Nat.reduceBEq, reduceIte, Nat.reduceAdd, Nat.reduceSub, Nat.reduceLeDiff, Nat.reduceLT, Nat.reduceMul, Nat.reduceEqDiff, Int.reduceEq, Int.reduceBEq, Int.reduceBNe, Int.reduceLT, Int.reduceLE, Int.reduceGT, Int.reduceGE, Int.reduceNeg, Int.reduceAdd, Int.reduceSub, reduceCtorEq, List.reduceReplicate, ← List.map_take, ← List.map_drop]
    exact ⟨k + 1, by omega, by omega, by rw [hdrop]; simp only [leanG]⟩
  · have hk1 : k + 1 = l.length := by simp at hc; omega
    have ht : l.drop (l.length - k) = l.tail := by rw [show l.length - k = 1 by omega]; simp
    rw [ht] at a3 a4
    have w5 : IntKind.i64.wrap ((leanG w.hi l.tail).1 + 999) = (leanG w.hi l.tail).1 + 999 := wrap_id (by omega) (by omega)
    have w6 : IntKind.i64.wrap (((leanG w.hi l.tail).1 + 999).tdiv 1000) = ((leanG w.hi l.tail).1 + 999).tdiv 1000 := by
      rw [Int.tdiv_eq_ediv_of_nonneg (by omega)]; exact wrap_id (by omega) (by omega)
    simp -dsimp -implicitDefEqProofs only [ht, w5, w6, qq, Nat.reduceBEq, reduceIte, Nat.reduceAdd, Nat.reduceSub, Nat.reduceLeDiff, Nat.reduceLT, Nat.reduceMul, Nat.reduceEqDiff, Int.reduceEq, Int.reduceBEq, Int.reduceBNe, Int.reduceLT, Int.reduceLE, Int.reduceGT, Int.reduceGE, Int.reduceNeg, Int.reduceAdd, Int.reduceSub, reduceCtorEq, List.reduceReplicate, ← List.map_take, ← List.map_drop]
    exact Ends.plain rfl rfl rfl
end Go.Sh.C3
end
section
namespace Go.Sh.C3
open Go.Sh
set_option maxRecDepth 10000
set_option linter.unusedVariables false
set_option linter.unusedSimpArgs false
variable {P : Program}

theorem frz_keep2 {n : Nat} {H : List Blk} {a b : V} (h1 : a.bel n = true) (h2 : b.bel n = true) : Frz n H (resV [a, b]) (.tup [a, b]) := frz2 (.keep _ h1) (.keep _ h2)

def C_Loads (P : Program) (f : Nat) : Prop := ∀ (w : Rg) (l : List Sag), Snd P f [.agg (bungC w l)] [] (.tup [.fsl (if bungB w l then (loadsS l).map Rg.c else []), .i .i64 (if bungB w l then 0 else 31)]) []
theorem ok_Loads (hm : P.follows .mixedOrders = true) {f f0 f1 : Nat} (low : Low_bung_Loads P f f0 f1) (h0 : C_isBung P f0) (h1 : C_loads P f1) : C_Loads P f := by
  intro w l
  refine snd_ic hm low (by simp) ?_
  unfold ic_bung_Loads
  simp -dsimp -implicitDefEqProofs only [qq, Nat.reduceBEq, reduceIte, Nat.reduceAdd, Nat.reduceSub, Nat.reduceLeDiff, Nat.reduceLT, Nat.reduceMul, Nat.reduceEqDiff, Int.reduceEq, Int.reduceBEq, Int.reduceBNe, Int.reduceLT, Int.reduceLE, Int.reduceGT, Int.reduceGE, Int.reduceNeg, Int.reduceAdd, Int.reduceSub, reduceCtorEq, List.reduceReplicate, ← List.map_take, ← List.map_drop]
  refine callI_pure (h0 w l) rfl rfl ?_
  cases hb : bungB w l <;> simp -dsimp -implicitDefEqProofs only [qq, Nat.reduceBEq, reduceIte, Nat.reduceAdd, Nat.reduceSub, Nat.reduceLeDiff, Nat.reduceLT, Nat.reduceMul, Nat.reduceEqDiff, Int.reduceEq, Int.reduceBEq, Int.reduceBNe, Int.reduceLT, Int.reduceLE, Int.reduceGT, Int.reduceGE, Int.reduceNeg, Int.reduceAdd, Int.reduceSub, reduceCtorEq, List.reduceReplicate, ← List.map_take, ← List.map_drop]
  · exact Ends.ret rfl (frz2 .nil (.keep _ rfl))
  · refine callI_pure (h1 l (bung_list hb)) rfl rfl ?_
    simp -dsimp -implicitDefEqProofs only [qq, Nat.reduceBEq, reduceIte, Nat.reduceAdd, Nat.reduceSub, Nat.reduceLeDiff, Nat.reduceLT, Nat.reduceMul, Nat.reduceEqDiff, Int.reduceEq, Int.reduceBEq, Int.reduceBNe, Int.reduceLT, Int.reduceLE, Int.reduceGT, Int.reduceGE, Int.reduceNeg, Int.reduceAdd, Int.reduceSub, reduceCtorEq, List.reduceReplicate, ← List.map_take, ← List.map_drop]
    exact Ends.ret rfl (frz_keep2 rfl rfl)

theorem courses_short {l : List Sag} (h : listB l = true) : (coursesS l).length < 1000000000 := by rw [coursesS_length]; have := list_len h; omega

def C_Stands (P : Program) (f : Nat) : Prop := ∀ (w : Rg) (l : List Sag), Snd P f [.agg (bungC w l)] [] (.tup [.i .i64 (if bungB w l then standsS l else 0), .i .i64 (if bungB w l then 0 else 31)]) []
theorem ok_Stands (hm : P.follows .mixedOrders = true) {f f0 f1 f2 : Nat} (low : Low_bung_Stands P f f0 f1 f2) (h0 : C_isBung P f0) (h1 : C_courses P f1) (h2 : C_all P f2) : C_Stands P f := by
  intro w l
  refine snd_ic hm low (by simp) ?_
  unfold ic_bung_Stands
  simp -dsimp -implicitDefEqProofs only [qq, Nat.reduceBEq, reduceIte, Nat.reduceAdd, Nat.reduceSub, Nat.reduceLeDiff, Nat.reduceLT, Nat.reduceMul, Nat.reduceEqDiff, Int.reduceEq, Int.reduceBEq, Int.reduceBNe, Int.reduceLT, Int.reduceLE, Int.reduceGT, Int.reduceGE, Int.reduceNeg, Int.reduceAdd, Int.reduceSub, reduceCtorEq, List.reduceReplicate, ← List.map_take, ← List.map_drop]
  refine callI_pure (h0 w l) rfl rfl ?_
  cases hb : bungB w l <;> simp -dsimp -implicitDefEqProofs only [qq, Nat.reduceBEq, reduceIte, Nat.reduceAdd, Nat.reduceSub, Nat.reduceLeDiff, Nat.reduceLT, Nat.reduceMul, Nat.reduceEqDiff, Int.reduceEq, Int.reduceBEq, Int.reduceBNe, Int.reduceLT, Int.reduceLE, Int.reduceGT, Int.reduceGE, Int.reduceNeg, Int.reduceAdd, Int.reduceSub, reduceCtorEq, List.reduceReplicate, ← List.map_take, ← List.map_drop]
  · exact Ends.ret rfl (frz_keep2 rfl rfl)
  · refine callI_pure (h1 l (bung_list hb)) rfl rfl ?_
    simp -dsimp -implicitDefEqProofs only [qq, Nat.reduceBEq, reduceIte, Nat.reduceAdd, Nat.reduceSub, Nat.reduceLeDiff, Nat.reduceLT, Nat.reduceMul, Nat.reduceEqDiff, Int.reduceEq, Int.reduceBEq, Int.reduceBNe, Int.reduceLT, Int.reduceLE, Int.reduceGT, Int.reduceGE, Int.reduceNeg, Int.reduceAdd, Int.reduceSub, reduceCtorEq, List.reduceReplicate, ← List.map_take, ← List.map_drop]
    refine callI_pure (h2 _ (courses_short (bung_list hb))) rfl rfl ?_
    simp -dsimp -implicitDefEqProofs only [qq, Nat.reduceBEq, reduceIte, Nat.reduceAdd, Nat.reduceSub, Nat.reduceLeDiff, Nat.reduceLT, Nat.reduceMul, Nat.reduceEqDiff, Int.reduceEq, Int.reduceBEq, Int.reduceBNe, Int.reduceLT, Int.reduceLE, Int.reduceGT, Int.reduceGE, Int.reduceNeg, Int.reduceAdd, Int.reduceSub, reduceCtorEq, List.reduceReplicate, ← List.map_take, ← List.map_drop]
    exact Ends.ret rfl (frz_keep2 rfl rfl)

def C_Lean (P : Program) (f : Nat) : Prop := ∀ (w : Rg) (l : List Sag), Snd P f [.agg (bungC w l)] [] (.tup [.i .i64 (if bungB w l then leanS w l else 0), .i .i64 (if bungB w l then 0 else 31)]) []
theorem bung_pos {w : Rg} {l : List Sag} (h : bungB w l = true) : 0 < l.length := by simp [bungB] at h; exact h.1.2
theorem ok_Lean (hm : P.follows .mixedOrders = true) {f f0 f1 : Nat} (low : Low_bung_Lean P f f0 f1) (h0 : C_isBung P f0) (h1 : C_lean P f1) : C_Lean P f := by
  intro w l
  refine snd_ic hm low (by simp) ?_
  unfold ic_bung_Lean
  simp -dsimp -implicitDefEqProofs only [qq, Nat.reduceBEq, reduceIte, Nat.reduceAdd, Nat.reduceSub, Nat.reduceLeDiff, Nat.reduceLT, Nat.reduceMul, Nat.reduceEqDiff, Int.reduceEq, Int.reduceBEq, Int.reduceBNe, Int.reduceLT, Int.reduceLE, Int.reduceGT, Int.reduceGE, Int.reduceNeg, Int.reduceAdd, Int.reduceSub, reduceCtorEq, List.reduceReplicate, ← List.map_take, ← List.map_drop]
  refine callI_pure (h0 w l) rfl rfl ?_
  cases hb : bungB w l <;> simp -dsimp -implicitDefEqProofs only [qq, Nat.reduceBEq, reduceIte, Nat.reduceAdd, Nat.reduceSub, Nat.reduceLeDiff, Nat.reduceLT, Nat.reduceMul, Nat.reduceEqDiff, Int.reduceEq, Int.reduceBEq, Int.reduceBNe, Int.reduceLT, Int.reduceLE, Int.reduceGT, Int.reduceGE, Int.reduceNeg, Int.reduceAdd, Int.reduceSub, reduceCtorEq, List.reduceReplicate, ← List.map_take, ← List.map_drop]
  · exact Ends.ret rfl (frz_keep2 rfl rfl)
  · refine callI_pure (h1 w l (bung_wad hb) (bung_list hb) (bung_pos hb)) rfl rfl ?_
    simp -dsimp -implicitDefEqProofs only [qq, Nat.reduceBEq, reduceIte, Nat.reduceAdd, Nat.reduceSub, Nat.reduceLeDiff, Nat.reduceLT, Nat.reduceMul, Nat.reduceEqDiff, Int.reduceEq, Int.reduceBEq, Int.reduceBNe, Int.reduceLT, Int.reduceLE, Int.reduceGT, Int.reduceGE, Int.reduceNeg, Int.reduceAdd, Int.reduceSub, reduceCtorEq, List.reduceReplicate, ← List.map_take, ← List.map_drop]
    exact Ends.ret rfl (frz_keep2 rfl rfl)

def fitsS (w : Rg) (l : List Sag) (s : Spt) : Int :=
  if (heightS w l).lo > s.crown ∨ standsS l = 0 then 0 else if (heightS w l).hi ≤ s.crown ∧ leanS w l ≤ s.lean ∧ standsS l = 1 then 1 else 2
def C_fits (P : Program) (f : Nat) : Prop := ∀ (w : Rg) (l : List Sag) (s : Spt), bungB w l = true → Snd P f [.agg (bungC w l), .agg s.c] [] (.i .i64 (fitsS w l s)) []
theorem ok_fits (hm : P.follows .mixedOrders = true) {f f0 f1 f2 f3 : Nat} (low : Low_bung_fits P f f0 f1 f2 f3) (h0 : C_height P f0) (h1 : C_courses P f1) (h2 : C_all P f2) (h3 : C_lean P f3) : C_fits P f := by
  intro w l s hb
  refine snd_ic hm low (by simp) ?_
  unfold ic_bung_fits
  simp -dsimp -implicitDefEqProofs only [qq, Nat.reduceBEq, reduceIte, Nat.reduceAdd, Nat.reduceSub, Nat.reduceLeDiff, Nat.reduceLT, Nat.reduceMul, Nat.reduceEqDiff, Int.reduceEq, Int.reduceBEq, Int.reduceBNe, Int.reduceLT, Int.reduceLE, Int.reduceGT, Int.reduceGE, Int.reduceNeg, Int.reduceAdd, Int.reduceSub, reduceCtorEq, List.reduceReplicate, ← List.map_take, ← List.map_drop]
  refine callI_pure (h0 w l (bung_wad hb) (bung_list hb)) rfl rfl ?_
  simp -dsimp -implicitDefEqProofs only [qq, Nat.reduceBEq, reduceIte, Nat.reduceAdd, Nat.reduceSub, Nat.reduceLeDiff, Nat.reduceLT, Nat.reduceMul, Nat.reduceEqDiff, Int.reduceEq, Int.reduceBEq, Int.reduceBNe, Int.reduceLT, Int.reduceLE, Int.reduceGT, Int.reduceGE, Int.reduceNeg, Int.reduceAdd, Int.reduceSub, reduceCtorEq, List.reduceReplicate, ← List.map_take, ← List.map_drop]
  refine callI_pure (h1 l (bung_list hb)) rfl rfl ?_
  simp -dsimp -implicitDefEqProofs only [qq, Nat.reduceBEq, reduceIte, Nat.reduceAdd, Nat.reduceSub, Nat.reduceLeDiff, Nat.reduceLT, Nat.reduceMul, Nat.reduceEqDiff, Int.reduceEq, Int.reduceBEq, Int.reduceBNe, Int.reduceLT, Int.reduceLE, Int.reduceGT, Int.reduceGE, Int.reduceNeg, Int.reduceAdd, Int.reduceSub, reduceCtorEq, List.reduceReplicate, ← List.map_take, ← List.map_drop]
  refine callI_pure (h2 _ (courses_short (bung_list hb))) rfl rfl ?_
  simp -dsimp -implicitDefEqProofs only [Rg.c, qq, Nat.reduceBEq, reduceIte, Nat.reduceAdd, Nat.reduceSub, Nat.reduceLeDiff, Nat.reduceLT, Nat.reduceMul, Nat.reduceEqDiff, Int.reduceEq, Int.reduceBEq, Int.reduceBNe, Int.reduceLT, Int.reduceLE, Int.reduceGT, Int.reduceGE, Int.reduceNeg, Int.reduceAdd, Int.reduceSub, reduceCtorEq, List.reduceReplicate, ← List.map_take, ← List.map_drop]
  repeat' (first | (refine brG_of (fun h => ?_) (fun h => ?_) <;> simp -dsimp -implicitDefEqProofs only [h, Rg.c, Spt.c, qq, Nat.reduceBEq, reduceIte, Nat.reduceAdd, Nat.reduceSub, Nat.reduceLeDiff, Nat.reduceLT, Nat.reduceMul, Nat.reduceEqDiff, Int.reduceEq, Int.reduceBEq, Int.reduceBNe, Int.reduceLT, Int.reduceLE, Int.reduceGT, Int.reduceGE, Int.reduceNeg, Int.reduceAdd, Int.reduceSub, reduceCtorEq, List.reduceReplicate, ← List.map_take, ← List.map_drop]) | (refine callI_pure (h3 w l (bung_wad hb) (bung_list hb) (bung_pos hb)) rfl rfl ?_; simp -dsimp -implicitDefEqProofs only [Rg.c, Spt.c, qq, Nat.reduceBEq, reduceIte, Nat.reduceAdd, Nat.reduceSub, Nat.reduceLeDiff, Nat.reduceLT, Nat.reduceMul, Nat.reduceEqDiff, Int.reduceEq, Int.reduceBEq, Int.reduceBNe, Int.reduceLT, Int.reduceLE, Int.reduceGT, Int.reduceGE, Int.reduceNeg, Int.reduceAdd, Int.reduceSub, reduceCtorEq, List.reduceReplicate, ← List.map_take, ← List.map_drop]))
  all_goals exact Ends.plain rfl rfl (by first | (simp_all [resV, fitsS, standsS]; done) | (simp_all [resV, fitsS, standsS]; omega) | (simp only [resV, fitsS, standsS]; grind))

end Go.Sh.C3
end
section
namespace Go.Sh.C3
open Go.Sh
set_option maxRecDepth 10000
set_option linter.unusedVariables false
set_option linter.unusedSimpArgs false
variable {P : Program}
def ic_bung_stacked : IC := .seq (.reg [⟨some 4, none, .mov (.c (.nsl))⟩] [0, 1]) (.seq (.reg [⟨some 5, none, .mov (.c (.nsl))⟩] [0, 1, 5]) (.seq (.seq (.reg [⟨some 8, none, .mov (.t 1)⟩, ⟨some 9, none, .len false (.t 8)⟩, ⟨some 10, none, .mov (.c (.i .i64 (0)))⟩] [0, 5, 8, 9, 10]) (.block 0 (.loop (.seq (.reg [⟨some 11, none, .bin .lss (.t 10) (.t 9)⟩] [0, 5, 8, 9, 10, 11]) (.seq (.cond (.t 11) (.skip) (.exit 0)) (.seq (.block 1 (.seq (.reg [⟨some 12, none, .ixs 1 (.t 8) (.t 10)⟩, ⟨some 13, none, .ld none (.t 12)⟩, ⟨some 7, none, .mov (.t 13)⟩] [0, 5, 7, 8, 9, 10]) (.reg [⟨some 14, none, .mov (.t 5)⟩, ⟨some 15, none, .mov (.t 0)⟩, ⟨some 16, none, .mov (.t 7)⟩, ⟨some 17, none, .ixs 8 (.t 15) (.t 16)⟩, ⟨some 18, none, .ld (some 8) (.t 17)⟩, ⟨some 19, none, .bsl false 8 1 [.i .i64 (0), .i .i64 (0), .i .i64 (0), .i .i64 (0), .i .i64 (0), .i .i64 (0), .i .i64 (0), .i .i64 (0)] [(0, (.t 18))]⟩, ⟨some 20, none, .app 8 64 (.t 14) (.t 19)⟩, ⟨some 5, none, .mov (.t 20)⟩] [0, 5, 8, 9, 10]))) (.reg [⟨some 21, none, .bin .add (.t 10) (.c (.i .i64 (1)))⟩, ⟨some 10, none, .mov (.t 21)⟩] [0, 5, 8, 9, 10]))))))) (.seq (.reg [⟨some 22, none, .mov (.t 5)⟩, ⟨some 4, none, .mov (.t 22)⟩] [4]) (.ret))))
abbrev Low_bung_stacked (P : Program) (f : Nat) : Prop := lowF P f = some (23, [.tmp 4], (ic_bung_stacked).erase)
def ic_bung_Set (f0 f1 f2 f3 : Nat) : IC := .seq (.reg [⟨some 3, none, .box (.t 0)⟩, ⟨some 6, none, .alloc [.i .i64 (0), .i .i64 (0), .nsl]⟩, ⟨some 7, none, .mov (.c (.i .i64 (0)))⟩] [1, 2, 3, 6]) (.seq (.block 0 (.seq (.reg [⟨some 12, none, .ld (some 2) (.t 3)⟩, ⟨some 13, none, .calv (.c (.fn (.func f0) [] [])) [.t 12]⟩, ⟨some 14, none, .un .not (.t 13)⟩, ⟨some 11, none, .mov (.t 14)⟩] [1, 2, 3, 6, 11]) (.cond (.t 11) (.seq (.reg [⟨some 15, none, .bld [.i .i64 (0), .i .i64 (0), .nsl] []⟩, ⟨none, none, .st 3 (.t 6) (.t 15)⟩, ⟨some 7, none, .mov (.c (.i .i64 (32)))⟩] [6, 7]) (.ret)) (.seq (.reg [⟨some 17, none, .mov (.t 1)⟩, ⟨some 18, none, .calv (.c (.fn (.func f1) [] [])) [.t 17]⟩, ⟨some 19, none, .un .not (.t 18)⟩, ⟨some 16, none, .mov (.t 19)⟩] [1, 2, 3, 6, 16]) (.cond (.t 16) (.seq (.reg [⟨some 20, none, .bld [.i .i64 (0), .i .i64 (0), .nsl] []⟩, ⟨none, none, .st 3 (.t 6) (.t 20)⟩, ⟨some 7, none, .mov (.c (.i .i64 (30)))⟩] [6, 7]) (.ret)) (.seq (.reg [⟨some 22, none, .mov (.t 2)⟩, ⟨some 23, none, .len false (.t 22)⟩, ⟨some 24, none, .bin .eql (.t 23) (.c (.i .i64 (0)))⟩, ⟨some 21, none, .mov (.t 24)⟩] [1, 2, 3, 6, 21]) (.cond (.t 21) (.seq (.reg [⟨some 25, none, .bld [.i .i64 (0), .i .i64 (0), .nsl] []⟩, ⟨none, none, .st 3 (.t 6) (.t 25)⟩, ⟨some 7, none, .mov (.c (.i .i64 (1)))⟩] [6, 7]) (.ret)) (.skip)))))))) (.seq (.reg [⟨some 26, none, .mkm⟩, ⟨some 8, none, .mov (.t 26)⟩] [1, 2, 3, 6, 8]) (.seq (.seq (.reg [⟨some 27, none, .mov (.t 2)⟩, ⟨some 28, none, .len false (.t 27)⟩, ⟨some 29, none, .mov (.c (.i .i64 (0)))⟩] [1, 2, 3, 6, 8, 27, 28, 29]) (.block 1 (.loop (.seq (.reg [⟨some 30, none, .bin .lss (.t 29) (.t 28)⟩] [1, 2, 3, 6, 8, 27, 28, 29, 30]) (.seq (.cond (.t 30) (.skip) (.exit 1)) (.seq (.block 2 (.seq (.reg [⟨some 31, none, .ixs 1 (.t 27) (.t 29)⟩, ⟨some 32, none, .ld none (.t 31)⟩, ⟨some 10, none, .mov (.t 32)⟩] [1, 2, 3, 6, 8, 10, 27, 28, 29]) (.seq (.seq (.reg [⟨some 33, none, .mov (.t 10)⟩, ⟨some 34, none, .mov (.t 1)⟩, ⟨some 35, none, .len false (.t 34)⟩, ⟨some 36, none, .bin .sub (.t 35) (.c (.i .i64 (1)))⟩, ⟨some 37, none, .calv (.c (.fn (.func f2) [] [])) [.t 33, .c (.i .i64 (0)), .t 36]⟩, ⟨some 38, none, .un .not (.t 37)⟩, ⟨some 39, none, .mov (.t 38)⟩, ⟨some 40, some (39, false), .mov (.t 8)⟩, ⟨some 41, some (39, false), .mov (.t 10)⟩, ⟨some 42, some (39, false), .lk 0 [] (.b false) false (.t 40) (.t 41)⟩, ⟨some 43, none, .pick (.t 39) (.c (.b true)) (.t 42)⟩] [1, 2, 3, 6, 8, 10, 27, 28, 29, 43]) (.cond (.t 43) (.seq (.reg [⟨some 44, none, .bld [.i .i64 (0), .i .i64 (0), .nsl] []⟩, ⟨none, none, .st 3 (.t 6) (.t 44)⟩, ⟨some 7, none, .mov (.c (.i .i64 (1)))⟩] [6, 7]) (.ret)) (.skip))) (.reg [⟨some 45, none, .mov (.t 8)⟩, ⟨some 46, none, .mov (.t 10)⟩, ⟨none, none, .mup 0 [] (.t 45) (.t 46) (.c (.b true))⟩] [1, 2, 3, 6, 8, 27, 28, 29])))) (.reg [⟨some 47, none, .bin .add (.t 29) (.c (.i .i64 (1)))⟩, ⟨some 29, none, .mov (.t 47)⟩] [1, 2, 3, 6, 8, 27, 28, 29]))))))) (.seq (.drg [(0, ⟨some 48, none, .ld (some 2) (.t 3)⟩), (0, ⟨some 49, none, .mov (.t 1)⟩), (0, ⟨some 50, none, .mov (.t 2)⟩), (0, ⟨some 51, none, .calv (.c (.fn (.func f3) [] [])) [.t 49, .t 50]⟩), (0, ⟨some 52, none, .bld [.i .i64 (0), .i .i64 (0), .nsl] [(0, 2, (.t 48)), (2, 1, (.t 51))]⟩), (1, ⟨none, none, .st 3 (.t 6) (.t 52)⟩), (0, ⟨some 7, none, .mov (.c (.i .i64 (0)))⟩)] 4 [6, 7]) (.ret)))))
abbrev Low_bung_Set (P : Program) (f f0 f1 f2 f3 : Nat) : Prop := lowF P f = some (53, [.cell 6 (some 3), .tmp 7], (ic_bung_Set f0 f1 f2 f3).erase)
def ic_bung_asked (f0 f1 f2 : Nat) : IC := .seq (.reg [⟨some 3, none, .box (.t 0)⟩, ⟨some 5, none, .box (.t 2)⟩, ⟨some 6, none, .mov (.c (.i .i64 (0)))⟩] [1, 3, 5]) (.seq (.block 0 (.seq (.reg [⟨some 8, none, .ld (some 2) (.t 3)⟩, ⟨some 9, none, .calv (.c (.fn (.func f0) [] [])) [.t 8]⟩, ⟨some 10, none, .un .not (.t 9)⟩, ⟨some 7, none, .mov (.t 10)⟩] [1, 5, 7]) (.cond (.t 7) (.seq (.reg [⟨some 6, none, .mov (.c (.i .i64 (32)))⟩] [6]) (.ret)) (.seq (.reg [⟨some 12, none, .mov (.t 1)⟩, ⟨some 13, none, .calv (.c (.fn (.func f1) [] [])) [.t 12]⟩, ⟨some 14, none, .un .not (.t 13)⟩, ⟨some 11, none, .mov (.t 14)⟩] [5, 11]) (.cond (.t 11) (.seq (.reg [⟨some 6, none, .mov (.c (.i .i64 (30)))⟩] [6]) (.ret)) (.seq (.reg [⟨some 16, none, .ld (some 2) (.t 5)⟩, ⟨some 17, none, .calv (.c (.fn (.func f2) [] [])) [.t 16]⟩, ⟨some 18, none, .un .not (.t 17)⟩, ⟨some 15, none, .mov (.t 18)⟩] [15]) (.cond (.t 15) (.seq (.reg [⟨some 6, none, .mov (.c (.i .i64 (33)))⟩] [6]) (.ret)) (.skip)))))))) (.seq (.reg [⟨some 6, none, .mov (.c (.i .i64 (0)))⟩] [6]) (.ret)))
abbrev Low_bung_asked (P : Program) (f f0 f1 f2 : Nat) : Prop := lowF P f = some (19, [.tmp 6], (ic_bung_asked f0 f1 f2).erase)

theorem rowAt_int {α : Type} {f : α → List V} {l : List α} {i : Int} {x : α} (h0 : 0 ≤ i) (h : l[i.toNat]? = some x) : rowAt (l.map f) i = some (f x) := by
  simp [rowAt, h0, h]

def okIx (n : Nat) (l : List Int) : Prop := ∀ i ∈ l, 0 ≤ i ∧ i < n
def pickS (l : List Sag) (some : List Int) : List Sag := some.filterMap fun i => l[i.toNat]?
theorem pickS_snoc {l : List Sag} {a : List Int} {i : Int} {x : Sag} (h : l[i.toNat]? = some x) : pickS l (a ++ [i]) = pickS l a ++ [x] := by simp [pickS, h]
theorem pickS_length (l : List Sag) (a : List Int) : (pickS l a).length ≤ a.length := List.length_filterMap_le _ _

def C_stacked (P : Program) (f : Nat) : Prop := ∀ (l : List Sag) (s : List Int), s.length ≤ 1000 → okIx l.length s → Snd P f [.fsl (l.map Sag.c), .fsl (s.map intC)] [] (.fsl ((pickS l s).map Sag.c)) []
theorem ok_stacked (hm : P.follows .mixedOrders = true) {f : Nat} (low : Low_bung_stacked P f) : C_stacked P f := by
  intro l s hl hs
  refine snd_ic hm low (by simp) ?_
  unfold ic_bung_stacked
  simp -dsimp -implicitDefEqProofs only [qq, Nat.reduceBEq, reduceIte, Nat.reduceAdd, Nat.reduceSub, Nat.reduceLeDiff, Nat.reduceLT, Nat.reduceMul, Nat.reduceEqDiff, Int.reduceEq, Int.reduceBEq, Int.reduceBNe, Int.reduceLT, Int.reduceLE, Int.reduceGT, Int.reduceGE, Int.reduceNeg, Int.reduceAdd, Int.reduceSub, reduceCtorEq, List.reduceReplicate, ← List.map_take, ← List.map_drop]
  refine loopI_st (fun k : Nat => s.length - k) (fun k E H => k ≤ s.length ∧ ∃ v, E = [(0, .fsl (l.map Sag.c)), (5, v), (8, .fsl (s.map intC)), (9, .i .i64 s.length), (10, .i .i64 k)] ∧ OwnF 0 H 8 ((pickS l (s.take k)).map Sag.c) v) 0 ⟨by omega, _, rfl, .nil _ _ _⟩ ?_
  rintro k _ H ⟨hk, v, rfl, ho⟩
  simp -dsimp -implicitDefEqProofs only [qq, Nat.reduceBEq, reduceIte, Nat.reduceAdd, Nat.reduceSub, Nat.reduceLeDiff, Nat.reduceLT, Nat.reduceMul, Nat.reduceEqDiff, Int.reduceEq, Int.reduceBEq, Int.reduceBNe, Int.reduceLT, Int.reduceLE, Int.reduceGT, Int.reduceGE, Int.reduceNeg, Int.reduceAdd, Int.reduceSub, reduceCtorEq, List.reduceReplicate, ← List.map_take, ← List.map_drop]
  refine brG_of (fun hlt => ?_) (fun hge => ?_)
  · have hkl : k < s.length := by simpa using hlt
    obtain ⟨i, hi, him, htk, _⟩ := next_of hkl
    obtain ⟨h1, h2⟩ := hs i him
    obtain ⟨x, hx, _, _, _⟩ := next_of (show i.toNat < l.length by omega)
    have hwk : IntKind.i64.wrap ((k : Int) + 1) = ((k + 1 : Nat) : Int) := wrap_succ (by omega)
    have hr : rowAt (l.map Sag.c) i = some x.c := rowAt_int h1 hx
    have hp := pickS_length l (s.take k)
    rw [List.length_take] at hp
    simp -dsimp -implicitDefEqProofs only [hi, intC, hr, Sag.c, qq, Nat.reduceBEq, reduceIte, Nat.reduceAdd, Nat.reduceSub, Nat.reduceLeDiff, Nat.reduceLT, Nat.reduceMul, Nat.reduceEqDiff, Int.reduceEq, Int.reduceBEq, Int.reduceBNe, Int.reduceLT, Int.reduceLE, Int.reduceGT, Int.reduceGE, Int.reduceNeg, Int.reduceAdd, Int.reduceSub, reduceCtorEq, List.reduceReplicate, ← List.map_take, ← List.map_drop]
    refine app_ownF (ys := [x.c]) ho (by omega) (by decide) (by decide) (by simp [Sh.shown, gapp]) (by simp [V.one]) (by simp only [List.length_map, List.length_cons, List.length_nil]; omega) fun v' H' ho' hH' hk' => ?_
    simp -dsimp -implicitDefEqProofs only [hwk, qq, Nat.reduceBEq, reduceIte, Nat.reduceAdd, Nat.reduceSub, Nat.reduceLeDiff, Nat.reduceLT, Nat.reduceMul, Nat.reduceEqDiff, Int.reduceEq, Int.reduceBEq, Int.reduceBNe, Int.reduceLT, Int.reduceLE, Int.reduceGT, Int.reduceGE, Int.reduceNeg, Int.reduceAdd, Int.reduceSub, reduceCtorEq, List.reduceReplicate, ← List.map_take, ← List.map_drop]
    refine ⟨k + 1, by omega, by omega, v', rfl, ?_⟩
    rw [htk, pickS_snoc hx]
    simpa using ho'
  · obtain rfl : k = s.length := by simp at hge; omega
    rw [List.take_length] at ho
    simp -dsimp -implicitDefEqProofs only [qq, Nat.reduceBEq, reduceIte, Nat.reduceAdd, Nat.reduceSub, Nat.reduceLeDiff, Nat.reduceLT, Nat.reduceMul, Nat.reduceEqDiff, Int.reduceEq, Int.reduceBEq, Int.reduceBNe, Int.reduceLT, Int.reduceLE, Int.reduceGT, Int.reduceGE, Int.reduceNeg, Int.reduceAdd, Int.reduceSub, reduceCtorEq, List.reduceReplicate, ← List.map_take, ← List.map_drop]
    exact Ends.ret rfl (ho.own.frz (by intro row hr; obtain ⟨n, _, rfl⟩ := List.mem_map.1 hr; rfl))

theorem nodup_bound : ∀ (n : Nat) (l : List Int), l.Nodup → (∀ i ∈ l, 0 ≤ i ∧ i < n) → l.length ≤ n
  | 0, l, _, h => by
    cases l with
    | nil => simp
    | cons a r => have := h a (by simp); omega
  | n + 1, l, hn, h => by
    by_cases hm : (n : Int) ∈ l
    · have h1 := nodup_bound n (l.erase n) (hn.erase _) (fun i hi => by
        rw [hn.mem_erase_iff] at hi
        have := h i hi.2
        have := hi.1
        omega)
      rw [List.length_erase_of_mem hm] at h1
      omega
    · have h1 := nodup_bound n l hn (fun i hi => by
        have := h i hi
        have : i ≠ n := fun e => hm (e ▸ hi)
        omega)
      omega

def orderB (n : Nat) (o : List Int) : Bool := decide (o ≠ []) && o.all (fun i => inR i 0 (n - 1)) && decide o.Nodup
def setE (w : Rg) (l : List Sag) (o : List Int) : Int := if rgB w 0 200 then (if listB l then (if orderB l.length o then 0 else 1) else 30) else 32
theorem frz_bung0 {n : Nat} {H : List Blk} : Frz n H (.agg [.i .i64 0, .i .i64 0, .nsl]) (.agg (bungC ⟨0, 0⟩ [])) := .agg _ _ rfl fun j v v' e1 e2 => by
  match j with
  | 0 => simp at e1 e2; subst e1 e2; exact .keep _ rfl
  | 1 => simp at e1 e2; subst e1 e2; exact .keep _ rfl
  | 2 => simp at e1 e2; subst e1 e2; exact .nil
  | j + 3 => simp at e1

def C_Set (P : Program) (f : Nat) : Prop := ∀ (w : Rg) (l : List Sag) (o : List Int), o.length ≤ 1000000000000000 → Snd P f [.agg w.c, .fsl (l.map Sag.c), .fsl (o.map intC)] []
  (.tup [.agg (if setE w l o = 0 then bungC w (pickS l o) else bungC ⟨0, 0⟩ []), .i .i64 (setE w l o)]) []
theorem ok_Set (hm : P.follows .mixedOrders = true) {f f0 f1 f2 f3 : Nat} (low : Low_bung_Set P f f0 f1 f2 f3) (h0 : C_isWad P f0) (h1 : C_isList P f1) (h2 : C_within P f2) (h3 : C_stacked P f3) : C_Set P f := by
  intro w l o ho
  have hz : ∀ (H : List Blk) (e : Int), setE w l o = e → e ≠ 0 → (Frz 0 H (resV [.agg [.i .i64 0, .i .i64 0, .nsl], .i .i64 e]) (.tup [.agg (if setE w l o = 0 then bungC w (pickS l o) else bungC ⟨0, 0⟩ []), .i .i64 (setE w l o)])) := fun H e h h' => by rw [if_neg (by rw [h]; exact h'), h]; exact frz2 frz_bung0 (.keep _ rfl)
  refine snd_ic hm low (by simp) ?_
  unfold ic_bung_Set
  simp -dsimp -implicitDefEqProofs only [qq, Nat.reduceBEq, reduceIte, Nat.reduceAdd, Nat.reduceSub, Nat.reduceLeDiff, Nat.reduceLT, Nat.reduceMul, Nat.reduceEqDiff, Int.reduceEq, Int.reduceBEq, Int.reduceBNe, Int.reduceLT, Int.reduceLE, Int.reduceGT, Int.reduceGE, Int.reduceNeg, Int.reduceAdd, Int.reduceSub, reduceCtorEq, List.reduceReplicate, ← List.map_take, ← List.map_drop]
  refine callI_pure (h0 w) rfl rfl ?_
  cases hw : rgB w 0 200 <;> simp -dsimp -implicitDefEqProofs only [qq, Nat.reduceBEq, reduceIte, Nat.reduceAdd, Nat.reduceSub, Nat.reduceLeDiff, Nat.reduceLT, Nat.reduceMul, Nat.reduceEqDiff, Int.reduceEq, Int.reduceBEq, Int.reduceBNe, Int.reduceLT, Int.reduceLE, Int.reduceGT, Int.reduceGE, Int.reduceNeg, Int.reduceAdd, Int.reduceSub, reduceCtorEq, List.reduceReplicate, ← List.map_take, ← List.map_drop]
  · exact Ends.ret rfl (hz _ 32 (by simp [setE, hw]) (by decide))
  refine callI_pure (h1 l) rfl rfl ?_
  cases hl : listB l <;> simp -dsimp -implicitDefEqProofs only [qq, Nat.reduceBEq, reduceIte, Nat.reduceAdd, Nat.reduceSub, Nat.reduceLeDiff, Nat.reduceLT, Nat.reduceMul, Nat.reduceEqDiff, Int.reduceEq, Int.reduceBEq, Int.reduceBNe, Int.reduceLT, Int.reduceLE, Int.reduceGT, Int.reduceGE, Int.reduceNeg, Int.reduceAdd, Int.reduceSub, reduceCtorEq, List.reduceReplicate, ← List.map_take, ← List.map_drop]
  · exact Ends.ret rfl (hz _ 30 (by simp [setE, hw, hl]) (by decide))
  have hlen := list_len hl
  have w0 : IntKind.i64.wrap ((l.length : Int) - 1) = (l.length : Int) - 1 := wrap_id (by omega) (by omega)
  have hbad : orderB l.length o = false → setE w l o = 1 := fun h => by simp [setE, hw, hl, h]
  cases he : ((o.length : Int) == 0) <;> simp -dsimp -implicitDefEqProofs only [he, qq, Nat.reduceBEq, reduceIte, Nat.reduceAdd, Nat.reduceSub, Nat.reduceLeDiff, Nat.reduceLT, Nat.reduceMul, Nat.reduceEqDiff, Int.reduceEq, Int.reduceBEq, Int.reduceBNe, Int.reduceLT, Int.reduceLE, Int.reduceGT, Int.reduceGE, Int.reduceNeg, Int.reduceAdd, Int.reduceSub, reduceCtorEq, List.reduceReplicate, ← List.map_take, ← List.map_drop]
  rotate_left
  · have : o = [] := by simp at he; exact he
    exact Ends.ret rfl (hz _ 1 (hbad (by simp [orderB, this])) (by decide))
  have hne : o ≠ [] := fun e => by simp [e] at he
  refine loopI_st (fun k : Nat => o.length - k) (fun k E H => k ≤ o.length ∧ E = [(1, .fsl (l.map Sag.c)), (2, .fsl (o.map intC)), (3, .rpt 0 2 0 0), (6, .rpt 1 3 0 0), (8, .rmp 2), (27, .fsl (o.map intC)), (28, .i .i64 o.length), (29, .i .i64 k)] ∧ H = [.row 2 [w.c], .row 3 [[.i .i64 0, .i .i64 0, .nsl]], .mp (idMap (o.take k))] ∧ (∀ i ∈ o.take k, inR i 0 (l.length - 1) = true) ∧ (o.take k).Nodup) 0 ⟨by omega, rfl, rfl, by simp, by simp⟩ ?_
  rintro k _ _ ⟨hk, rfl, rfl, hin, hnd⟩
  simp -dsimp -implicitDefEqProofs only [qq, Nat.reduceBEq, reduceIte, Nat.reduceAdd, Nat.reduceSub, Nat.reduceLeDiff, Nat.reduceLT, Nat.reduceMul, Nat.reduceEqDiff, Int.reduceEq, Int.reduceBEq, Int.reduceBNe, Int.reduceLT, Int.reduceLE, Int.reduceGT, Int.reduceGE, Int.reduceNeg, Int.reduceAdd, Int.reduceSub, reduceCtorEq, List.reduceReplicate, ← List.map_take, ← List.map_drop]
  refine brG_of (fun hlt => ?_) (fun hge => ?_)
  · have hkl : k < o.length := by simpa using hlt
    obtain ⟨i, hi, him, htk, _⟩ := next_of hkl
    have hwk : IntKind.i64.wrap ((k : Int) + 1) = ((k + 1 : Nat) : Int) := wrap_succ (by omega)
    simp -dsimp -implicitDefEqProofs only [hi, intC, w0, qq, Nat.reduceBEq, reduceIte, Nat.reduceAdd, Nat.reduceSub, Nat.reduceLeDiff, Nat.reduceLT, Nat.reduceMul, Nat.reduceEqDiff, Int.reduceEq, Int.reduceBEq, Int.reduceBNe, Int.reduceLT, Int.reduceLE, Int.reduceGT, Int.reduceGE, Int.reduceNeg, Int.reduceAdd, Int.reduceSub, reduceCtorEq, List.reduceReplicate, ← List.map_take, ← List.map_drop]
    refine callI_pure (h2 _ _ _) rfl rfl ?_
    cases hr : inR i 0 (l.length - 1) <;> simp -dsimp -implicitDefEqProofs only [qq, Nat.reduceBEq, reduceIte, Nat.reduceAdd, Nat.reduceSub, Nat.reduceLeDiff, Nat.reduceLT, Nat.reduceMul, Nat.reduceEqDiff, Int.reduceEq, Int.reduceBEq, Int.reduceBNe, Int.reduceLT, Int.reduceLE, Int.reduceGT, Int.reduceGE, Int.reduceNeg, Int.reduceAdd, Int.reduceSub, reduceCtorEq, List.reduceReplicate, ← List.map_take, ← List.map_drop]
    · exact Ends.ret rfl (hz _ 1 (hbad (by
        simp only [orderB]
        rw [show o.all (fun i => inR i 0 (l.length - 1)) = false from by simp; exact ⟨i, him, hr⟩]
        simp)) (by decide))
    by_cases hid : i ∈ o.take k
    · simp -dsimp -implicitDefEqProofs only [findK_ids, if_pos hid, qq, Nat.reduceBEq, reduceIte, Nat.reduceAdd, Nat.reduceSub, Nat.reduceLeDiff, Nat.reduceLT, Nat.reduceMul, Nat.reduceEqDiff, Int.reduceEq, Int.reduceBEq, Int.reduceBNe, Int.reduceLT, Int.reduceLE, Int.reduceGT, Int.reduceGE, Int.reduceNeg, Int.reduceAdd, Int.reduceSub, reduceCtorEq, List.reduceReplicate, ← List.map_take, ← List.map_drop]
      refine Ends.ret rfl (hz _ 1 (hbad ?_) (by decide))
      simp only [orderB]
      rw [show decide o.Nodup = false from ?_]
      · simp
      · rw [decide_eq_false_iff_not]
        intro hnd
        rw [← List.take_append_drop k o, List.nodup_append] at hnd
        exact hnd.2.2 _ hid i (List.mem_of_getElem? (i := 0) (by rw [List.getElem?_drop]; simpa using hi)) rfl
    · simp -dsimp -implicitDefEqProofs only [findK_ids, if_neg hid, updK_ids _ _ hid, hwk, qq, Nat.reduceBEq, reduceIte, Nat.reduceAdd, Nat.reduceSub, Nat.reduceLeDiff, Nat.reduceLT, Nat.reduceMul, Nat.reduceEqDiff, Int.reduceEq, Int.reduceBEq, Int.reduceBNe, Int.reduceLT, Int.reduceLE, Int.reduceGT, Int.reduceGE, Int.reduceNeg, Int.reduceAdd, Int.reduceSub, reduceCtorEq, List.reduceReplicate, ← List.map_take, ← List.map_drop]
      refine ⟨k + 1, by omega, by omega, rfl, by rw [htk], ?_, ?_⟩
      · rw [htk]; intro j hj
        rcases List.mem_append.1 hj with h | h
        · exact hin j h
        · simp at h; subst h; exact hr
      · rw [htk, List.nodup_append]
        exact ⟨hnd, by simp, fun a ha b hb e => by simp at hb; subst hb; subst e; exact hid ha⟩
  · obtain rfl : k = o.length := by simp at hge; omega
    rw [List.take_length] at hin hnd
    have hok : orderB l.length o = true := by simp only [orderB, hnd]; simp; exact ⟨hne, hin⟩
    have hset : setE w l o = 0 := by simp [setE, hw, hl, hok]
    have hix : okIx l.length o := fun i hi => by have := hin i hi; simp [inR] at this; omega
    have hshort : o.length ≤ 1000 := by have := nodup_bound l.length o hnd hix; omega
    simp -dsimp -implicitDefEqProofs only [qq, Nat.reduceBEq, reduceIte, Nat.reduceAdd, Nat.reduceSub, Nat.reduceLeDiff, Nat.reduceLT, Nat.reduceMul, Nat.reduceEqDiff, Int.reduceEq, Int.reduceBEq, Int.reduceBNe, Int.reduceLT, Int.reduceLE, Int.reduceGT, Int.reduceGE, Int.reduceNeg, Int.reduceAdd, Int.reduceSub, reduceCtorEq, List.reduceReplicate, ← List.map_take, ← List.map_drop]
    refine callI_pure (h3 l o hshort hix) rfl rfl ?_
    simp -dsimp -implicitDefEqProofs only [Rg.c, qq, Nat.reduceBEq, reduceIte, Nat.reduceAdd, Nat.reduceSub, Nat.reduceLeDiff, Nat.reduceLT, Nat.reduceMul, Nat.reduceEqDiff, Int.reduceEq, Int.reduceBEq, Int.reduceBNe, Int.reduceLT, Int.reduceLE, Int.reduceGT, Int.reduceGE, Int.reduceNeg, Int.reduceAdd, Int.reduceSub, reduceCtorEq, List.reduceReplicate, ← List.map_take, ← List.map_drop]
    rw [hset]
    exact Ends.ret rfl (frz_keep2 rfl rfl)
end Go.Sh.C3
end
section
namespace Go.Sh.C3
open Go.Sh
set_option maxRecDepth 10000
set_option linter.unusedVariables false
set_option linter.unusedSimpArgs false
variable {P : Program}
def ic_cmp_isNaN_int : IC := .seq (.reg [⟨some 2, none, .mov (.c (.b false))⟩] [0]) (.seq (.reg [⟨some 3, none, .mov (.t 0)⟩, ⟨some 4, none, .mov (.t 0)⟩, ⟨some 5, none, .bin .neq (.t 3) (.t 4)⟩, ⟨some 2, none, .mov (.t 5)⟩] [2]) (.ret))
abbrev Low_cmp_isNaN_int (P : Program) (f : Nat) : Prop := lowF P f = some (6, [.tmp 2], (ic_cmp_isNaN_int).erase)
def ic_cmp_Compare_int (f0 : Nat) : IC := .seq (.reg [⟨some 4, none, .mov (.c (.i .i64 (0)))⟩] [0, 1]) (.seq (.reg [⟨some 7, none, .mov (.t 0)⟩, ⟨some 8, none, .calv (.c (.fn (.func f0) [] [])) [.t 7]⟩, ⟨some 5, none, .mov (.t 8)⟩] [0, 1, 5]) (.seq (.reg [⟨some 9, none, .mov (.t 1)⟩, ⟨some 10, none, .calv (.c (.fn (.func f0) [] [])) [.t 9]⟩, ⟨some 6, none, .mov (.t 10)⟩] [0, 1, 5, 6]) (.seq (.seq (.reg [⟨some 11, none, .mov (.t 5)⟩] [0, 1, 6, 11]) (.cond (.t 11) (.seq (.seq (.reg [⟨some 12, none, .mov (.t 6)⟩] [12]) (.cond (.t 12) (.seq (.reg [⟨some 4, none, .mov (.c (.i .i64 (0)))⟩] [4]) (.ret)) (.skip))) (.seq (.reg [⟨some 4, none, .mov (.c (.i .i64 (-1)))⟩] [4]) (.ret))) (.skip))) (.seq (.seq (.reg [⟨some 13, none, .mov (.t 6)⟩] [0, 1, 13]) (.cond (.t 13) (.seq (.reg [⟨some 4, none, .mov (.c (.i .i64 (1)))⟩] [4]) (.ret)) (.skip))) (.seq (.seq (.reg [⟨some 14, none, .mov (.t 0)⟩, ⟨some 15, none, .mov (.t 1)⟩, ⟨some 16, none, .bin .lss (.t 14) (.t 15)⟩] [0, 1, 16]) (.cond (.t 16) (.seq (.reg [⟨some 4, none, .mov (.c (.i .i64 (-1)))⟩] [4]) (.ret)) (.skip))) (.seq (.seq (.reg [⟨some 17, none, .mov (.t 0)⟩, ⟨some 18, none, .mov (.t 1)⟩, ⟨some 19, none, .bin .gtr (.t 17) (.t 18)⟩] [19]) (.cond (.t 19) (.seq (.reg [⟨some 4, none, .mov (.c (.i .i64 (1)))⟩] [4]) (.ret)) (.skip))) (.seq (.reg [⟨some 4, none, .mov (.c (.i .i64 (0)))⟩] [4]) (.ret))))))))
abbrev Low_cmp_Compare_int (P : Program) (f f0 : Nat) : Prop := lowF P f = some (20, [.tmp 4], (ic_cmp_Compare_int f0).erase)
def ic_cmp_Or_int : IC := .seq (.reg [⟨some 2, none, .mov (.c (.i .i64 (0)))⟩] [0]) (.seq (.reg [⟨some 3, none, .mov (.c (.i .i64 (0)))⟩] [0, 3]) (.seq (.seq (.reg [⟨some 6, none, .mov (.t 0)⟩, ⟨some 7, none, .len false (.t 6)⟩, ⟨some 8, none, .mov (.c (.i .i64 (0)))⟩] [3, 6, 7, 8]) (.block 0 (.loop (.seq (.reg [⟨some 9, none, .bin .lss (.t 8) (.t 7)⟩] [3, 6, 7, 8, 9]) (.seq (.cond (.t 9) (.skip) (.exit 0)) (.seq (.block 1 (.seq (.reg [⟨some 10, none, .ixs 1 (.t 6) (.t 8)⟩, ⟨some 11, none, .ld none (.t 10)⟩, ⟨some 5, none, .mov (.t 11)⟩] [3, 5, 6, 7, 8]) (.seq (.reg [⟨some 12, none, .mov (.t 5)⟩, ⟨some 13, none, .mov (.t 3)⟩, ⟨some 14, none, .bin .neq (.t 12) (.t 13)⟩] [3, 5, 6, 7, 8, 14]) (.cond (.t 14) (.seq (.reg [⟨some 15, none, .mov (.t 5)⟩, ⟨some 2, none, .mov (.t 15)⟩] [2]) (.ret)) (.skip))))) (.reg [⟨some 16, none, .bin .add (.t 8) (.c (.i .i64 (1)))⟩, ⟨some 8, none, .mov (.t 16)⟩] [3, 6, 7, 8]))))))) (.seq (.reg [⟨some 17, none, .mov (.t 3)⟩, ⟨some 2, none, .mov (.t 17)⟩] [2]) (.ret))))
abbrev Low_cmp_Or_int (P : Program) (f : Nat) : Prop := lowF P f = some (18, [.tmp 2], (ic_cmp_Or_int).erase)
def ic_bung_rule_1 : IC := .seq (.reg [⟨some 3, none, .mov (.c (.i .i64 (0)))⟩] [0, 1]) (.seq (.drg [(0, ⟨some 4, none, .ld none (.t 1)⟩), (0, ⟨some 5, none, .mov (.t 0)⟩), (0, ⟨some 6, none, .ixs 8 (.t 4) (.t 5)⟩), (0, ⟨some 7, none, .fad 1 (.t 6)⟩), (0, ⟨some 8, none, .fad 1 (.t 7)⟩), (0, ⟨some 9, none, .ld none (.t 8)⟩), (0, ⟨some 10, none, .ld none (.t 1)⟩), (0, ⟨some 11, none, .mov (.t 0)⟩), (0, ⟨some 12, none, .ixs 8 (.t 10) (.t 11)⟩), (0, ⟨some 13, none, .fad 3 (.t 12)⟩), (0, ⟨some 14, none, .fad 0 (.t 13)⟩), (0, ⟨some 15, none, .ld none (.t 14)⟩), (0, ⟨some 16, none, .bin .add (.t 9) (.t 15)⟩), (0, ⟨some 3, none, .mov (.t 16)⟩)] 12 [3]) (.ret))
abbrev Low_bung_rule_1 (P : Program) (f : Nat) : Prop := lowF P f = some (17, [.tmp 3], (ic_bung_rule_1).erase)
def askedE (w : Rg) (l : List Sag) (s : Spt) : Int := if rgB w 0 200 then (if listB l then (if spotB s then 0 else 33) else 30) else 32
def C_asked (P : Program) (f : Nat) : Prop := ∀ (w : Rg) (l : List Sag) (s : Spt), Snd P f [.agg w.c, .fsl (l.map Sag.c), .agg s.c] [] (.i .i64 (askedE w l s)) []
theorem ok_asked (hm : P.follows .mixedOrders = true) {f f0 f1 f2 : Nat} (low : Low_bung_asked P f f0 f1 f2) (h0 : C_isWad P f0) (h1 : C_isList P f1) (h2 : C_isSpot P f2) : C_asked P f := by
  intro w l s
  refine snd_ic hm low (by simp) ?_
  unfold ic_bung_asked
  simp -dsimp -implicitDefEqProofs only [qq, Nat.reduceBEq, reduceIte, Nat.reduceAdd, Nat.reduceSub, Nat.reduceLeDiff, Nat.reduceLT, Nat.reduceMul, Nat.reduceEqDiff, Int.reduceEq, Int.reduceBEq, Int.reduceBNe, Int.reduceLT, Int.reduceLE, Int.reduceGT, Int.reduceGE, Int.reduceNeg, Int.reduceAdd, Int.reduceSub, reduceCtorEq, List.reduceReplicate, ← List.map_take, ← List.map_drop]
  refine callI_pure (h0 w) rfl rfl ?_
  cases hw : rgB w 0 200 <;> simp -dsimp -implicitDefEqProofs only [qq, Nat.reduceBEq, reduceIte, Nat.reduceAdd, Nat.reduceSub, Nat.reduceLeDiff, Nat.reduceLT, Nat.reduceMul, Nat.reduceEqDiff, Int.reduceEq, Int.reduceBEq, Int.reduceBNe, Int.reduceLT, Int.reduceLE, Int.reduceGT, Int.reduceGE, Int.reduceNeg, Int.reduceAdd, Int.reduceSub, reduceCtorEq, List.reduceReplicate, ← List.map_take, ← List.map_drop]
  · exact Ends.plain rfl rfl (by simp [resV, askedE, hw])
  refine callI_pure (h1 l) rfl rfl ?_
  cases hl : listB l <;> simp -dsimp -implicitDefEqProofs only [qq, Nat.reduceBEq, reduceIte, Nat.reduceAdd, Nat.reduceSub, Nat.reduceLeDiff, Nat.reduceLT, Nat.reduceMul, Nat.reduceEqDiff, Int.reduceEq, Int.reduceBEq, Int.reduceBNe, Int.reduceLT, Int.reduceLE, Int.reduceGT, Int.reduceGE, Int.reduceNeg, Int.reduceAdd, Int.reduceSub, reduceCtorEq, List.reduceReplicate, ← List.map_take, ← List.map_drop]
  · exact Ends.plain rfl rfl (by simp [resV, askedE, hw, hl])
  refine callI_pure (h2 s) rfl rfl ?_
  cases hs : spotB s <;> simp -dsimp -implicitDefEqProofs only [qq, Nat.reduceBEq, reduceIte, Nat.reduceAdd, Nat.reduceSub, Nat.reduceLeDiff, Nat.reduceLT, Nat.reduceMul, Nat.reduceEqDiff, Int.reduceEq, Int.reduceBEq, Int.reduceBNe, Int.reduceLT, Int.reduceLE, Int.reduceGT, Int.reduceGE, Int.reduceNeg, Int.reduceAdd, Int.reduceSub, reduceCtorEq, List.reduceReplicate, ← List.map_take, ← List.map_drop]
  · exact Ends.plain rfl rfl (by simp [resV, askedE, hw, hl, hs])
  · exact Ends.plain rfl rfl (by simp [resV, askedE, hw, hl, hs])

def C_isNaN (P : Program) (f : Nat) : Prop := ∀ n : Int, Snd P f [.i .i64 n] [] (.b false) []
theorem ok_isNaN (hm : P.follows .mixedOrders = true) {f : Nat} (low : Low_cmp_isNaN_int P f) : C_isNaN P f := by
  intro n
  refine snd_ic hm low (by simp) ?_
  unfold ic_cmp_isNaN_int
  simp -dsimp -implicitDefEqProofs only [qq, Nat.reduceBEq, reduceIte, Nat.reduceAdd, Nat.reduceSub, Nat.reduceLeDiff, Nat.reduceLT, Nat.reduceMul, Nat.reduceEqDiff, Int.reduceEq, Int.reduceBEq, Int.reduceBNe, Int.reduceLT, Int.reduceLE, Int.reduceGT, Int.reduceGE, Int.reduceNeg, Int.reduceAdd, Int.reduceSub, reduceCtorEq, List.reduceReplicate, ← List.map_take, ← List.map_drop]
  exact Ends.plain rfl rfl (by simp [resV])

def cmpS (a b : Int) : Int := if a < b then -1 else if b < a then 1 else 0
def C_Compare (P : Program) (f : Nat) : Prop := ∀ a b : Int, Snd P f [.i .i64 a, .i .i64 b] [] (.i .i64 (cmpS a b)) []
theorem ok_Compare (hm : P.follows .mixedOrders = true) {f f0 : Nat} (low : Low_cmp_Compare_int P f f0) (h0 : C_isNaN P f0) : C_Compare P f := by
  intro a b
  refine snd_ic hm low (by simp) ?_
  unfold ic_cmp_Compare_int
  simp -dsimp -implicitDefEqProofs only [qq, Nat.reduceBEq, reduceIte, Nat.reduceAdd, Nat.reduceSub, Nat.reduceLeDiff, Nat.reduceLT, Nat.reduceMul, Nat.reduceEqDiff, Int.reduceEq, Int.reduceBEq, Int.reduceBNe, Int.reduceLT, Int.reduceLE, Int.reduceGT, Int.reduceGE, Int.reduceNeg, Int.reduceAdd, Int.reduceSub, reduceCtorEq, List.reduceReplicate, ← List.map_take, ← List.map_drop]
  repeat' (first | (refine brG_of (fun h => ?_) (fun h => ?_) <;> simp -dsimp -implicitDefEqProofs only [h, qq, Nat.reduceBEq, reduceIte, Nat.reduceAdd, Nat.reduceSub, Nat.reduceLeDiff, Nat.reduceLT, Nat.reduceMul, Nat.reduceEqDiff, Int.reduceEq, Int.reduceBEq, Int.reduceBNe, Int.reduceLT, Int.reduceLE, Int.reduceGT, Int.reduceGE, Int.reduceNeg, Int.reduceAdd, Int.reduceSub, reduceCtorEq, List.reduceReplicate, ← List.map_take, ← List.map_drop]) | (refine callI_pure (h0 _) rfl rfl ?_; simp -dsimp -implicitDefEqProofs only [qq, Nat.reduceBEq, reduceIte, Nat.reduceAdd, Nat.reduceSub, Nat.reduceLeDiff, Nat.reduceLT, Nat.reduceMul, Nat.reduceEqDiff, Int.reduceEq, Int.reduceBEq, Int.reduceBNe, Int.reduceLT, Int.reduceLE, Int.reduceGT, Int.reduceGE, Int.reduceNeg, Int.reduceAdd, Int.reduceSub, reduceCtorEq, List.reduceReplicate, ← List.map_take, ← List.map_drop]))
  all_goals exact Ends.plain rfl rfl (by first | (simp_all [resV, cmpS]; done) | (simp_all [resV, cmpS]; omega) | (simp only [resV, cmpS]; grind))

def orS (l : List Int) : Int := (l.find? (· != 0)).getD 0
def C_Or (P : Program) (f : Nat) : Prop := ∀ l : List Int, l.length < 1000000000 → Snd P f [.fsl (l.map intC)] [] (.i .i64 (orS l)) []
theorem ok_Or (hm : P.follows .mixedOrders = true) {f : Nat} (low : Low_cmp_Or_int P f) : C_Or P f := by
  intro l hl
  refine snd_ic hm low (by simp) ?_
  unfold ic_cmp_Or_int
  simp -dsimp -implicitDefEqProofs only [qq, Nat.reduceBEq, reduceIte, Nat.reduceAdd, Nat.reduceSub, Nat.reduceLeDiff, Nat.reduceLT, Nat.reduceMul, Nat.reduceEqDiff, Int.reduceEq, Int.reduceBEq, Int.reduceBNe, Int.reduceLT, Int.reduceLE, Int.reduceGT, Int.reduceGE, Int.reduceNeg, Int.reduceAdd, Int.reduceSub, reduceCtorEq, List.reduceReplicate, ← List.map_take, ← List.map_drop]
  refine loopI_st (fun k : Nat => l.length - k) (fun k E H => k ≤ l.length ∧ (l.take k).find? (· != 0) = none ∧ E = [(3, .i .i64 0), (6, .fsl (l.map intC)), (7, .i .i64 l.length), (8, .i .i64 k)] ∧ H = []) 0 ⟨by omega, by simp, rfl, rfl⟩ ?_
  rintro k _ _ ⟨hk, hn, rfl, rfl⟩
  simp -dsimp -implicitDefEqProofs only [qq, Nat.reduceBEq, reduceIte, Nat.reduceAdd, Nat.reduceSub, Nat.reduceLeDiff, Nat.reduceLT, Nat.reduceMul, Nat.reduceEqDiff, Int.reduceEq, Int.reduceBEq, Int.reduceBNe, Int.reduceLT, Int.reduceLE, Int.reduceGT, Int.reduceGE, Int.reduceNeg, Int.reduceAdd, Int.reduceSub, reduceCtorEq, List.reduceReplicate, ← List.map_take, ← List.map_drop]
  refine brG_of (fun hlt => ?_) (fun hge => ?_)
  · have hkl : k < l.length := by simpa using hlt
    obtain ⟨n, hx, _, htk, hdr⟩ := next_of hkl
    have hwk : IntKind.i64.wrap ((k : Int) + 1) = ((k + 1 : Nat) : Int) := wrap_succ (by omega)
    simp -dsimp -implicitDefEqProofs only [hx, intC, qq, Nat.reduceBEq, reduceIte, Nat.reduceAdd, Nat.reduceSub, Nat.reduceLeDiff, Nat.reduceLT, Nat.reduceMul, Nat.reduceEqDiff, Int.reduceEq, Int.reduceBEq, Int.reduceBNe, Int.reduceLT, Int.reduceLE, Int.reduceGT, Int.reduceGE, Int.reduceNeg, Int.reduceAdd, Int.reduceSub, reduceCtorEq, List.reduceReplicate, ← List.map_take, ← List.map_drop]
    cases h0 : (n != 0) <;> simp -dsimp -implicitDefEqProofs only [h0, hwk, qq, Nat.reduceBEq, reduceIte, Nat.reduceAdd, Nat.reduceSub, Nat.reduceLeDiff, Nat.reduceLT, Nat.reduceMul, Nat.reduceEqDiff, Int.reduceEq, Int.reduceBEq, Int.reduceBNe, Int.reduceLT, Int.reduceLE, Int.reduceGT, Int.reduceGE, Int.reduceNeg, Int.reduceAdd, Int.reduceSub, reduceCtorEq, List.reduceReplicate, ← List.map_take, ← List.map_drop]
    · exact ⟨k + 1, by omega, by omega, by rw [htk, List.find?_append, hn]; simpa using h0, rfl⟩
    · refine Ends.plain rfl rfl ?_
      simp only [resV, orS]
      rw [← List.take_append_drop k l, List.find?_append, hn, hdr, List.find?_cons_of_pos (by exact h0)]; rfl
  · obtain rfl : k = l.length := by simp at hge; omega
    rw [List.take_length] at hn
    simp -dsimp -implicitDefEqProofs only [qq, Nat.reduceBEq, reduceIte, Nat.reduceAdd, Nat.reduceSub, Nat.reduceLeDiff, Nat.reduceLT, Nat.reduceMul, Nat.reduceEqDiff, Int.reduceEq, Int.reduceBEq, Int.reduceBNe, Int.reduceLT, Int.reduceLE, Int.reduceGT, Int.reduceGE, Int.reduceNeg, Int.reduceAdd, Int.reduceSub, reduceCtorEq, List.reduceReplicate, ← List.map_take, ← List.map_drop]
    exact Ends.plain rfl rfl (by simp [resV, orS, hn])

def strS (s : Sag) : Int := s.w.hi + s.b.lo
def C_strong (P : Program) (f : Nat) : Prop := ∀ (l : List Sag) (i : Int) (s : Sag), listB l = true → 0 ≤ i → l[i.toNat]? = some s → Snd P f [.i .i64 i, .fpt [.fsl (l.map Sag.c)] 0] [] (.i .i64 (strS s)) []
theorem ok_strong (hm : P.follows .mixedOrders = true) {f : Nat} (low : Low_bung_rule_1 P f) : C_strong P f := by
  intro l i s hv h0 hi
  have hr : rowAt (l.map Sag.c) i = some s.c := rowAt_int h0 hi
  have hs : sagB s = true := by have := List.mem_of_getElem? hi; simp [listB] at hv; exact hv.1.2 s this
  have hw : IntKind.i64.wrap (s.w.hi + s.b.lo) = s.w.hi + s.b.lo := by
    simp [sagB, rgB, inR] at hs
    exact wrap_id (by omega) (by omega)
  refine snd_ic hm low (by simp) ?_
  unfold ic_bung_rule_1
  simp -dsimp -implicitDefEqProofs only [qq, Nat.reduceBEq, reduceIte, Nat.reduceAdd, Nat.reduceSub, Nat.reduceLeDiff, Nat.reduceLT, Nat.reduceMul, Nat.reduceEqDiff, Int.reduceEq, Int.reduceBEq, Int.reduceBNe, Int.reduceLT, Int.reduceLE, Int.reduceGT, Int.reduceGE, Int.reduceNeg, Int.reduceAdd, Int.reduceSub, reduceCtorEq, List.reduceReplicate, ← List.map_take, ← List.map_drop]
  simp -dsimp -implicitDefEqProofs only [hr, Sag.c, hw, qq, Nat.reduceBEq, reduceIte, Nat.reduceAdd, Nat.reduceSub, Nat.reduceLeDiff, Nat.reduceLT, Nat.reduceMul, Nat.reduceEqDiff, Int.reduceEq, Int.reduceBEq, Int.reduceBNe, Int.reduceLT, Int.reduceLE, Int.reduceGT, Int.reduceGE, Int.reduceNeg, Int.reduceAdd, Int.reduceSub, reduceCtorEq, List.reduceReplicate, ← List.map_take, ← List.map_drop]
  exact Ends.plain rfl rfl (by simp [resV, strS])

end Go.Sh.C3
end
section
namespace Go.Sh.C3
open Go.Sh
set_option maxRecDepth 10000
set_option linter.unusedVariables false
set_option linter.unusedSimpArgs false
variable {P : Program}
def ic_bung_rule_2 (f0 f1 : Nat) : IC := .seq (.reg [⟨some 6, none, .mov (.c (.i .i64 (0)))⟩] [0, 1, 2, 3]) (.seq (.drg [(0, ⟨some 7, none, .ld none (.t 2)⟩), (0, ⟨some 8, none, .mov (.t 1)⟩), (0, ⟨some 9, none, .calv (.t 7) [.t 8]⟩), (0, ⟨some 10, none, .ld none (.t 2)⟩), (0, ⟨some 11, none, .mov (.t 0)⟩), (0, ⟨some 12, none, .calv (.t 10) [.t 11]⟩), (0, ⟨some 13, none, .calv (.c (.fn (.func f0) [] [])) [.t 9, .t 12]⟩), (0, ⟨some 14, none, .ld none (.t 3)⟩), (0, ⟨some 15, none, .mov (.t 0)⟩), (0, ⟨some 16, none, .ixs 8 (.t 14) (.t 15)⟩), (0, ⟨some 17, none, .fad 0 (.t 16)⟩), (0, ⟨some 18, none, .ld none (.t 17)⟩), (0, ⟨some 19, none, .ld none (.t 3)⟩), (0, ⟨some 20, none, .mov (.t 1)⟩), (0, ⟨some 21, none, .ixs 8 (.t 19) (.t 20)⟩), (0, ⟨some 22, none, .fad 0 (.t 21)⟩), (0, ⟨some 23, none, .ld none (.t 22)⟩), (0, ⟨some 24, none, .calv (.c (.fn (.func f0) [] [])) [.t 18, .t 23]⟩), (1, ⟨some 25, none, .bsl false 1 2 [.i .i64 (0)] [(0, (.t 13)), (1, (.t 24))]⟩), (1, ⟨some 26, none, .calv (.c (.fn (.func f1) [] [])) [.t 25]⟩), (0, ⟨some 6, none, .mov (.t 26)⟩)] 17 [6]) (.ret))
abbrev Low_bung_rule_2 (P : Program) (f f0 f1 : Nat) : Prop := lowF P f = some (27, [.tmp 6], (ic_bung_rule_2 f0 f1).erase)

def ordS (l : List Sag) (i k : Int) : Int := match l[i.toNat]?, l[k.toNat]? with
  | some a, some b => orS [cmpS (strS b) (strS a), cmpS a.id b.id]
  | _, _ => 0
def capsS (g : Nat) (l : List Sag) : List V := [.fpt [.fn (.func g) [] [.fpt [.fsl (l.map Sag.c)] 0]] 0, .fpt [.fsl (l.map Sag.c)] 0]
def C_order (P : Program) (f g : Nat) : Prop := ∀ (l : List Sag) (i k : Int), listB l = true → 0 ≤ i → i < l.length → 0 ≤ k → k < l.length → Snd P f ([.i .i64 i, .i .i64 k] ++ capsS g l) [] (.i .i64 (ordS l i k)) []
theorem ok_order (hm : P.follows .mixedOrders = true) {f f0 f1 g : Nat} (low : Low_bung_rule_2 P f f0 f1) (h0 : C_Compare P f0) (h1 : C_Or P f1) (hg : C_strong P g) : C_order P f g := by
  intro l i k hv i0 i1 k0 k1
  obtain ⟨a, ha, ham, _, _⟩ := next_of (show i.toNat < l.length by omega)
  obtain ⟨b, hb, hbm, _, _⟩ := next_of (show k.toNat < l.length by omega)
  have ra : rowAt (l.map Sag.c) i = some a.c := rowAt_int i0 ha
  have rb : rowAt (l.map Sag.c) k = some b.c := rowAt_int k0 hb
  have ca := snd_fn (first := []) (args := [.i .i64 i]) (caps := [.fpt [.fsl (l.map Sag.c)] 0]) (hg l i a hv i0 ha)
  have cb := snd_fn (first := []) (args := [.i .i64 k]) (caps := [.fpt [.fsl (l.map Sag.c)] 0]) (hg l k b hv k0 hb)
  unfold capsS
  simp only [List.cons_append, List.nil_append]
  refine snd_ic hm low (by simp) ?_
  unfold ic_bung_rule_2
  simp -dsimp -implicitDefEqProofs only [qq, Nat.reduceBEq, reduceIte, Nat.reduceAdd, Nat.reduceSub, Nat.reduceLeDiff, Nat.reduceLT, Nat.reduceMul, Nat.reduceEqDiff, Int.reduceEq, Int.reduceBEq, Int.reduceBNe, Int.reduceLT, Int.reduceLE, Int.reduceGT, Int.reduceGE, Int.reduceNeg, Int.reduceAdd, Int.reduceSub, reduceCtorEq, List.reduceReplicate, ← List.map_take, ← List.map_drop]
  refine callI_pure cb rfl rfl ?_
  simp -dsimp -implicitDefEqProofs only [ra, rb, Sag.c, qq, Nat.reduceBEq, reduceIte, Nat.reduceAdd, Nat.reduceSub, Nat.reduceLeDiff, Nat.reduceLT, Nat.reduceMul, Nat.reduceEqDiff, Int.reduceEq, Int.reduceBEq, Int.reduceBNe, Int.reduceLT, Int.reduceLE, Int.reduceGT, Int.reduceGE, Int.reduceNeg, Int.reduceAdd, Int.reduceSub, reduceCtorEq, List.reduceReplicate, ← List.map_take, ← List.map_drop]
  refine callI_pure ca rfl rfl ?_
  simp -dsimp -implicitDefEqProofs only [ra, rb, Sag.c, qq, Nat.reduceBEq, reduceIte, Nat.reduceAdd, Nat.reduceSub, Nat.reduceLeDiff, Nat.reduceLT, Nat.reduceMul, Nat.reduceEqDiff, Int.reduceEq, Int.reduceBEq, Int.reduceBNe, Int.reduceLT, Int.reduceLE, Int.reduceGT, Int.reduceGE, Int.reduceNeg, Int.reduceAdd, Int.reduceSub, reduceCtorEq, List.reduceReplicate, ← List.map_take, ← List.map_drop]
  refine callI_pure (h0 _ _) rfl rfl ?_
  simp -dsimp -implicitDefEqProofs only [ra, rb, Sag.c, qq, Nat.reduceBEq, reduceIte, Nat.reduceAdd, Nat.reduceSub, Nat.reduceLeDiff, Nat.reduceLT, Nat.reduceMul, Nat.reduceEqDiff, Int.reduceEq, Int.reduceBEq, Int.reduceBNe, Int.reduceLT, Int.reduceLE, Int.reduceGT, Int.reduceGE, Int.reduceNeg, Int.reduceAdd, Int.reduceSub, reduceCtorEq, List.reduceReplicate, ← List.map_take, ← List.map_drop]
  refine callI_pure (h0 _ _) rfl rfl ?_
  simp -dsimp -implicitDefEqProofs only [ra, rb, Sag.c, qq, Nat.reduceBEq, reduceIte, Nat.reduceAdd, Nat.reduceSub, Nat.reduceLeDiff, Nat.reduceLT, Nat.reduceMul, Nat.reduceEqDiff, Int.reduceEq, Int.reduceBEq, Int.reduceBNe, Int.reduceLT, Int.reduceLE, Int.reduceGT, Int.reduceGE, Int.reduceNeg, Int.reduceAdd, Int.reduceSub, reduceCtorEq, List.reduceReplicate, ← List.map_take, ← List.map_drop]
  refine callI_lend1 (h1 [cmpS (strS b) (strS a), cmpS a.id b.id] (by simp)) (frz_lit rfl rfl (by intro row hr; simp at hr; rcases hr with rfl | rfl <;> rfl)) rfl ?_
  simp -dsimp -implicitDefEqProofs only [qq, Nat.reduceBEq, reduceIte, Nat.reduceAdd, Nat.reduceSub, Nat.reduceLeDiff, Nat.reduceLT, Nat.reduceMul, Nat.reduceEqDiff, Int.reduceEq, Int.reduceBEq, Int.reduceBNe, Int.reduceLT, Int.reduceLE, Int.reduceGT, Int.reduceGE, Int.reduceNeg, Int.reduceAdd, Int.reduceSub, reduceCtorEq, List.reduceReplicate, ← List.map_take, ← List.map_drop]
  exact Ends.plain rfl rfl (by simp only [resV, ordS, ha, hb])
end Go.Sh.C3
end
section
namespace Go.Sh
open Go.Proofs Go.Sort
set_option linter.unusedVariables false
set_option linter.unusedSimpArgs false
variable {P : Program}

/-- What is read as frozen, in another context. -/
theorem frz_lendX {c c' : Cx} {H : List Blk} (hsub : SubN 0 c c') (hlive : ∀ id blk, H[id]? = some blk → blk ≠ .dead → ∃ b sz, c.ρ id = some (b, sz) ∧ BlkAs c b sz blk ∧ c'.w.heap[b]? = c.w.heap[b]? ∧ ¬ c'.X b) {v r : V} (hf : Frz 0 H v r) : ∀ {u : Value}, R c v u → R c' r u := by
  induction hf with
  | nil => intro u h; cases h; exact .fsl0 none 0 (fun _ => rfl)
  | emp => intro u h; cases h; exact .fsl0 _ 0 (fun _ => rfl)
  | keep v hv => intro u h; exact h.rectx hsub hv
  | sl id k off len cap ex rows rows' hid hb hle hl hbel hel _ ih =>
    intro u h
    cases h with
    | rsl _ _ _ _ _ _ a q hi hsp hlq hcq hex hp =>
      obtain ⟨b, sz, hρ, ⟨cells, e, g1, g2, g3, g4, g5, g6⟩, hh, hx⟩ := hlive id _ hb (by simp)
      obtain ⟨p1, p2⟩ := hp b sz hρ
      by_cases h0 : len = 0
      · subst h0
        have : rows' = [] := List.eq_nil_of_length_eq_zero hl
        subst this
        exact .fsl0 (some a) q (by simp)
      · rw [p1 (by omega)]
        subst hl
        have htl : ((rows.drop off).take rows'.length).length = rows'.length := take_len hle
        refine .fsl rows' b (off * k) k q cells e (0, 0) (hh.trans g1) hx ?_ ?_ hlq hbel ?_
        · intro row' hr'
          obtain ⟨i, hi'⟩ := List.getElem?_of_mem hr'
          have hil := (List.getElem?_eq_some_iff.1 hi').1
          have hrow : ((rows.drop off).take rows'.length)[i]? = some (((rows.drop off).take rows'.length)[i]'(by omega)) := by simp [htl, hil]
          rw [← hel i _ row' hrow hi']
          exact g3 _ (List.mem_of_mem_drop (List.mem_of_mem_take (List.getElem_mem _)))
        · have : (off + rows'.length) * k ≤ rows.length * k := Nat.mul_le_mul_right _ hle
          rw [Nat.add_mul] at this
          omega
        · intro i row' j v' u' h1 h2 h3
          have hil := (List.getElem?_eq_some_iff.1 h1).1
          have hrow : ((rows.drop off).take rows'.length)[i]? = some (((rows.drop off).take rows'.length)[i]'(by omega)) := by simp [htl, hil]
          have e1 := hel i _ row' hrow h1
          have hjl : j < (((rows.drop off).take rows'.length)[i]'(by omega)).length := by rw [e1]; exact (List.getElem?_eq_some_iff.1 h2).1
          have hv : (((rows.drop off).take rows'.length)[i]'(by omega))[j]? = some ((((rows.drop off).take rows'.length)[i]'(by omega))[j]) := by simp [hjl]
          refine ih i _ row' j _ v' hrow h1 hv h2 ?_
          rw [List.getElem?_take, if_pos hil, List.getElem?_drop] at hrow
          refine g6 (off + i) _ j _ u' hrow hv ?_
          rw [Nat.zero_add, Nat.add_mul]
          exact h3
  | agg cs cs' hl _ ih =>
    intro u h
    obtain ⟨us, rfl, h1, h2⟩ := h.agg_inv
    refine .agg cs' us (by omega) (fun j v' u' e1 e2 => ?_)
    have hjl : j < cs.length := by rw [hl]; exact (List.getElem?_eq_some_iff.1 e1).1
    have hv : cs[j]? = some cs[j] := by simp [hjl]
    exact ih j _ v' hv e1 (h2 j _ u' hv e2)
  | tup cs cs' hl _ ih =>
    intro u h
    obtain ⟨us, rfl, h1, h2⟩ := h.tup_inv
    refine .tup cs' us (by omega) (fun j v' u' e1 e2 => ?_)
    have hjl : j < cs.length := by rw [hl]; exact (List.getElem?_eq_some_iff.1 e1).1
    have hv : cs[j]? = some cs[j] := by simp [hjl]
    exact ih j _ v' hv e1 (h2 j _ u' hv e2)
  | pt id k r off rows row row' hid hb hr hl hbel _ ih =>
    intro u h
    cases h with
    | rpt _ _ _ _ ad hi _ hp =>
      obtain ⟨b, sz, hρ, ⟨cells, e, g1, g2, g3, g4, g5, g6⟩, hh, hx⟩ := hlive id _ hb (by simp)
      rw [hp b sz hρ]
      have hrk := g3 row (List.mem_of_getElem? hr)
      have hrl := (List.getElem?_eq_some_iff.1 hr).1
      have : (r + 1) * k ≤ rows.length * k := Nat.mul_le_mul_right _ hrl
      rw [Nat.add_mul] at this
      refine .fpt row' off b (r * k) cells e (0, 0) (hh.trans g1) hx (by omega) hbel (fun j v' u' e1 e2 => ?_)
      have hjl : j < row.length := by rw [hl]; exact (List.getElem?_eq_some_iff.1 e1).1
      have hv : row[j]? = some row[j] := by simp [hjl]
      exact ih j _ v' hv e1 (g6 r row j _ u' hr hv (by rw [Nat.zero_add]; exact e2))
  | fn f fs fs' cs cs' h1 h2 _ _ ih1 ih2 =>
    intro u h
    cases h with
    | fn _ _ _ us vs k1 k2 k3 k4 =>
      refine .fn f fs' cs' us vs (by omega) (by omega) (fun j v' u' e1 e2 => ?_) (fun j v' u' e1 e2 => ?_)
      · have hjl : j < fs.length := by rw [h1]; exact (List.getElem?_eq_some_iff.1 e1).1
        have hv : fs[j]? = some fs[j] := by simp [hjl]
        exact ih1 j _ v' hv e1 (k3 j _ u' hv e2)
      · have hjl : j < cs.length := by rw [h2]; exact (List.getElem?_eq_some_iff.1 e1).1
        have hv : cs[j]? = some cs[j] := by simp [hjl]
        exact ih2 j _ v' hv e1 (k4 j _ u' hv e2)
  | ifc t v v' _ ih =>
    intro u h
    cases h with
    | ifc _ _ u0 h0 => exact .ifc t v' u0 (ih h0)

theorem grow_of_keep {w w' : World} (h1 : w'.os = w.os) (h2 : w'.tape = w.tape) (h3 : w'.output = w.output) (h4 : w.heap.size ≤ w'.heap.size) (h5 : ∀ b, b < w.heap.size → w'.heap[b]? = w.heap[b]?) (h6 : w.drawn ≤ w'.drawn) :
    ∃ q os', w' = grow (w.drewN q) os' := by
  refine ⟨w'.drawn - w.drawn, w'.heap.extract w.heap.size, ?_⟩
  obtain ⟨a1, a2, a3, a4, a5⟩ := w
  obtain ⟨b1, b2, b3, b4, b5⟩ := w'
  simp only at h1 h2 h3 h4 h5 h6
  subst h1 h2 h3
  simp only [grow, World.drewN, World.mk.injEq]
  refine ⟨?_, trivial, by omega, trivial, trivial⟩
  apply Array.ext_getElem?
  intro i
  by_cases hi : i < a1.size
  · rw [h5 i hi, Array.getElem?_append_left hi]
  · rw [Array.getElem?_append_right (by omega), Array.getElem?_extract]
    by_cases hj : i < b1.size
    · rw [if_pos (by omega), Nat.add_sub_cancel' (by omega)]
    · rw [if_neg (by omega), Array.getElem?_eq_none (by omega)]

/-- The same with a result of any kind, in any world. -/
theorem calls_of_sndX {f : FuncId} {vs : List V} {us : List Value} {c : Cx} {r : V} (hf : isFn P f) (h : Snd P f vs [] r []) (hH : RH c []) (hr : RL c vs us) :
    Calls P f us.toArray c.w fun e w' => ∃ v, e = .returned v ∧ Post c [] r v w' := by
  obtain ⟨d, hd, hi⟩ := h c hH (.func (.func f) #[] #[]) us (R.fn (c := c) (.func f) [] [] [] [] rfl rfl (fun j v u e => by simp at e) (fun j v u e => by simp at e)) hr
  have hd' : d = { target := .fn (.func f) #[], args := #[] ++ us.toArray } := by
    have : (Sem.pure { target := Target.fn (.func f) #[], args := #[] ++ us.toArray } : Sem Deferred) = Sem.pure d := hd
    injection this with h; exact h.symm
  subst hd'
  obtain ⟨fn, h1, h2, h3⟩ := hf
  have hinv : (invoke (.fn (.func f) #[]) (#[] ++ us.toArray)).run P c.w = .ok (.enter f us.toArray) c.w := by
    simp only [invoke]
    rw [run_callFunc h1 h2 h3]
    simp
  simp only [Inv, hinv] at hi
  exact hi

def encI (D : Int → Prop) (x : {x : Int // D x}) : Value := .int .i64 x.1
def rowI (l : List Int) : Blk := .row 1 (l.map fun n => [.i .i64 n])

section
variable {α : Type} [Inhabited α]
theorem heap_sortWorld (enc : α → Value) (w : World) (b off m : Nat) (d : Array α) (os : Array Obj) : (sortWorld enc w b off m d os).heap = w.heap.modify b (onCells (Go.Sort.putCells enc off d)) ++ os := rfl
theorem size_sortWorld (enc : α → Value) (w : World) (b off m : Nat) (d : Array α) (os : Array Obj) : (sortWorld enc w b off m d os).heap.size = w.heap.size + os.size := by simp [heap_sortWorld]
theorem keep_sortWorld (enc : α → Value) (w : World) (b off m : Nat) (d : Array α) (os : Array Obj) {a : Nat} (ha : a < w.heap.size) (hn : a ≠ b) : (sortWorld enc w b off m d os).heap[a]? = w.heap[a]? := by
  rw [heap_sortWorld, Array.getElem?_append_left (by simpa using ha), Array.getElem?_modify, if_neg (Ne.symm hn)]
theorem at_sortWorld (enc : α → Value) (w : World) (b off m : Nat) (d : Array α) (os : Array Obj) {cells : Array Value} {e : TypeId} {fz : Nat × Nat} (h : w.heap[b]? = some (.cells cells e fz)) :
    (sortWorld enc w b off m d os).heap[b]? = some (.cells (Go.Sort.putCells enc off d cells) e fz) := by
  have hb := (Array.getElem?_eq_some_iff.1 h).1
  rw [heap_sortWorld, Array.getElem?_append_left (by simpa using hb), Array.getElem?_modify, if_pos rfl, h]
  rfl
end

theorem cmp_lays {c : Cx} {H : List Blk} (hH : RH c H) {p b sz : Nat} {blk : Blk} (hp : H[p]? = some blk) (hpd : blk ≠ .dead) (hρ : c.ρ p = some (b, sz)) {D : Int → Prop} [Inhabited {x : Int // D x}] {cf : Int → Int → Int} {g : Nat} {caps caps' : List V} {us : List Value}
    (hf : isFn P g) (hc : ∀ x y, D x → D y → Snd P g ([.i .i64 x, .i .i64 y] ++ caps') [] (.i .i64 (cf x y)) []) (hl : caps.length = caps'.length)
    (hfz : ∀ (j : Nat) (v v' : V), caps[j]? = some v → caps'[j]? = some v' → Frz 0 (H.set p .dead) v v') (hu : RL c caps us) (size : Nat) :
    CmpLays1 P g us.toArray (encI D) (fun x y => cf x.1 y.1) b 0 size c.w := by
  intro m os dk hs x y
  have hXb : c.X b := by
    obtain ⟨b2, sz2, e, hx, _⟩ := hH.live p blk hp hpd
    rw [hρ] at e; cases e; exact hx
  have hbl := hH.X b hXb
  have hH' : RH (⟨sortWorld (encI D) c.w b 0 m dk os, fun a => a = b, fun _ => none, 0⟩ : Cx) [] :=
    ⟨rfl, fun a ha => by subst ha; show _ < (sortWorld _ _ _ _ _ _ _).heap.size; rw [size_sortWorld]; omega, fun _ _ => rfl, fun id blk h => by simp at h, fun id id' b s s' h => by cases h⟩
  have hsub : SubN 0 c (⟨sortWorld (encI D) c.w b 0 m dk os, fun a => a = b, fun _ => none, 0⟩ : Cx) :=
    ⟨fun a ha hx => ⟨keep_sortWorld _ _ _ _ _ _ _ ha (fun e => hx (e ▸ hXb)), fun e => hx (e ▸ hXb)⟩, fun id h _ => absurd h (Nat.not_lt_zero _), fun id h _ => absurd h (Nat.not_lt_zero _)⟩
  have hlive : ∀ id blk, (H.set p .dead)[id]? = some blk → blk ≠ .dead → ∃ b2 sz2, c.ρ id = some (b2, sz2) ∧ BlkAs c b2 sz2 blk ∧ (sortWorld (encI D) c.w b 0 m dk os).heap[b2]? = c.w.heap[b2]? ∧ ¬ (b2 = b) := by
    intro id blk2 h hd
    by_cases hid : p = id
    · subst hid
      rw [List.getElem?_set_self (get_lt hp)] at h
      cases h; exact absurd rfl hd
    · rw [List.getElem?_set_ne hid] at h
      obtain ⟨b2, sz2, e, hx, hb⟩ := hH.live id blk2 h hd
      have hne : b2 ≠ b := fun hh => hid (hH.inj p id b sz sz2 hρ (hh ▸ e))
      exact ⟨b2, sz2, e, hb, keep_sortWorld _ _ _ _ _ _ _ (hH.X b2 hx) hne, hne⟩
  have hR : RL (⟨sortWorld (encI D) c.w b 0 m dk os, fun a => a = b, fun _ => none, 0⟩ : Cx) ([.i .i64 x.1, .i .i64 y.1] ++ caps') ([encI D x, encI D y] ++ us) := by
    refine ⟨by simp; rw [← hl]; exact hu.1, fun j v u e1 e2 => ?_⟩
    match j with
    | 0 => simp at e1 e2; subst e1 e2; exact .i _ _
    | 1 => simp at e1 e2; subst e1 e2; exact .i _ _
    | j + 2 =>
      simp at e1 e2
      have hj : j < caps.length := by rw [hl]; exact (List.getElem?_eq_some_iff.1 e1).1
      have hv : caps[j]? = some caps[j] := by simp [hj]
      exact frz_lendX hsub hlive (hfz j _ v hv e1) (hu.2 j _ u hv e2)
  have hk := calls_of_sndX hf (hc x.1 y.1 x.2 y.2) hH' hR
  rw [show (#[encI D x, encI D y] ++ us.toArray) = ([encI D x, encI D y] ++ us).toArray by simp]
  refine Calls.mono hk ?_
  rintro e w' ⟨v, rfl, c1, rfl, k1, k2, k3⟩
  cases k2
  exact ⟨rfl, grow_of_keep k3.os k3.tape k3.output k3.size (fun a ha => k3.keep a ha (fun id sz e => by cases e)) k3.drawn⟩

/-- What stands when the row is laid anew. -/
theorem sort_after {c : Cx} {H : List Blk} (hH : RH c H) {p b sz : Nat} {l l' : List Int} (hp : H[p]? = some (rowI l)) (hρ : c.ρ p = some (b, sz)) {D : Int → Prop} [Inhabited {x : Int // D x}] (d : Array {x : Int // D x}) (hdv : d.toList.map Subtype.val = l') (hl : l'.length = l.length) (n : Nat) (os : Array Obj) :
    RH { c with w := sortWorld (encI D) c.w b 0 n d os } (H.set p (rowI l')) ∧ Stp c { c with w := sortWorld (encI D) c.w b 0 n d os } := by
  obtain ⟨b2, sz2, e, hXb, hblk⟩ := hH.live p _ hp (by simp [rowI])
  rw [hρ] at e; cases e
  have hbl := hH.X b hXb
  have hsub : Sub c { c with w := sortWorld (encI D) c.w b 0 n d os } := ⟨fun a ha hx => ⟨keep_sortWorld _ _ _ _ _ _ _ ha (fun e => hx (e ▸ hXb)), hx⟩, Nat.le_refl _, fun _ _ => .inl rfl⟩
  refine ⟨⟨by rw [List.length_set]; exact hH.N, fun a ha => by show _ < (sortWorld _ _ _ _ _ _ _).heap.size; rw [size_sortWorld]; have := hH.X a ha; omega, fun id h => ?_, fun id blk h hd => ?_, hH.inj⟩, ⟨rfl, rfl, rfl, by show _ ≤ (sortWorld _ _ _ _ _ _ _).heap.size; rw [size_sortWorld]; omega, fun a ha hn => keep_sortWorld _ _ _ _ _ _ _ ha (fun e => hn p sz (e ▸ hρ)), fun _ _ => ⟨fun h => h, fun _ h => h⟩, Nat.le_refl _, fun _ _ => .inl rfl, fun id b sz h => .inr ⟨id, sz, h⟩, Nat.le_add_right _ _⟩⟩
  · by_cases hid : p = id
    · subst hid
      rw [List.getElem?_set_self (get_lt hp)] at h
      simp [rowI] at h
    · rw [List.getElem?_set_ne hid] at h
      exact hH.gone id h
  · by_cases hid : p = id
    · subst hid
      rw [List.getElem?_set_self (get_lt hp)] at h
      cases h
      refine ⟨b, sz, hρ, hXb, ?_⟩
      obtain ⟨cells, ee, g1, g2, g3, g4, g5, g6⟩ := hblk
      have hdl : d.size = l'.length := by rw [← hdv]; simp
      refine ⟨Go.Sort.putCells (encI D) 0 d cells, ee, at_sortWorld _ _ _ _ _ _ _ g1, by simp [Go.Sort.putCells, g2], ?_, ?_, ?_, ?_⟩
      · intro row hr; obtain ⟨x, _, rfl⟩ := List.mem_map.1 hr; rfl
      · simp at g4 ⊢; omega
      · intro row hr v hv; obtain ⟨x, _, rfl⟩ := List.mem_map.1 hr; simp at hv; subst hv; rfl
      · intro i row j v u e1 e2 e3
        rw [List.getElem?_map] at e1
        obtain ⟨x, hx, rfl⟩ := Option.map_eq_some_iff.1 e1
        have hj : j = 0 := by have := (List.getElem?_eq_some_iff.1 e2).1; simp at this; exact this
        subst hj
        simp at e2; subst e2
        have hi : i < d.size := by rw [hdl]; exact (List.getElem?_eq_some_iff.1 hx).1
        simp only [Go.Sort.putCells, Array.getElem?_mapIdx, Nat.zero_add, Nat.mul_one, Nat.add_zero, Nat.zero_le, true_and, if_pos hi, Nat.sub_zero] at e3
        obtain ⟨y, _, rfl⟩ := Option.map_eq_some_iff.1 e3
        have : (d[i]!).1 = x := by
          rw [getElem!_pos d i hi]
          rw [← hdv, List.getElem?_map] at hx
          simp [hi] at hx
          exact hx
        simp only [encI, this]
        exact .i _ _
    · rw [List.getElem?_set_ne hid] at h
      obtain ⟨b2, sz2, e, hx, hb⟩ := hH.live id blk h hd
      have hne : b2 ≠ b := fun hh => hid (hH.inj p id b sz sz2 hρ (hh ▸ e))
      exact ⟨b2, sz2, e, hx, hb.move (keep_sortWorld _ _ _ _ _ _ _ (hH.X b2 hx) hne) hsub⟩

/-- **WHAT THE LIBRARY's SORT IS TOLD TO DO** (slices.SortFunc at elements of one cell; a seat pays it with the kit's contracts). -/
structure SortsI (P : Program) (f : Nat) : Prop where
  fn : isFn P f
  none : ∀ (p : Option Addr) (cap : Nat) (fv : Value) (w : World), Calls P f #[.slice p 0 cap, fv] w fun e w' => e = .returned (.tuple #[]) ∧ w' = w
  some : ∀ {α : Type} [Inhabited α] (enc : α → Value) (h1 : OneCell enc) (cf : α → α → Int) (hO : SWO (ltOf cf)) (g : Nat) (cb : Array Value) (blk off cap : Nat) (d : Array α) (w : World)
    (eg : ∀ args w, (callFunc g args).run P w = .ok (.enter g args) w) (hcmp : CmpLays1 P g cb enc cf blk off d.size w) (hH : Holds enc w blk off d) (hblk : blk < w.heap.size) (hsz : d.size < 4611686018427387904) (hT : ∀ x y, (ltOf cf) x y = false → (ltOf cf) y x = false → x = y),
    Calls P f #[.slice (Option.some ⟨blk, off, Option.none⟩) d.size cap, .func (.func g) #[] cb] w fun e w' =>
      e = .returned (.tuple #[]) ∧ ∃ n os, w' = sortWorld enc w blk off n (d.toList.mergeSort fun x y => !(ltOf cf) y x).toArray os

def sortS (cf : Int → Int → Int) (l : List Int) : List Int := l.mergeSort fun x y => !decide (cf y x < 0)
theorem sortS_length (cf : Int → Int → Int) (l : List Int) : (sortS cf l).length = l.length := List.length_mergeSort _

/-- A strict order on D that tells any two apart. -/
structure TotOn (D : Int → Prop) (cf : Int → Int → Int) : Prop where
  irr : ∀ x, D x → ¬ cf x x < 0
  tr : ∀ x y z, D x → D y → D z → cf x y < 0 → cf y z < 0 → cf x z < 0
  ntr : ∀ x y z, D x → D y → D z → ¬ cf x y < 0 → ¬ cf y z < 0 → ¬ cf x z < 0
  tot : ∀ x y, D x → D y → ¬ cf x y < 0 → ¬ cf y x < 0 → x = y

theorem isFn.enters {g : Nat} (h : isFn P g) (args : Array Value) (w : World) : (callFunc g args).run P w = .ok (.enter g args) w := by
  obtain ⟨fn, h1, h2, h3⟩ := h
  exact run_callFunc h1 h2 h3 args w

theorem sndx_sort {f : Nat} (hS : SortsI P f) {H : List Blk} {p c0 : Nat} {e0 : Bool} {l : List Int} (hp : H[p]? = some (rowI l)) (hne : l ≠ []) (hlen : l.length < 4611686018427387904) {D : Int → Prop} (hD : ∀ x ∈ l, D x) {cf : Int → Int → Int} (hO : TotOn D cf) {g : Nat} (hf : isFn P g)
    {caps caps' : List V} (hc : ∀ x y, D x → D y → Snd P g ([.i .i64 x, .i .i64 y] ++ caps') [] (.i .i64 (cf x y)) []) (hl : caps.length = caps'.length) (hfz : ∀ (j : Nat) (v v' : V), caps[j]? = some v → caps'[j]? = some v' → Frz 0 (H.set p .dead) v v') :
    SndX P (.fn (.func f) [] []) [.rsl p 1 0 l.length c0 e0, .fn (.func g) [] caps] H fun r H' => r = .tup [] ∧ H' = H.set p (rowI (sortS cf l)) := by
  intro c hH fu us hfu hargs
  obtain ⟨b, sz, hρ, hXb, cells, ee, g1, g2, g3, g4, g5, g6⟩ := hH.live p _ hp (by simp [rowI])
  cases hfu with
  | fn _ _ _ us0 vs0 a1 a2 _ _ =>
  obtain rfl : us0 = [] := List.eq_nil_of_length_eq_zero (by simpa using a1.symm)
  obtain rfl : vs0 = [] := List.eq_nil_of_length_eq_zero (by simpa using a2.symm)
  obtain ⟨u1, hu1, hr1⟩ := hargs.get (j := 0) rfl
  obtain ⟨u2, hu2, hr2⟩ := hargs.get (j := 1) rfl
  have hus : us = [u1, u2] := by
    have h2 := hargs.1
    match us, h2, hu1, hu2 with
    | [x, y], _, hu1, hu2 => simp at hu1 hu2; rw [hu1, hu2]
  subst hus
  have hpos : 0 < l.length := List.length_pos_iff.2 hne
  cases hr1 with
  | rsl _ _ _ _ _ _ a q hi hsp hlq hcq hex hp' =>
  obtain rfl := (hp' b sz hρ).1 (by omega)
  cases hr2 with
  | fn _ _ _ us1 vs1 k1 k2 k3 k4 =>
  obtain rfl : us1 = [] := List.eq_nil_of_length_eq_zero (by simpa using k1.symm)
  refine ⟨{ target := .fn (.func f) #[], args := #[] ++ [_, _].toArray }, rfl, ?_⟩
  have hinv : (invoke (.fn (.func f) #[]) (#[] ++ [Value.slice (some ⟨b, 0 * 1, none⟩) l.length q, Value.func (.func g) [].toArray vs1.toArray].toArray)).run P c.w = .ok (.enter f [Value.slice (some ⟨b, 0 * 1, none⟩) l.length q, Value.func (.func g) [].toArray vs1.toArray].toArray) c.w := by
    simp only [invoke]
    rw [hS.fn.enters]
    simp
  simp only [Inv, hinv]
  obtain ⟨x0, hx0⟩ := List.exists_mem_of_ne_nil l hne
  haveI : Inhabited {x : Int // D x} := ⟨⟨x0, hD x0 hx0⟩⟩
  have hds : (l.attachWith D hD).toArray.size = l.length := by simp
  have hcm := cmp_lays hH hp (by simp [rowI]) hρ hf hc hl hfz ⟨k2, k4⟩ (l.attachWith D hD).toArray.size
  have hHo : Holds (encI D) c.w b 0 (l.attachWith D hD).toArray := by
    intro j hj
    rw [hds] at hj
    have hjc : j < cells.size := by simp at g4; omega
    have hx : l[j]? = some l[j] := by simp [hj]
    have hcell := g6 j [.i .i64 l[j]] 0 (.i .i64 l[j]) cells[j] (by rw [List.getElem?_map, hx]; rfl) rfl (by simp [hjc])
    refine ⟨?_, ?_⟩
    · simp only [World.cell?, g1, Nat.zero_add]
      rw [getElem!_pos _ j (by rw [hds]; exact hj)]
      have : cells[j] = .int .i64 l[j] := by
        generalize cells[j] = u at hcell
        cases hcell; rfl
      simp [hjc, this, encI]
    · simp [World.frozen?, g1]
  have hk := hS.some (encI D) (fun _ => rfl) (fun x y => cf x.1 y.1)
    ⟨fun x => by simpa [ltOf] using hO.irr x.1 x.2, fun x y z h1 h2 => by simp [ltOf] at h1 h2 ⊢; exact hO.tr _ _ _ x.2 y.2 z.2 h1 h2, fun x y z h1 h2 => by
      have := hO.ntr _ _ _ x.2 y.2 z.2 (by simpa [ltOf] using h1) (by simpa [ltOf] using h2)
      simpa [ltOf] using this⟩
    g vs1.toArray b 0 q (l.attachWith D hD).toArray c.w hf.enters hcm hHo (hH.X b hXb) (by rw [hds]; exact hlen) (fun x y h1 h2 => Subtype.ext (hO.tot _ _ x.2 y.2 (by simpa [ltOf] using h1) (by simpa [ltOf] using h2)))
  rw [hds] at hk
  refine Calls.mono hk ?_
  rintro e w' ⟨rfl, n, os, rfl⟩
  have hdv : (((l.attachWith D hD).toArray.toList.mergeSort fun x y => !(ltOf (fun x y : {x : Int // D x} => cf x.1 y.1)) y x).toArray.toList.map Subtype.val) = sortS cf l := by
    simp only [List.toList_toArray]
    exact (List.map_mergeSort (r := fun x y : {x : Int // D x} => !ltOf (fun x y : {x : Int // D x} => cf x.1 y.1) y x) (s := fun x y => !decide (cf y x < 0)) (f := Subtype.val) (fun a _ b _ => rfl)).trans (by simp [sortS])
  obtain ⟨r1, r2⟩ := sort_after hH hp hρ _ hdv (sortS_length cf l) n os
  exact ⟨_, rfl, .tup [], _, ⟨rfl, rfl⟩, _, rfl, r1, .tup [] [] rfl (fun j v u e => by simp at e), r2⟩
end Go.Sh
end
section
namespace Go.Sh.C3
open Go.Sh
set_option maxRecDepth 10000
set_option linter.unusedVariables false
set_option linter.unusedSimpArgs false
variable {P : Program}
def ic_slices_Clone_Sint_int : IC := .seq (.reg [⟨some 2, none, .mov (.c (.nsl))⟩] [0]) (.seq (.seq (.reg [⟨some 3, none, .mov (.t 0)⟩, ⟨some 4, none, .eqb 1 false (.t 3) (.c (.nsl))⟩] [0, 4]) (.cond (.t 4) (.seq (.reg [⟨some 2, none, .mov (.c (.nsl))⟩] [2]) (.ret)) (.skip))) (.seq (.reg [⟨some 5, none, .bsl false 1 0 [.i .i64 (0)] []⟩, ⟨some 6, none, .mov (.t 0)⟩, ⟨some 7, none, .app 1 8 (.t 5) (.t 6)⟩, ⟨some 2, none, .mov (.t 7)⟩] [2]) (.ret)))
abbrev Low_slices_Clone_Sint_int (P : Program) (f : Nat) : Prop := lowF P f = some (8, [.tmp 2], (ic_slices_Clone_Sint_int).erase)
def ic_bung_rule (f0 f1 f2 f3 : Nat) : IC := .seq (.reg [⟨some 2, none, .box (.t 0)⟩, ⟨some 4, none, .mov (.c (.nsl))⟩] [1, 2]) (.seq (.reg [⟨some 7, none, .mkf (.func f0) [] [.t 2]⟩, ⟨some 5, none, .alloc [.nfn]⟩, ⟨none, none, .st 1 (.t 5) (.t 7)⟩] [1, 2, 5]) (.seq (.reg [⟨some 8, none, .mov (.t 1)⟩, ⟨some 9, none, .calv (.c (.fn (.func f1) [] [])) [.t 8]⟩, ⟨some 6, none, .mov (.t 9)⟩] [2, 5, 6]) (.seq (.reg [⟨some 10, none, .mov (.t 6)⟩, ⟨some 11, none, .mkf (.func f2) [] [.t 5, .t 2]⟩, ⟨some 12, none, .calv (.c (.fn (.func f3) [] [])) [.t 10, .t 11]⟩] [6]) (.seq (.reg [⟨some 13, none, .mov (.t 6)⟩, ⟨some 4, none, .mov (.t 13)⟩] [4]) (.ret)))))
abbrev Low_bung_rule (P : Program) (f f0 f1 f2 f3 : Nat) : Prop := lowF P f = some (14, [.tmp 4], (ic_bung_rule f0 f1 f2 f3).erase)

theorem ends_own {H H2 : List Blk} {K : V → List Blk → Prop} {e : Exit} {E : Env} {ress : List IRes} {v : V} (he : e = .normal ∨ e = .ret) (hr : resIs E H2 ress = some [v]) (hK : K (resV [v]) H2) : EndsX ress H K e E H2 := ⟨he, [v], hr, _, H2, hK, .all [] rfl rfl⟩

theorem sndx_sort0 {f : Nat} (hS : SortsI P f) {H : List Blk} {v g : V} (hv : v = .nsl ∨ ∃ p c e, v = .rsl p 1 0 0 c e) : SndX P (.fn (.func f) [] []) [v, g] H fun r H' => r = .tup [] ∧ H' = H := by
  intro c hH fu us hfu hargs
  cases hfu with
  | fn _ _ _ us0 vs0 a1 a2 _ _ =>
  obtain rfl : us0 = [] := List.eq_nil_of_length_eq_zero (by simpa using a1.symm)
  obtain rfl : vs0 = [] := List.eq_nil_of_length_eq_zero (by simpa using a2.symm)
  obtain ⟨u1, hu1, hr1⟩ := hargs.get (j := 0) rfl
  obtain ⟨u2, hu2, hr2⟩ := hargs.get (j := 1) rfl
  have hus : us = [u1, u2] := by
    have h2 := hargs.1
    match us, h2, hu1, hu2 with
    | [x, y], _, hu1, hu2 => simp at hu1 hu2; rw [hu1, hu2]
  subst hus
  obtain ⟨a, q, rfl⟩ : ∃ a q, u1 = .slice a 0 q := by
    rcases hv with rfl | ⟨p, c0, e, rfl⟩
    · cases hr1; exact ⟨_, _, rfl⟩
    · cases hr1; exact ⟨_, _, rfl⟩
  refine ⟨{ target := .fn (.func f) #[], args := #[] ++ [_, _].toArray }, rfl, ?_⟩
  have hinv : (invoke (.fn (.func f) #[]) (#[] ++ [Value.slice a 0 q, u2].toArray)).run P c.w = .ok (.enter f [Value.slice a 0 q, u2].toArray) c.w := by
    simp only [invoke]
    rw [hS.fn.enters]
    simp
  simp only [Inv, hinv]
  refine Calls.mono (hS.none a q u2 c.w) ?_
  rintro e w' ⟨rfl, rfl⟩
  exact ⟨_, rfl, .tup [], _, ⟨rfl, rfl⟩, c, rfl, hH, .tup [] [] rfl (fun j v u e => by simp at e), Stp.refl c⟩

theorem app_emp {k bytes : Nat} {y : V} {H : List Blk} {ys : List (List V)} {K : V → List Blk → Prop} (h0 : 0 < k) (hb : bytes ≤ 1000000) (hy : Sh.shown (H ++ [.row k []]) y = some ys) (hys : ∀ r ∈ ys, r.length = k ∧ r.all V.one = true) (hl : ys.length ≤ 1000000)
    (hK : ∀ v' H', New H H' k ys v' → K v' H') : appI k bytes (.rsl H.length k 0 0 0 true) y (H ++ [.row k []]) K := by
  refine ⟨h0, hb, ys, hy, hys, rfl, by omega, [], get_new _ _, by simp, ?_⟩
  by_cases hne : ys = []
  · subst hne
    refine .inl ⟨by simp, by simp, hK _ _ ⟨.inr ⟨H.length, 0, true, by simp, by simp⟩, by simp, fun p b h => ?_, fun p k o l c e he => by simp at he; omega⟩⟩
    rw [List.getElem?_set_ne (by have := get_lt h; omega)]; exact get_app h _
  · have : 0 < ys.length := List.length_pos_iff.2 hne
    refine .inr (.inl ⟨rfl, by omega, hK _ _ ⟨.inr ⟨(H ++ [Blk.row k []]).length, ys.length, false, by simp, by simp⟩, by simp, fun p b h => get_app (get_app h _) _, fun p k o l c e he => by simp at he; omega⟩⟩)

def C_CloneI (P : Program) (f : Nat) : Prop := ∀ (H : List Blk) (l : List Int), l.length ≤ 1000000 → SndX P (.fn (.func f) [] []) [.fsl (l.map intC)] H fun r H' => New H H' 1 (l.map intC) r
theorem ok_CloneI (hm : P.follows .mixedOrders = true) {f : Nat} (low : Low_slices_Clone_Sint_int P f) : C_CloneI P f := by
  intro H l hl
  have hrow : ∀ r ∈ l.map intC, r.length = 1 ∧ r.all V.one = true := by intro r hr; obtain ⟨x, _, rfl⟩ := List.mem_map.1 hr; exact ⟨rfl, rfl⟩
  refine sndx_ic hm low (by simp) ?_
  unfold ic_slices_Clone_Sint_int
  cases l with
  | nil =>
    simp -dsimp -implicitDefEqProofs only [qq, Nat.reduceBEq, reduceIte, Nat.reduceAdd, Nat.reduceSub, Nat.reduceLeDiff, Nat.reduceLT, Nat.reduceMul, Nat.reduceEqDiff, Int.reduceEq, Int.reduceBEq, Int.reduceBNe, Int.reduceLT, Int.reduceLE, Int.reduceGT, Int.reduceGE, Int.reduceNeg, Int.reduceAdd, Int.reduceSub, reduceCtorEq, List.reduceReplicate, ← List.map_take, ← List.map_drop]
    intro t
    cases t <;> simp -dsimp -implicitDefEqProofs only [qq, Nat.reduceBEq, reduceIte, Nat.reduceAdd, Nat.reduceSub, Nat.reduceLeDiff, Nat.reduceLT, Nat.reduceMul, Nat.reduceEqDiff, Int.reduceEq, Int.reduceBEq, Int.reduceBNe, Int.reduceLT, Int.reduceLE, Int.reduceGT, Int.reduceGE, Int.reduceNeg, Int.reduceAdd, Int.reduceSub, reduceCtorEq, List.reduceReplicate, ← List.map_take, ← List.map_drop]
    · refine app_emp (ys := []) (by decide) (by decide) rfl (by simp) (by simp) fun v' H' hn => ?_
      simp -dsimp -implicitDefEqProofs only [qq, Nat.reduceBEq, reduceIte, Nat.reduceAdd, Nat.reduceSub, Nat.reduceLeDiff, Nat.reduceLT, Nat.reduceMul, Nat.reduceEqDiff, Int.reduceEq, Int.reduceBEq, Int.reduceBNe, Int.reduceLT, Int.reduceLE, Int.reduceGT, Int.reduceGE, Int.reduceNeg, Int.reduceAdd, Int.reduceSub, reduceCtorEq, List.reduceReplicate, ← List.map_take, ← List.map_drop]
      exact ends_own (.inr rfl) rfl hn
    · exact ends_own (.inr rfl) rfl ⟨.nil _ _, Nat.le_refl _, fun _ _ h => h, fun _ _ _ _ _ _ h => by cases h⟩
  | cons n l =>
    simp -dsimp -implicitDefEqProofs only [qq, Nat.reduceBEq, reduceIte, Nat.reduceAdd, Nat.reduceSub, Nat.reduceLeDiff, Nat.reduceLT, Nat.reduceMul, Nat.reduceEqDiff, Int.reduceEq, Int.reduceBEq, Int.reduceBNe, Int.reduceLT, Int.reduceLE, Int.reduceGT, Int.reduceGE, Int.reduceNeg, Int.reduceAdd, Int.reduceSub, reduceCtorEq, List.reduceReplicate, ← List.map_take, ← List.map_drop]
    refine app_emp (ys := (n :: l).map intC) (by decide) (by decide) rfl hrow (by simpa using hl) fun v' H' hn => ?_
    simp -dsimp -implicitDefEqProofs only [qq, Nat.reduceBEq, reduceIte, Nat.reduceAdd, Nat.reduceSub, Nat.reduceLeDiff, Nat.reduceLT, Nat.reduceMul, Nat.reduceEqDiff, Int.reduceEq, Int.reduceBEq, Int.reduceBNe, Int.reduceLT, Int.reduceLE, Int.reduceGT, Int.reduceGE, Int.reduceNeg, Int.reduceAdd, Int.reduceSub, reduceCtorEq, List.reduceReplicate, ← List.map_take, ← List.map_drop]
    exact ends_own (.inr rfl) rfl hn

def inD (l : List Sag) (x : Int) : Prop := 0 ≤ x ∧ x < l.length
def lessP (a b : Sag) : Prop := strS b < strS a ∨ (strS a = strS b ∧ a.id < b.id)
theorem ordS_lt {l : List Sag} {i k : Int} {a b : Sag} (ha : l[i.toNat]? = some a) (hb : l[k.toNat]? = some b) : ordS l i k < 0 ↔ lessP a b := by
  simp only [ordS, ha, hb, orS, cmpS, lessP]
  by_cases h1 : strS b < strS a
  · simp [h1]
  · by_cases h2 : strS a < strS b
    · simp [h1, h2]; omega
    · have : strS a = strS b := by omega
      by_cases h3 : a.id < b.id
      · simp [h1, h2, h3, this]
      · by_cases h4 : b.id < a.id
        · simp [h1, h2, h3, h4, this]
        · simp [h1, h2, h3, h4, this]
theorem ordS_tot {l : List Sag} (hv : listB l = true) : TotOn (inD l) (ordS l) := by
  have get : ∀ x, inD l x → ∃ a, l[x.toNat]? = some a := fun x hx => ⟨l[x.toNat]'(by have := hx.1; have := hx.2; omega), by simp⟩
  refine ⟨fun x hx => ?_, fun x y z hx hy hz => ?_, fun x y z hx hy hz => ?_, fun x y hx hy => ?_⟩
  · obtain ⟨a, ha⟩ := get x hx
    rw [ordS_lt ha ha]; simp [lessP]
  · obtain ⟨a, ha⟩ := get x hx; obtain ⟨b, hb⟩ := get y hy; obtain ⟨d, hd⟩ := get z hz
    rw [ordS_lt ha hb, ordS_lt hb hd, ordS_lt ha hd]; simp only [lessP]; omega
  · obtain ⟨a, ha⟩ := get x hx; obtain ⟨b, hb⟩ := get y hy; obtain ⟨d, hd⟩ := get z hz
    rw [ordS_lt ha hb, ordS_lt hb hd, ordS_lt ha hd]; simp only [lessP]; omega
  · obtain ⟨a, ha⟩ := get x hx; obtain ⟨b, hb⟩ := get y hy
    rw [ordS_lt ha hb, ordS_lt hb ha]; simp only [lessP]
    intro h1 h2
    have hid : a.id = b.id := by omega
    have hn : (l.map (·.id)).Nodup := by simp [listB] at hv; exact hv.2
    have e1 : (l.map (·.id))[x.toNat]? = some a.id := by rw [List.getElem?_map, ha]; rfl
    have e2 : (l.map (·.id))[y.toNat]? = some a.id := by rw [List.getElem?_map, hb, hid]; rfl
    have := (List.getElem?_inj (by simp; have := hx.1; have := hx.2; omega) hn).1 (e1.trans e2.symm)
    have := hx.1; have := hy.1
    omega

theorem sortS_attach {D : Int → Prop} {cf : Int → Int → Int} {l : List Int} (hD : ∀ x ∈ l, D x) : sortS cf l = (((l.attachWith D hD).mergeSort fun x y : {x : Int // D x} => !decide (cf y.1 x.1 < 0)).map Subtype.val) :=
  ((List.map_mergeSort (r := fun x y : {x : Int // D x} => !decide (cf y.1 x.1 < 0)) (s := fun x y => !decide (cf y x < 0)) (f := Subtype.val) (fun a _ b _ => rfl)).trans (by simp [sortS])).symm

theorem sortS_perm {D : Int → Prop} {cf : Int → Int → Int} (hO : TotOn D cf) {a b : List Int} (ha : ∀ x ∈ a, D x) (hb : ∀ x ∈ b, D x) (hp : a.Perm b) : sortS cf a = sortS cf b := by
  rw [sortS_attach ha, sortS_attach hb]
  congr 1
  have tr : ∀ x y z : {x : Int // D x}, (!decide (cf y.1 x.1 < 0)) = true → (!decide (cf z.1 y.1 < 0)) = true → (!decide (cf z.1 x.1 < 0)) = true := fun x y z h1 h2 => by
    simp only [Bool.not_eq_true', decide_eq_false_iff_not] at h1 h2 ⊢
    exact hO.ntr _ _ _ z.2 y.2 x.2 h2 h1
  have to : ∀ x y : {x : Int // D x}, ((!decide (cf y.1 x.1 < 0)) || (!decide (cf x.1 y.1 < 0))) = true := fun x y => by
    by_cases h1 : cf y.1 x.1 < 0
    · have h2 : ¬ cf x.1 y.1 < 0 := fun h2 => hO.irr _ x.2 (hO.tr _ _ _ x.2 y.2 x.2 h2 h1)
      simp [h2]
    · simp [h1]
  refine List.Perm.eq_of_pairwise (le := fun x y => (!decide (cf y.1 x.1 < 0)) = true) (fun x y _ _ h1 h2 => ?_) (List.pairwise_mergeSort tr to _) (List.pairwise_mergeSort tr to _) ?_
  · simp only [Bool.not_eq_true', decide_eq_false_iff_not] at h1 h2
    exact Subtype.ext (hO.tot _ _ x.2 y.2 h2 h1)
  · refine (List.mergeSort_perm _ _).trans (List.Perm.trans ?_ (List.mergeSort_perm _ _).symm)
    exact List.Perm.pmap Subtype.mk hp

/-- Sorted by insertion. -/
def insI (cf : Int → Int → Int) (x : Int) : List Int → List Int
  | [] => [x]
  | y :: r => if cf y x < 0 then y :: insI cf x r else x :: y :: r
def isortI (cf : Int → Int → Int) (s : List Int) : List Int := s.foldl (fun a x => insI cf x a) []
theorem insI_perm (cf : Int → Int → Int) (x : Int) : ∀ a : List Int, (insI cf x a).Perm (x :: a)
  | [] => List.Perm.refl _
  | y :: r => by
    unfold insI
    split
    · exact ((insI_perm cf x r).cons y).trans (List.Perm.swap x y r)
    · exact List.Perm.refl _
theorem foldl_insI_perm (cf : Int → Int → Int) : ∀ (s a : List Int), (s.foldl (fun a x => insI cf x a) a).Perm (a ++ s)
  | [], a => by simp
  | x :: s, a => by
    rw [List.foldl_cons]
    refine (foldl_insI_perm cf s _).trans ?_
    refine ((insI_perm cf x a).append_right s).trans ?_
    rw [List.cons_append]
    exact List.perm_middle.symm
theorem isortI_perm (cf : Int → Int → Int) (s : List Int) : (isortI cf s).Perm s := by simpa [isortI] using foldl_insI_perm cf s []
theorem insI_sorted {D : Int → Prop} {cf : Int → Int → Int} (hO : TotOn D cf) {x : Int} (hx : D x) : ∀ {a : List Int}, (∀ y ∈ a, D y) → a.Pairwise (fun x y => (!decide (cf y x < 0)) = true) → (insI cf x a).Pairwise (fun x y => (!decide (cf y x < 0)) = true)
  | [], _, _ => by simp [insI]
  | y :: r, hD, h => by
    have hy : D y := hD y (by simp)
    rw [List.pairwise_cons] at h
    unfold insI
    split
    · rename_i hyx
      rw [List.pairwise_cons]
      refine ⟨fun z hz => ?_, insI_sorted hO hx (fun z hz => hD z (by simp [hz])) h.2⟩
      rcases List.mem_cons.1 ((insI_perm cf x r).mem_iff.1 hz) with rfl | hz
      · have : ¬ cf z y < 0 := fun h2 => hO.irr y hy (hO.tr y z y hy hx hy hyx h2)
        simpa using this
      · exact h.1 z hz
    · rename_i hyx
      rw [List.pairwise_cons, List.pairwise_cons]
      refine ⟨fun z hz => ?_, h⟩
      rcases List.mem_cons.1 hz with rfl | hz
      · simpa using hyx
      · have h1 := h.1 z hz
        simp only [Bool.not_eq_true', decide_eq_false_iff_not] at h1 ⊢
        exact hO.ntr z y x (hD z (by simp [hz])) hy hx h1 hyx
theorem isortI_sorted {D : Int → Prop} {cf : Int → Int → Int} (hO : TotOn D cf) {s : List Int} (hD : ∀ x ∈ s, D x) : (isortI cf s).Pairwise (fun x y => (!decide (cf y x < 0)) = true) := by
  unfold isortI
  have : ∀ (s a : List Int), (∀ x ∈ s, D x) → (∀ x ∈ a, D x) → a.Pairwise (fun x y => (!decide (cf y x < 0)) = true) → (s.foldl (fun a x => insI cf x a) a).Pairwise (fun x y => (!decide (cf y x < 0)) = true) := by
    intro s
    induction s with
    | nil => intro a _ _ h; exact h
    | cons x s ih =>
      intro a hs ha h
      rw [List.foldl_cons]
      refine ih _ (fun y hy => hs y (by simp [hy])) (fun y hy => ?_) (insI_sorted hO (hs x (by simp)) ha h)
      rcases List.mem_cons.1 ((insI_perm cf x a).mem_iff.1 hy) with rfl | hy
      · exact hs y (by simp)
      · exact ha y hy
  exact this s [] hD (by simp) List.Pairwise.nil
theorem sortS_isort {D : Int → Prop} {cf : Int → Int → Int} (hO : TotOn D cf) {s : List Int} (hD : ∀ x ∈ s, D x) : sortS cf s = isortI cf s := by
  rw [sortS_perm hO hD (fun x hx => hD x ((isortI_perm cf s).mem_iff.1 hx)) (isortI_perm cf s).symm]
  exact List.mergeSort_of_pairwise (isortI_sorted hO hD)
def ruleS (l : List Sag) (s : List Int) : List Int := isortI (ordS l) s
theorem ruleS_length (l : List Sag) (s : List Int) : (ruleS l s).length = s.length := (isortI_perm _ _).length_eq
def C_rule (P : Program) (f : Nat) : Prop := ∀ (l : List Sag) (s : List Int), listB l = true → s.length ≤ 1000 → okIx l.length s → Snd P f [.fsl (l.map Sag.c), .fsl (s.map intC)] [] (.fsl ((ruleS l s).map intC)) []
theorem ok_rule (hm : P.follows .mixedOrders = true) {f f0 f1 f2 f3 : Nat} (low : Low_bung_rule P f f0 f1 f2 f3) (i2 : isFn P f2) (h0 : C_strong P f0) (h1 : C_CloneI P f1) (h2 : C_order P f2 f0) (h3 : SortsI P f3) : C_rule P f := by
  intro l s hv hl hs
  refine snd_ic hm low (by simp) ?_
  unfold ic_bung_rule
  simp -dsimp -implicitDefEqProofs only [qq, Nat.reduceBEq, reduceIte, Nat.reduceAdd, Nat.reduceSub, Nat.reduceLeDiff, Nat.reduceLT, Nat.reduceMul, Nat.reduceEqDiff, Int.reduceEq, Int.reduceBEq, Int.reduceBNe, Int.reduceLT, Int.reduceLE, Int.reduceGT, Int.reduceGE, Int.reduceNeg, Int.reduceAdd, Int.reduceSub, reduceCtorEq, List.reduceReplicate, ← List.map_take, ← List.map_drop]
  refine callI_x (h1 _ s (by omega)) fun r H' hn => ?_
  simp -dsimp -implicitDefEqProofs only [qq, Nat.reduceBEq, reduceIte, Nat.reduceAdd, Nat.reduceSub, Nat.reduceLeDiff, Nat.reduceLT, Nat.reduceMul, Nat.reduceEqDiff, Int.reduceEq, Int.reduceBEq, Int.reduceBNe, Int.reduceLT, Int.reduceLE, Int.reduceGT, Int.reduceGE, Int.reduceNeg, Int.reduceAdd, Int.reduceSub, reduceCtorEq, List.reduceReplicate, ← List.map_take, ← List.map_drop]
  have e0 : H'[0]? = some (.row 1 [[.fsl (l.map Sag.c)]]) := hn.keep 0 _ rfl
  have e1 : H'[1]? = some (.row 1 [[.fn (.func f0) [] [.rpt 0 1 0 0]]]) := hn.keep 1 _ rfl
  have hD : ∀ x ∈ s, inD l x := fun x hx => ⟨(hs x hx).1, (hs x hx).2⟩
  have hrs : sortS (ordS l) s = ruleS l s := sortS_isort (ordS_tot hv) hD
  by_cases hne : s = []
  · subst hne
    have hr : r = .nsl ∨ ∃ p c e, r = .rsl p 1 0 0 c e := by
      rcases hn.own with ⟨_, h⟩ | ⟨p, c, e, h, _⟩
      · exact .inl h
      · exact .inr ⟨p, c, e, h⟩
    refine callI_x (sndx_sort0 h3 hr) fun r' H2 h => ?_
    obtain ⟨rfl, rfl⟩ := h
    simp -dsimp -implicitDefEqProofs only [qq, Nat.reduceBEq, reduceIte, Nat.reduceAdd, Nat.reduceSub, Nat.reduceLeDiff, Nat.reduceLT, Nat.reduceMul, Nat.reduceEqDiff, Int.reduceEq, Int.reduceBEq, Int.reduceBNe, Int.reduceLT, Int.reduceLE, Int.reduceGT, Int.reduceGE, Int.reduceNeg, Int.reduceAdd, Int.reduceSub, reduceCtorEq, List.reduceReplicate, ← List.map_take, ← List.map_drop]
    refine Ends.ret rfl ?_
    have := hn.own.frz (by simp)
    simpa [ruleS, isortI, resV] using this
  · rcases hn.own with ⟨h, _⟩ | ⟨p, c, e, hr, hp⟩
    · exact absurd (List.map_eq_nil_iff.1 h) hne
    · have hpl := hn.fresh _ _ _ _ _ _ hr
      simp at hpl hr
      subst hr
      refine callI_x (sndx_sort h3 (l := s) hp hne (by omega) hD (ordS_tot hv) i2 (caps := [.rpt 1 1 0 0, .rpt 0 1 0 0]) (caps' := capsS f0 l) (fun x y hx hy => h2 l x y hv hx.1 hx.2 hy.1 hy.2) rfl ?_) fun r' H2 h => ?_
      · have k0 : (H'.set p .dead)[0]? = some (.row 1 [[.fsl (l.map Sag.c)]]) := get_setne e0 (by omega)
        have k1 : (H'.set p .dead)[1]? = some (.row 1 [[.fn (.func f0) [] [.rpt 0 1 0 0]]]) := get_setne e1 (by omega)
        have g0 : Frz 0 (H'.set p .dead) (.rpt 0 1 0 0) (.fpt [.fsl (l.map Sag.c)] 0) := .pt 0 1 0 0 _ _ _ (Nat.zero_le _) k0 rfl rfl rfl fun j v v' a b => by
          match j with
          | 0 => simp at a b; subst a b; exact .keep _ rfl
          | j + 1 => simp at a
        have g1 : Frz 0 (H'.set p .dead) (.rpt 1 1 0 0) (.fpt [.fn (.func f0) [] [.fpt [.fsl (l.map Sag.c)] 0]] 0) := .pt 1 1 0 0 _ _ _ (Nat.zero_le _) k1 rfl rfl rfl fun j v v' a b => by
          match j with
          | 0 =>
            simp at a b; subst a b
            exact .fn _ _ _ _ _ rfl rfl (fun j v v' a b => by simp at a) fun j v v' a b => by
              match j with
              | 0 => simp at a b; subst a b; exact g0
              | j + 1 => simp at a
          | j + 1 => simp at a
        intro j v v' a b
        match j with
        | 0 => simp [capsS] at a b; subst a b; exact g1
        | 1 => simp [capsS] at a b; subst a b; exact g0
        | j + 2 => simp at a
      · obtain ⟨rfl, rfl⟩ := h
        rw [hrs]
        simp -dsimp -implicitDefEqProofs only [qq, Nat.reduceBEq, reduceIte, Nat.reduceAdd, Nat.reduceSub, Nat.reduceLeDiff, Nat.reduceLT, Nat.reduceMul, Nat.reduceEqDiff, Int.reduceEq, Int.reduceBEq, Int.reduceBNe, Int.reduceLT, Int.reduceLE, Int.reduceGT, Int.reduceGE, Int.reduceNeg, Int.reduceAdd, Int.reduceSub, reduceCtorEq, List.reduceReplicate, ← List.map_take, ← List.map_drop]
        refine Ends.ret rfl ?_
        have hq : (H'.set p (rowI (ruleS l s)))[p]? = some (.row 1 ((ruleS l s).map intC)) := get_setsame hp
        have ho : OwnS (H'.set p (rowI (ruleS l s))) 1 ((ruleS l s).map intC) (.rsl p 1 0 s.length c e) := .inr ⟨p, c, e, by rw [List.length_map, ruleS_length], hq⟩
        exact ho.frz (by intro row hr; obtain ⟨n, _, rfl⟩ := List.mem_map.1 hr; rfl)
end Go.Sh.C3
end
section
namespace Go.Sh.C3
open Go.Sh
set_option maxRecDepth 10000
set_option linter.unusedVariables false
set_option linter.unusedSimpArgs false
variable {P : Program}
theorem pickS_mem {l : List Sag} {s : List Int} {x : Sag} (h : x ∈ pickS l s) : x ∈ l := by
  obtain ⟨i, _, hi⟩ := List.mem_filterMap.1 h
  exact List.mem_of_getElem? hi
theorem listB_pick {l : List Sag} (hv : listB l = true) : ∀ {s : List Int}, okIx l.length s → s.Nodup → listB (pickS l s) = true := by
  intro s hs hn
  have hlen := list_len hv
  have h1 := nodup_bound l.length s hn hs
  have h2 := pickS_length l s
  simp only [listB, Bool.and_eq_true, decide_eq_true_eq, List.all_eq_true] at hv ⊢
  refine ⟨⟨by omega, fun x hx => hv.1.2 x (pickS_mem hx)⟩, ?_⟩
  clear h1 h2
  induction s with
  | nil => simp [pickS]
  | cons i s ih =>
    obtain ⟨a, ha, _, _, _⟩ := next_of (show i.toNat < l.length by have := hs i (by simp); omega)
    have e : pickS l (i :: s) = a :: pickS l s := by simp [pickS, ha]
    rw [e, List.map_cons, List.nodup_cons]
    rw [List.nodup_cons] at hn
    refine ⟨fun hm => ?_, ih (fun j hj => hs j (by simp [hj])) hn.2⟩
    obtain ⟨b, hb, hid⟩ := List.mem_map.1 hm
    obtain ⟨j, hj, hjb⟩ := List.mem_filterMap.1 hb
    have e1 : (l.map (·.id))[i.toNat]? = some a.id := by rw [List.getElem?_map, ha]; rfl
    have e2 : (l.map (·.id))[j.toNat]? = some a.id := by rw [List.getElem?_map, hjb, ← hid]; rfl
    have h3 := (List.getElem?_inj (by simp; have := hs i (by simp); omega) hv.2).1 (e1.trans e2.symm)
    have := hs i (by simp); have := hs j (by simp [hj])
    exact hn.1 (by rw [show i = j by omega]; exact hj)

theorem ruleS_perm (l : List Sag) (s : List Int) : (ruleS l s).Perm s := isortI_perm _ _
theorem ruleS_ok {l : List Sag} {s : List Int} (h : okIx l.length s) : okIx l.length (ruleS l s) := fun i hi => h i ((ruleS_perm l s).mem_iff.1 hi)
theorem ruleS_nodup {l : List Sag} {s : List Int} (h : s.Nodup) : (ruleS l s).Nodup := (ruleS_perm l s).nodup_iff.2 h
end Go.Sh.C3
end
section
namespace Go.Sh.C3
open Go.Sh
set_option maxRecDepth 10000
set_option linter.unusedVariables false
set_option linter.unusedSimpArgs false
variable {P : Program}
def ic_bung_Breaks (f0 f1 : Nat) : IC := .seq (.reg [⟨some 1, none, .box (.t 0)⟩, ⟨some 2, none, .alloc [.i .i64 (0), .i .i64 (0), .nsl]⟩, ⟨some 3, none, .mov (.c (.i .i64 (0)))⟩] [1, 2]) (.seq (.seq (.reg [⟨some 9, none, .ld (some 3) (.t 1)⟩, ⟨some 10, none, .calv (.c (.fn (.func f0) [] [])) [.t 9]⟩, ⟨some 11, none, .un .not (.t 10)⟩] [1, 2, 11]) (.cond (.t 11) (.seq (.reg [⟨some 12, none, .bld [.i .i64 (0), .i .i64 (0), .nsl] []⟩, ⟨none, none, .st 3 (.t 2) (.t 12)⟩, ⟨some 3, none, .mov (.c (.i .i64 (31)))⟩] [2, 3]) (.ret)) (.skip))) (.seq (.seq (.reg [⟨some 13, none, .fad 2 (.t 1)⟩, ⟨some 14, none, .ld none (.t 13)⟩, ⟨some 15, none, .calv (.c (.fn (.func f1) [] [])) [.t 14]⟩, ⟨some 16, none, .len false (.t 15)⟩, ⟨some 17, none, .mov (.c (.i .i64 (0)))⟩] [1, 2, 15, 16, 17]) (.block 0 (.loop (.seq (.reg [⟨some 18, none, .bin .lss (.t 17) (.t 16)⟩] [1, 2, 15, 16, 17, 18]) (.seq (.cond (.t 18) (.skip) (.exit 0)) (.seq (.block 1 (.seq (.reg [⟨some 19, none, .mov (.t 17)⟩, ⟨some 20, none, .ixs 1 (.t 15) (.t 17)⟩, ⟨some 21, none, .ld none (.t 20)⟩, ⟨some 4, none, .mov (.t 19)⟩, ⟨some 5, none, .mov (.t 21)⟩] [1, 2, 4, 5, 15, 16, 17]) (.seq (.seq (.reg [⟨some 22, none, .mov (.t 5)⟩, ⟨some 23, none, .bin .eql (.t 22) (.c (.i .i64 (1)))⟩] [1, 2, 4, 15, 16, 17, 23]) (.cond (.t 23) (.exit 1) (.skip))) (.seq (.reg [⟨some 24, none, .mov (.t 4)⟩, ⟨some 25, none, .fad 2 (.t 1)⟩, ⟨some 26, none, .ld none (.t 25)⟩, ⟨some 27, none, .mov (.t 4)⟩, ⟨some 28, none, .ixs 8 (.t 26) (.t 27)⟩, ⟨some 29, none, .fad 3 (.t 28)⟩, ⟨some 30, none, .fad 0 (.t 29)⟩, ⟨some 31, none, .ld none (.t 30)⟩, ⟨some 32, none, .bld [.i .i64 (0), .i .i64 (0), .nsl] [(0, 1, (.t 24)), (1, 1, (.t 31))]⟩, ⟨some 6, none, .alloc [.i .i64 (0), .i .i64 (0), .nsl]⟩, ⟨none, none, .st 3 (.t 6) (.t 32)⟩] [1, 2, 4, 6]) (.seq (.seq (.reg [⟨some 33, none, .fad 2 (.t 1)⟩, ⟨some 34, none, .ld none (.t 33)⟩, ⟨some 35, none, .mov (.t 4)⟩, ⟨some 36, none, .bin .add (.t 35) (.c (.i .i64 (1)))⟩, ⟨some 37, none, .slc 8 (.t 34) (some (.t 36)) none none⟩, ⟨some 38, none, .len false (.t 37)⟩, ⟨some 39, none, .mov (.c (.i .i64 (0)))⟩] [2, 6, 37, 38, 39]) (.block 2 (.loop (.seq (.reg [⟨some 40, none, .bin .lss (.t 39) (.t 38)⟩] [2, 6, 37, 38, 39, 40]) (.seq (.cond (.t 40) (.skip) (.exit 2)) (.seq (.block 3 (.seq (.reg [⟨some 41, none, .ixs 8 (.t 37) (.t 39)⟩, ⟨some 42, none, .ld (some 8) (.t 41)⟩, ⟨some 8, none, .alloc [.i .i64 (0), .i .i64 (0), .i .i64 (0), .i .i64 (0), .i .i64 (0), .i .i64 (0), .i .i64 (0), .i .i64 (0)]⟩, ⟨none, none, .st 8 (.t 8) (.t 42)⟩] [2, 6, 8, 37, 38, 39]) (.reg [⟨some 43, none, .fad 2 (.t 6)⟩, ⟨some 44, none, .ld none (.t 43)⟩, ⟨some 45, none, .fad 1 (.t 8)⟩, ⟨some 46, none, .fad 1 (.t 45)⟩, ⟨some 47, none, .ld none (.t 46)⟩, ⟨some 48, none, .bsl false 1 1 [.i .i64 (0)] [(0, (.t 47))]⟩, ⟨some 49, none, .app 1 8 (.t 44) (.t 48)⟩, ⟨some 50, none, .fad 2 (.t 6)⟩, ⟨none, none, .st 1 (.t 50) (.t 49)⟩] [2, 6, 37, 38, 39]))) (.reg [⟨some 51, none, .bin .add (.t 39) (.c (.i .i64 (1)))⟩, ⟨some 39, none, .mov (.t 51)⟩] [2, 6, 37, 38, 39]))))))) (.seq (.reg [⟨some 52, none, .ld (some 3) (.t 6)⟩, ⟨none, none, .st 3 (.t 2) (.t 52)⟩, ⟨some 3, none, .mov (.c (.i .i64 (0)))⟩] [2, 3]) (.ret))))))) (.reg [⟨some 53, none, .bin .add (.t 17) (.c (.i .i64 (1)))⟩, ⟨some 17, none, .mov (.t 53)⟩] [1, 2, 15, 16, 17]))))))) (.seq (.reg [⟨some 54, none, .bld [.i .i64 (0), .i .i64 (0), .nsl] []⟩, ⟨none, none, .st 3 (.t 2) (.t 54)⟩, ⟨some 3, none, .mov (.c (.i .i64 (34)))⟩] [2, 3]) (.ret))))
abbrev Low_bung_Breaks (P : Program) (f f0 f1 : Nat) : Prop := lowF P f = some (55, [.cell 2 (some 3), .tmp 3], (ic_bung_Breaks f0 f1).erase)

def brkC (c b : Int) (ws : List Int) : List V := [.i .i64 c, .i .i64 b, .fsl (ws.map intC)]
end Go.Sh.C3
end
section
namespace Go.Sh.C3
open Go.Sh
set_option maxRecDepth 10000
set_option linter.unusedVariables false
set_option linter.unusedSimpArgs false
variable {P : Program}

/-- The first course that does not stand surely, with what breaks it. -/
def brkAt (l : List Sag) : Option Nat := (coursesS l).findIdx? (· != 1)
def brkV (l : List Sag) : V := match brkAt l with
  | some i => .agg (brkC i ((l[i]?.map fun s => s.b.lo).getD 0) ((l.drop (i + 1)).map fun s => s.w.hi))
  | none => .agg (brkC 0 0 [])
def C_Breaks (P : Program) (f : Nat) : Prop := ∀ (w : Rg) (l : List Sag), Snd P f [.agg (bungC w l)] []
  (.tup [if bungB w l then brkV l else .agg (brkC 0 0 []), .i .i64 (if bungB w l then (if (brkAt l).isSome then 0 else 34) else 31)]) []
theorem frz_brk0 {n : Nat} {H : List Blk} : Frz n H (.agg [.i .i64 0, .i .i64 0, .nsl]) (.agg (brkC 0 0 [])) := .agg _ _ rfl fun j v v' e1 e2 => by
  match j with
  | 0 => simp [brkC] at e1 e2; subst e1 e2; exact .keep _ rfl
  | 1 => simp [brkC] at e1 e2; subst e1 e2; exact .keep _ rfl
  | 2 => simp [brkC] at e1 e2; subst e1 e2; exact .nil
  | j + 3 => simp at e1
set_option maxHeartbeats 2000000 in
theorem ok_Breaks (hm : P.follows .mixedOrders = true) {f f0 f1 : Nat} (low : Low_bung_Breaks P f f0 f1) (h0 : C_isBung P f0) (h1 : C_courses P f1) : C_Breaks P f := by
  intro w l
  refine snd_ic hm low (by simp) ?_
  unfold ic_bung_Breaks
  simp -dsimp -implicitDefEqProofs only [qq, Nat.reduceBEq, reduceIte, Nat.reduceAdd, Nat.reduceSub, Nat.reduceLeDiff, Nat.reduceLT, Nat.reduceMul, Nat.reduceEqDiff, Int.reduceEq, Int.reduceBEq, Int.reduceBNe, Int.reduceLT, Int.reduceLE, Int.reduceGT, Int.reduceGE, Int.reduceNeg, Int.reduceAdd, Int.reduceSub, reduceCtorEq, List.reduceReplicate, ← List.map_take, ← List.map_drop]
  refine callI_pure (h0 w l) rfl rfl ?_
  cases hb : bungB w l <;> simp -dsimp -implicitDefEqProofs only [qq, Nat.reduceBEq, reduceIte, Nat.reduceAdd, Nat.reduceSub, Nat.reduceLeDiff, Nat.reduceLT, Nat.reduceMul, Nat.reduceEqDiff, Int.reduceEq, Int.reduceBEq, Int.reduceBNe, Int.reduceLT, Int.reduceLE, Int.reduceGT, Int.reduceGE, Int.reduceNeg, Int.reduceAdd, Int.reduceSub, reduceCtorEq, List.reduceReplicate, ← List.map_take, ← List.map_drop]
  · exact Ends.ret rfl (frz2 frz_brk0 (.keep _ rfl))
  have hv := bung_list hb
  have hlen := list_len hv
  have hcl := coursesS_length l
  simp -dsimp -implicitDefEqProofs only [bungC, Rg.c, qq, Nat.reduceBEq, reduceIte, Nat.reduceAdd, Nat.reduceSub, Nat.reduceLeDiff, Nat.reduceLT, Nat.reduceMul, Nat.reduceEqDiff, Int.reduceEq, Int.reduceBEq, Int.reduceBNe, Int.reduceLT, Int.reduceLE, Int.reduceGT, Int.reduceGE, Int.reduceNeg, Int.reduceAdd, Int.reduceSub, reduceCtorEq, List.reduceReplicate, ← List.map_take, ← List.map_drop]
  refine callI_pure (h1 l hv) rfl rfl ?_
  simp -dsimp -implicitDefEqProofs only [qq, Nat.reduceBEq, reduceIte, Nat.reduceAdd, Nat.reduceSub, Nat.reduceLeDiff, Nat.reduceLT, Nat.reduceMul, Nat.reduceEqDiff, Int.reduceEq, Int.reduceBEq, Int.reduceBNe, Int.reduceLT, Int.reduceLE, Int.reduceGT, Int.reduceGE, Int.reduceNeg, Int.reduceAdd, Int.reduceSub, reduceCtorEq, List.reduceReplicate, ← List.map_take, ← List.map_drop]
  refine loopI_st (fun k : Nat => l.length - k) (fun k E H => k ≤ l.length ∧ ((coursesS l).take k).findIdx? (· != 1) = none ∧ E = [(1, .rpt 0 3 0 0), (2, .rpt 1 3 0 0), (15, .fsl ((coursesS l).map intC)), (16, .i .i64 l.length), (17, .i .i64 k)] ∧ H = [.row 3 [[.i .i64 w.lo, .i .i64 w.hi, .fsl (l.map Sag.c)]], .row 3 [[.i .i64 0, .i .i64 0, .nsl]]]) 0 ⟨by omega, by simp, by rw [hcl]; rfl, rfl⟩ ?_
  rintro k _ _ ⟨hk, hn, rfl, rfl⟩
  simp -dsimp -implicitDefEqProofs only [qq, Nat.reduceBEq, reduceIte, Nat.reduceAdd, Nat.reduceSub, Nat.reduceLeDiff, Nat.reduceLT, Nat.reduceMul, Nat.reduceEqDiff, Int.reduceEq, Int.reduceBEq, Int.reduceBNe, Int.reduceLT, Int.reduceLE, Int.reduceGT, Int.reduceGE, Int.reduceNeg, Int.reduceAdd, Int.reduceSub, reduceCtorEq, List.reduceReplicate, ← List.map_take, ← List.map_drop]
  refine brG_of (fun hlt => ?_) (fun hge => ?_)
  · have hkl : k < (coursesS l).length := by rw [hcl]; simpa using hlt
    obtain ⟨n, hx, _, htk, hdr⟩ := next_of hkl
    obtain ⟨s, hs, hsm, _, _⟩ := next_of (show k < l.length by omega)
    have hwk : IntKind.i64.wrap ((k : Int) + 1) = ((k + 1 : Nat) : Int) := wrap_succ (by omega)
    simp -dsimp -implicitDefEqProofs only [hx, intC, qq, Nat.reduceBEq, reduceIte, Nat.reduceAdd, Nat.reduceSub, Nat.reduceLeDiff, Nat.reduceLT, Nat.reduceMul, Nat.reduceEqDiff, Int.reduceEq, Int.reduceBEq, Int.reduceBNe, Int.reduceLT, Int.reduceLE, Int.reduceGT, Int.reduceGE, Int.reduceNeg, Int.reduceAdd, Int.reduceSub, reduceCtorEq, List.reduceReplicate, ← List.map_take, ← List.map_drop]
    cases h0 : (n == 1) <;> simp -dsimp -implicitDefEqProofs only [h0, hwk, hs, Sag.c, qq, Nat.reduceBEq, reduceIte, Nat.reduceAdd, Nat.reduceSub, Nat.reduceLeDiff, Nat.reduceLT, Nat.reduceMul, Nat.reduceEqDiff, Int.reduceEq, Int.reduceBEq, Int.reduceBNe, Int.reduceLT, Int.reduceLE, Int.reduceGT, Int.reduceGE, Int.reduceNeg, Int.reduceAdd, Int.reduceSub, reduceCtorEq, List.reduceReplicate, ← List.map_take, ← List.map_drop]
    · have hdl : (l.drop (k + 1)).length ≤ 30 := by rw [List.length_drop]; omega
      have hba : brkAt l = some k := by
        unfold brkAt
        rw [← List.take_append_drop k (coursesS l), List.findIdx?_append, hn, hdr, List.findIdx?_cons]
        have : (n != 1) = true := by simpa using h0
        simp [this, hcl]; omega
      repeat (refine ⟨by first | omega | trivial | (intro row hr; obtain ⟨x, _, rfl⟩ := List.mem_map.1 hr; rfl), ?_⟩)
      refine loopI_st (fun j : Nat => (l.drop (k + 1)).length - j) (fun j E H => j ≤ (l.drop (k + 1)).length ∧ 3 ≤ H.length ∧ H[1]? = some (.row 3 [[.i .i64 0, .i .i64 0, .nsl]]) ∧ ∃ v, E = [(2, .rpt 1 3 0 0), (6, .rpt 2 3 0 0), (37, .fsl ((l.drop (k + 1)).map Sag.c)), (38, .i .i64 (l.drop (k + 1)).length), (39, .i .i64 j)] ∧ H[2]? = some (.row 3 [[.i .i64 k, .i .i64 s.b.lo, v]]) ∧ OwnF 3 H 1 ((((l.drop (k + 1)).take j).map fun s => s.w.hi).map intC) v) 0 ⟨by omega, by simp, rfl, .nsl, rfl, rfl, .nil _ _ _⟩ ?_
      rintro j _ H ⟨hj, hH, g1, v, rfl, g2, ho⟩
      simp -dsimp -implicitDefEqProofs only [qq, Nat.reduceBEq, reduceIte, Nat.reduceAdd, Nat.reduceSub, Nat.reduceLeDiff, Nat.reduceLT, Nat.reduceMul, Nat.reduceEqDiff, Int.reduceEq, Int.reduceBEq, Int.reduceBNe, Int.reduceLT, Int.reduceLE, Int.reduceGT, Int.reduceGE, Int.reduceNeg, Int.reduceAdd, Int.reduceSub, reduceCtorEq, List.reduceReplicate, ← List.map_take, ← List.map_drop]
      refine brG_of (fun hlt => ?_) (fun hge => ?_)
      · have hjl : j < (l.drop (k + 1)).length := by simpa using hlt
        obtain ⟨x, hx2, hxm, htk2, _⟩ := next_of hjl
        have hwj : IntKind.i64.wrap ((j : Int) + 1) = ((j + 1 : Nat) : Int) := wrap_succ (by omega)
        have htl : ((l.drop (k + 1)).take j).length ≤ 30 := by rw [List.length_take]; omega
        simp -dsimp -implicitDefEqProofs only [hx2, Sag.c, get_app g2, get_app g1, qq, Nat.reduceBEq, reduceIte, Nat.reduceAdd, Nat.reduceSub, Nat.reduceLeDiff, Nat.reduceLT, Nat.reduceMul, Nat.reduceEqDiff, Int.reduceEq, Int.reduceBEq, Int.reduceBNe, Int.reduceLT, Int.reduceLE, Int.reduceGT, Int.reduceGE, Int.reduceNeg, Int.reduceAdd, Int.reduceSub, reduceCtorEq, List.reduceReplicate, ← List.map_take, ← List.map_drop]
        refine app_ownF (ys := [[.i .i64 x.w.hi]]) ho (by omega) (by decide) (by decide) (by simp [Sh.shown, gapp]) (by simp [V.one]) (by simp only [List.length_map, List.length_cons, List.length_nil]; omega) fun v' H' ho' hH' hk' => ?_
        have e1 := hk' 1 _ (.inl (by omega)) (get_app g1 _)
        have e2 := hk' 2 _ (.inl (by omega)) (get_app g2 _)
        simp at hH'
        rcases ho'.own with ⟨h, _⟩ | ⟨p, c, e, rfl, _⟩
        · simp at h
        have ho2 := fun b => ho'.set (p := 2) (by omega) b
        generalize ((((l.drop (k + 1)).take j).map fun s => s.w.hi).map intC ++ [[V.i .i64 x.w.hi]]).length = len at ho2
        simp -dsimp -implicitDefEqProofs only [e2, hwj, qq, Nat.reduceBEq, reduceIte, Nat.reduceAdd, Nat.reduceSub, Nat.reduceLeDiff, Nat.reduceLT, Nat.reduceMul, Nat.reduceEqDiff, Int.reduceEq, Int.reduceBEq, Int.reduceBNe, Int.reduceLT, Int.reduceLE, Int.reduceGT, Int.reduceGE, Int.reduceNeg, Int.reduceAdd, Int.reduceSub, reduceCtorEq, List.reduceReplicate, ← List.map_take, ← List.map_drop]
        refine ⟨j + 1, by omega, by omega, by rw [List.length_set]; omega, get_setne e1 (by omega), rfl, _, get_setsame e2, ?_⟩
        rw [htk2]
        simpa [intC] using ho2 _
      · obtain rfl : j = (l.drop (k + 1)).length := by have := of_decide_eq_false hge; omega
        rw [List.take_length] at ho
        simp -dsimp -implicitDefEqProofs only [g2, g1, qq, Nat.reduceBEq, reduceIte, Nat.reduceAdd, Nat.reduceSub, Nat.reduceLeDiff, Nat.reduceLT, Nat.reduceMul, Nat.reduceEqDiff, Int.reduceEq, Int.reduceBEq, Int.reduceBNe, Int.reduceLT, Int.reduceLE, Int.reduceGT, Int.reduceGE, Int.reduceNeg, Int.reduceAdd, Int.reduceSub, reduceCtorEq, List.reduceReplicate, ← List.map_take, ← List.map_drop]
        have hfr := fun b => (ho.set (p := 1) (by omega) b).own.frz (by intro row hr; obtain ⟨n, _, rfl⟩ := List.mem_map.1 hr; rfl)
        have hz : ∀ B, Frz 0 (H.set 1 B) (.agg [.i .i64 k, .i .i64 s.b.lo, v]) (.agg (brkC k s.b.lo ((l.drop (k + 1)).map fun s => s.w.hi))) := fun B => .agg _ _ rfl fun j u u' a1 a2 => by
          match j with
          | 0 => simp [brkC] at a1 a2; subst a1 a2; exact .keep _ rfl
          | 1 => simp [brkC] at a1 a2; subst a1 a2; exact .keep _ rfl
          | 2 =>
            have := hfr B
            simp only [brkC, List.getElem?_cons_succ, List.getElem?_cons_zero, Option.some.injEq] at a1 a2
            subst a1 a2; exact this
          | j + 3 => simp at a1
        refine ⟨by rcases ho.own with ⟨_, rfl⟩ | ⟨p, c, e, rfl, _⟩ <;> rfl, ?_⟩
        refine Ends.ret (vs := [.agg [.i .i64 k, .i .i64 s.b.lo, v], .i .i64 0]) ?_ ?_
        · have hq : (H.set 1 (Blk.row 3 [[.i .i64 k, .i .i64 s.b.lo, v]]))[1]? = some (.row 3 [[.i .i64 k, .i .i64 s.b.lo, v]]) := get_setsame g1
          simp [resIs, resI1, Sh.get, hq, ldRow]
        · simp only [brkV, hba, hs]
          exact frz2 (hz _) (.keep _ rfl)
    · refine ⟨k + 1, by omega, by omega, ?_, rfl⟩
      rw [htk, List.findIdx?_append, hn]
      simpa using h0
  · obtain rfl : k = l.length := by simp at hge; omega
    rw [List.take_of_length_le (by omega)] at hn
    simp -dsimp -implicitDefEqProofs only [qq, Nat.reduceBEq, reduceIte, Nat.reduceAdd, Nat.reduceSub, Nat.reduceLeDiff, Nat.reduceLT, Nat.reduceMul, Nat.reduceEqDiff, Int.reduceEq, Int.reduceBEq, Int.reduceBNe, Int.reduceLT, Int.reduceLE, Int.reduceGT, Int.reduceGE, Int.reduceNeg, Int.reduceAdd, Int.reduceSub, reduceCtorEq, List.reduceReplicate, ← List.map_take, ← List.map_drop]
    refine Ends.ret rfl ?_
    have hb0 : brkAt l = none := hn
    simp only [brkV, hb0]
    exact frz2 frz_brk0 (.keep _ rfl)
end Go.Sh.C3
end
section
namespace Go.Sh.C3
open Go.Sh
set_option maxRecDepth 10000
set_option linter.unusedVariables false
set_option linter.unusedSimpArgs false
variable {P : Program}
def ic_potbanklaw03_example : IC := .seq (.reg [⟨some 0, none, .mov (.c (.nsl))⟩] []) (.seq (.reg [⟨some 1, none, .bld [.i .i64 (0), .i .i64 (0)] [(0, 1, (.c (.i .i64 (100)))), (1, 1, (.c (.i .i64 (120))))]⟩, ⟨some 2, none, .bld [.i .i64 (0), .i .i64 (0)] [(0, 1, (.c (.i .i64 (300)))), (1, 1, (.c (.i .i64 (350))))]⟩, ⟨some 3, none, .bld [.i .i64 (0), .i .i64 (0)] [(0, 1, (.c (.i .i64 (200)))), (1, 1, (.c (.i .i64 (210))))]⟩, ⟨some 4, none, .bld [.i .i64 (0), .i .i64 (0), .i .i64 (0), .i .i64 (0), .i .i64 (0), .i .i64 (0), .i .i64 (0), .i .i64 (0)] [(0, 1, (.c (.i .i64 (1)))), (1, 2, (.t 1)), (3, 2, (.t 2)), (5, 2, (.t 3)), (7, 1, (.c (.i .i64 (5))))]⟩, ⟨some 5, none, .bld [.i .i64 (0), .i .i64 (0)] [(0, 1, (.c (.i .i64 (80)))), (1, 1, (.c (.i .i64 (90))))]⟩, ⟨some 6, none, .bld [.i .i64 (0), .i .i64 (0)] [(0, 1, (.c (.i .i64 (150)))), (1, 1, (.c (.i .i64 (200))))]⟩, ⟨some 7, none, .bld [.i .i64 (0), .i .i64 (0)] [(0, 1, (.c (.i .i64 (200)))), (1, 1, (.c (.i .i64 (210))))]⟩, ⟨some 8, none, .bld [.i .i64 (0), .i .i64 (0), .i .i64 (0), .i .i64 (0), .i .i64 (0), .i .i64 (0), .i .i64 (0), .i .i64 (0)] [(0, 1, (.c (.i .i64 (2)))), (1, 2, (.t 5)), (3, 2, (.t 6)), (5, 2, (.t 7)), (7, 1, (.c (.i .i64 (10))))]⟩, ⟨some 9, none, .bld [.i .i64 (0), .i .i64 (0)] [(0, 1, (.c (.i .i64 (60)))), (1, 1, (.c (.i .i64 (60))))]⟩, ⟨some 10, none, .bld [.i .i64 (0), .i .i64 (0)] [(0, 1, (.c (.i .i64 (50)))), (1, 1, (.c (.i .i64 (60))))]⟩, ⟨some 11, none, .bld [.i .i64 (0), .i .i64 (0)] [(0, 1, (.c (.i .i64 (100)))), (1, 1, (.c (.i .i64 (100))))]⟩, ⟨some 12, none, .bld [.i .i64 (0), .i .i64 (0), .i .i64 (0), .i .i64 (0), .i .i64 (0), .i .i64 (0), .i .i64 (0), .i .i64 (0)] [(0, 1, (.c (.i .i64 (3)))), (1, 2, (.t 9)), (3, 2, (.t 10)), (5, 2, (.t 11))]⟩, ⟨some 13, none, .bsl false 8 3 [.i .i64 (0), .i .i64 (0), .i .i64 (0), .i .i64 (0), .i .i64 (0), .i .i64 (0), .i .i64 (0), .i .i64 (0)] [(0, (.t 4)), (1, (.t 8)), (2, (.t 12))]⟩, ⟨some 0, none, .mov (.t 13)⟩] [0]) (.ret))
abbrev Low_potbanklaw03_example (P : Program) (f : Nat) : Prop := lowF P f = some (14, [.tmp 0], (ic_potbanklaw03_example).erase)
def ic_bung_packer_do (f0 f1 f2 : Nat) : IC := .seq (.reg [⟨some 2, none, .box (.t 0)⟩, ⟨some 4, none, .mov (.c (.b false))⟩] [1, 2]) (.seq (.drg [(0, ⟨some 5, none, .fad 0 (.t 2)⟩), (0, ⟨some 6, none, .ld (some 2) (.t 5)⟩), (0, ⟨some 7, none, .fad 2 (.t 2)⟩), (0, ⟨some 8, none, .ld none (.t 7)⟩), (0, ⟨some 9, none, .fad 2 (.t 2)⟩), (0, ⟨some 10, none, .ld none (.t 9)⟩), (0, ⟨some 11, none, .mov (.t 1)⟩), (0, ⟨some 12, none, .calv (.c (.fn (.func f0) [] [])) [.t 10, .t 11]⟩), (0, ⟨some 13, none, .calv (.c (.fn (.func f1) [] [])) [.t 8, .t 12]⟩), (0, ⟨some 14, none, .bld [.i .i64 (0), .i .i64 (0), .nsl] [(0, 2, (.t 6)), (2, 1, (.t 13))]⟩), (0, ⟨some 15, none, .fad 3 (.t 2)⟩), (0, ⟨some 16, none, .ld (some 2) (.t 15)⟩), (0, ⟨some 17, none, .calv (.c (.fn (.func f2) [] [])) [.t 14, .t 16]⟩), (0, ⟨some 18, none, .bin .eql (.t 17) (.c (.i .i64 (1)))⟩), (0, ⟨some 4, none, .mov (.t 18)⟩)] 12 [4]) (.ret))
abbrev Low_bung_packer_do (P : Program) (f f0 f1 f2 : Nat) : Prop := lowF P f = some (19, [.tmp 4], (ic_bung_packer_do f0 f1 f2).erase)

def exS : List Sag := [⟨1, ⟨100, 120⟩, ⟨300, 350⟩, ⟨200, 210⟩, 5⟩, ⟨2, ⟨80, 90⟩, ⟨150, 200⟩, ⟨200, 210⟩, 10⟩, ⟨3, ⟨60, 60⟩, ⟨50, 60⟩, ⟨100, 100⟩, 0⟩]
def C_example (P : Program) (f : Nat) : Prop := Snd P f [] [] (.fsl (exS.map Sag.c)) []
theorem ok_example (hm : P.follows .mixedOrders = true) {f : Nat} (low : Low_potbanklaw03_example P f) : C_example P f := by
  refine snd_ic hm low (by simp) ?_
  unfold ic_potbanklaw03_example
  simp -dsimp -implicitDefEqProofs only [qq, Nat.reduceBEq, reduceIte, Nat.reduceAdd, Nat.reduceSub, Nat.reduceLeDiff, Nat.reduceLT, Nat.reduceMul, Nat.reduceEqDiff, Int.reduceEq, Int.reduceBEq, Int.reduceBNe, Int.reduceLT, Int.reduceLE, Int.reduceGT, Int.reduceGE, Int.reduceNeg, Int.reduceAdd, Int.reduceSub, reduceCtorEq, List.reduceReplicate, ← List.map_take, ← List.map_drop]
  exact Ends.ret rfl (frz_lit rfl rfl (by intro row hr; obtain ⟨x, _, rfl⟩ := List.mem_map.1 hr; rfl))

def packC (w : Rg) (l : List Sag) (s : Spt) (m : V) : List V := [.i .i64 w.lo, .i .i64 w.hi, .fsl (l.map Sag.c), .i .i64 s.crown, .i .i64 s.lean, m]
def doS (w : Rg) (l : List Sag) (s : Spt) (some : List Int) : Bool := fitsS w (pickS l (ruleS l some)) s == 1

theorem pickS_len {l : List Sag} : ∀ {s : List Int}, okIx l.length s → (pickS l s).length = s.length
  | [], _ => rfl
  | i :: s, h => by
    obtain ⟨a, ha, _, _, _⟩ := next_of (show i.toNat < l.length by have := h i (by simp); omega)
    have e : pickS l (i :: s) = a :: pickS l s := by simp [pickS, ha]
    rw [e, List.length_cons, List.length_cons, pickS_len fun j hj => h j (by simp [hj])]
/-- Left with data that names nothing, all blocks that were there as they were. -/
theorem ends_outer {ress : List IRes} {r : V} {H G : List Blk} {E : Env} {vs : List V} (h : resIs E (H ++ G) ress = some vs) (hb : (resV vs).bel 0 = true) (he : resV vs = r) : Ends ress H r H .ret E (H ++ G) :=
  ⟨.inr rfl, vs, h, .cut ⟨by simp, by simp, fun id hi e => by rwa [List.getElem?_append_left hi] at e, fun id blk hi e => .inl (by rwa [List.getElem?_append_left hi] at e), by subst he; exact .keep _ (V.bel_mono (Nat.zero_le _) _ hb)⟩⟩

def C_do (P : Program) (f : Nat) : Prop := ∀ (H : List Blk) (w : Rg) (l : List Sag) (s : Spt) (m : Nat) (es : List (V × V)) (some : List Int), H[m]? = Option.some (.mp es) → rgB w 0 200 = true → listB l = true → okIx l.length some → some.Nodup → some ≠ [] →
  Snd P f [.agg (packC w l s (.rmp m)), .fsl (some.map intC)] H (.b (doS w l s some)) H
theorem ok_do (hm : P.follows .mixedOrders = true) {f f0 f1 f2 : Nat} (low : Low_bung_packer_do P f f0 f1 f2) (h0 : C_rule P f0) (h1 : C_stacked P f1) (h2 : C_fits P f2) : C_do P f := by
  intro H w l s m es some hmap hw hv hs hn hne
  have hlen := list_len hv
  have h3 := nodup_bound l.length some hn hs
  have hpk := listB_pick hv (ruleS_ok hs) (ruleS_nodup hn)
  unfold packC
  refine snd_ic hm low (by simp) ?_
  unfold ic_bung_packer_do
  simp -dsimp -implicitDefEqProofs only [qq, Nat.reduceBEq, reduceIte, Nat.reduceAdd, Nat.reduceSub, Nat.reduceLeDiff, Nat.reduceLT, Nat.reduceMul, Nat.reduceEqDiff, Int.reduceEq, Int.reduceBEq, Int.reduceBNe, Int.reduceLT, Int.reduceLE, Int.reduceGT, Int.reduceGE, Int.reduceNeg, Int.reduceAdd, Int.reduceSub, reduceCtorEq, List.reduceReplicate, ← List.map_take, ← List.map_drop]
  refine callI_pure (h0 l some hv (by omega) hs) rfl rfl ?_
  simp -dsimp -implicitDefEqProofs only [qq, Nat.reduceBEq, reduceIte, Nat.reduceAdd, Nat.reduceSub, Nat.reduceLeDiff, Nat.reduceLT, Nat.reduceMul, Nat.reduceEqDiff, Int.reduceEq, Int.reduceBEq, Int.reduceBNe, Int.reduceLT, Int.reduceLE, Int.reduceGT, Int.reduceGE, Int.reduceNeg, Int.reduceAdd, Int.reduceSub, reduceCtorEq, List.reduceReplicate, ← List.map_take, ← List.map_drop]
  refine callI_pure (h1 l (ruleS l some) (by rw [ruleS_length]; omega) (ruleS_ok hs)) rfl rfl ?_
  simp -dsimp -implicitDefEqProofs only [qq, Nat.reduceBEq, reduceIte, Nat.reduceAdd, Nat.reduceSub, Nat.reduceLeDiff, Nat.reduceLT, Nat.reduceMul, Nat.reduceEqDiff, Int.reduceEq, Int.reduceBEq, Int.reduceBNe, Int.reduceLT, Int.reduceLE, Int.reduceGT, Int.reduceGE, Int.reduceNeg, Int.reduceAdd, Int.reduceSub, reduceCtorEq, List.reduceReplicate, ← List.map_take, ← List.map_drop]
  have hpl : 0 < (pickS l (ruleS l some)).length := by rw [pickS_len (ruleS_ok hs), ruleS_length]; exact List.length_pos_iff.2 hne
  refine callI_pure (h2 w (pickS l (ruleS l some)) s (by simp [bungB, hw, hpk, hpl])) rfl rfl ?_
  simp -dsimp -implicitDefEqProofs only [qq, Nat.reduceBEq, reduceIte, Nat.reduceAdd, Nat.reduceSub, Nat.reduceLeDiff, Nat.reduceLT, Nat.reduceMul, Nat.reduceEqDiff, Int.reduceEq, Int.reduceBEq, Int.reduceBNe, Int.reduceLT, Int.reduceLE, Int.reduceGT, Int.reduceGE, Int.reduceNeg, Int.reduceAdd, Int.reduceSub, reduceCtorEq, List.reduceReplicate, ← List.map_take, ← List.map_drop]
  exact ends_outer rfl rfl rfl
end Go.Sh.C3
end
section
namespace Go.Sh.C3
open Go.Sh
set_option maxRecDepth 10000
set_option linter.unusedVariables false
set_option linter.unusedSimpArgs false
variable {P : Program}

def keyV (k : List Bool) : V := .agg (k.map .b)
def tmap (ts : List (List Bool × Bool)) : List (V × V) := ts.map fun t => (keyV t.1, .b t.2)
theorem eqC_bools : ∀ (n : Nat) (a b : List Bool), a.length = n → b.length = n → eqC (List.replicate n 1) (a.map .b) (b.map .b) = some (decide (a = b))
  | 0, [], [], _, _ => by simp [eqC]
  | n + 1, x :: a, y :: b, h1, h2 => by
    have ih := eqC_bools n a b (by simpa using h1) (by simpa using h2)
    simp only [List.replicate_succ, List.map_cons, eqC, eq1]
    by_cases h : x = y
    · subst h; simp [ih]
    · have : (x == y) = false := by simpa using h
      simp [this, ih, h]
theorem eqK_key {a b : List Bool} (ha : a.length = 9) (hb : b.length = 9) : eqK 3 [1, 1, 1, 1, 1, 1, 1, 1, 1] (keyV a) (keyV b) = some (decide (a = b)) := eqC_bools 9 a b ha hb
theorem findK_t {k : List Bool} (hk : k.length = 9) : ∀ ts : List (List Bool × Bool), (∀ t ∈ ts, t.1.length = 9) → findK 3 [1, 1, 1, 1, 1, 1, 1, 1, 1] (keyV k) (tmap ts) = some ((ts.lookup k).map .b)
  | [], _ => rfl
  | (a, u) :: r, h => by
    have ih := findK_t hk r (fun t ht => h t (by simp [ht]))
    have ha : a.length = 9 := h (a, u) (by simp)
    simp only [tmap, List.map_cons, findK, eqK_key hk ha, List.lookup] at ih ⊢
    by_cases e : k = a
    · simp [e]
    · have : (k == a) = false := by simpa using e
      simp only [e, decide_false, this]
      exact ih
theorem updK_t {k : List Bool} {v : Bool} (hk : k.length = 9) : ∀ ts : List (List Bool × Bool), (∀ t ∈ ts, t.1.length = 9) → ts.lookup k = none → updK 3 [1, 1, 1, 1, 1, 1, 1, 1, 1] (keyV k) (.b v) (tmap ts) = some (tmap (ts ++ [(k, v)]))
  | [], _, _ => rfl
  | (a, u) :: r, h, hn => by
    have ha : a.length = 9 := h (a, u) (by simp)
    have e : ¬ k = a := fun e => by rw [List.lookup, e] at hn; simp at hn
    have hb : (k == a) = false := by simpa using e
    rw [List.lookup, hb] at hn
    have ih := updK_t (v := v) hk r (fun t ht => h t (by simp [ht])) hn
    simp only [tmap, List.map_cons, List.cons_append, updK, eqK_key hk ha, e, decide_false] at ih ⊢
    rw [ih]; rfl
end Go.Sh.C3
end
section
namespace Go.Sh.C3
open Go.Sh
set_option maxRecDepth 10000
set_option linter.unusedVariables false
set_option linter.unusedSimpArgs false
variable {P : Program}
def ic_bung_packer_known (f0 : Nat) : IC := .seq (.reg [⟨some 2, none, .box (.t 0)⟩, ⟨some 4, none, .mov (.c (.b false))⟩] [1, 2]) (.seq (.reg [⟨some 5, none, .alloc [.b false, .b false, .b false, .b false, .b false, .b false, .b false, .b false, .b false]⟩] [1, 2, 5]) (.seq (.seq (.reg [⟨some 10, none, .mov (.t 1)⟩, ⟨some 11, none, .len false (.t 10)⟩, ⟨some 12, none, .mov (.c (.i .i64 (0)))⟩] [1, 2, 5, 10, 11, 12]) (.block 0 (.loop (.seq (.reg [⟨some 13, none, .bin .lss (.t 12) (.t 11)⟩] [1, 2, 5, 10, 11, 12, 13]) (.seq (.cond (.t 13) (.skip) (.exit 0)) (.seq (.block 1 (.seq (.reg [⟨some 14, none, .ixs 1 (.t 10) (.t 12)⟩, ⟨some 15, none, .ld none (.t 14)⟩, ⟨some 7, none, .mov (.t 15)⟩] [1, 2, 5, 7, 10, 11, 12]) (.reg [⟨some 16, none, .mov (.t 7)⟩, ⟨some 17, none, .ixa 9 1 (.t 5) (.t 16)⟩, ⟨none, none, .st 1 (.t 17) (.c (.b true))⟩] [1, 2, 5, 10, 11, 12]))) (.reg [⟨some 18, none, .bin .add (.t 12) (.c (.i .i64 (1)))⟩, ⟨some 12, none, .mov (.t 18)⟩] [1, 2, 5, 10, 11, 12]))))))) (.seq (.reg [⟨some 20, none, .fad 5 (.t 2)⟩, ⟨some 21, none, .ld none (.t 20)⟩, ⟨some 22, none, .ld (some 9) (.t 5)⟩, ⟨some 23, none, .lk 3 [1, 1, 1, 1, 1, 1, 1, 1, 1] (.b false) true (.t 21) (.t 22)⟩, ⟨some 19, none, .mov (.t 23)⟩, ⟨some 24, none, .ext (.t 19) 0⟩, ⟨some 25, none, .ext (.t 19) 1⟩, ⟨some 8, none, .mov (.t 24)⟩, ⟨some 9, none, .mov (.t 25)⟩] [1, 2, 5, 8, 9]) (.seq (.seq (.reg [⟨some 26, none, .mov (.t 9)⟩, ⟨some 27, none, .un .not (.t 26)⟩] [1, 2, 5, 8, 27]) (.cond (.t 27) (.seq (.reg [⟨some 28, none, .ld (some 6) (.t 2)⟩, ⟨some 29, none, .mov (.t 1)⟩, ⟨some 30, none, .calv (.c (.fn (.func f0) [] [])) [.t 28, .t 29]⟩, ⟨some 8, none, .mov (.t 30)⟩] [2, 5, 8]) (.reg [⟨some 31, none, .fad 5 (.t 2)⟩, ⟨some 32, none, .ld none (.t 31)⟩, ⟨some 33, none, .ld (some 9) (.t 5)⟩, ⟨some 34, none, .mov (.t 8)⟩, ⟨none, none, .mup 3 [1, 1, 1, 1, 1, 1, 1, 1, 1] (.t 32) (.t 33) (.t 34)⟩] [8])) (.skip))) (.seq (.reg [⟨some 35, none, .mov (.t 8)⟩, ⟨some 4, none, .mov (.t 35)⟩] [4]) (.ret))))))
abbrev Low_bung_packer_known (P : Program) (f f0 : Nat) : Prop := lowF P f = some (36, [.tmp 4], (ic_bung_packer_known f0).erase)

def keyB (some : List Int) : List Bool := (List.range 9).map fun (i : Nat) => decide ((i : Int) ∈ some)
theorem keyB_length (s : List Int) : (keyB s).length = 9 := by simp [keyB]
theorem keyB_snoc {a : List Int} {i : Int} (h0 : 0 ≤ i) (h9 : i < 9) : (keyB a).take i.toNat ++ true :: (keyB a).drop (i.toNat + 1) = keyB (a ++ [i]) := by
  have h : i.toNat < (keyB a).length := by rw [keyB_length]; omega
  have e := List.set_eq_take_append_cons_drop (l := keyB a) (i := i.toNat) (a := true)
  rw [if_pos h] at e
  rw [← e]
  apply List.ext_getElem?
  intro j
  rw [List.getElem?_set]
  by_cases hj : i.toNat = j
  · subst hj
    rw [if_pos rfl, if_pos h]
    have : i.toNat < 9 := by omega
    simp [keyB, this, Int.toNat_of_nonneg h0]
  · rw [if_neg hj]
    by_cases h2 : j < 9
    · have : ¬ (j : Int) = i := by omega
      simp [keyB, h2, this]
    · simp [keyB, h2]
structure Faith (w : Rg) (l : List Sag) (s : Spt) (ts : List (List Bool × Bool)) : Prop where
  len : ∀ t ∈ ts, t.1.length = 9
  says : ∀ (some : List Int) (v : Bool), okIx l.length some → some.Nodup → ts.lookup (keyB some) = Option.some v → v = doS w l s some
theorem bel_tmap (n : Nat) (ts : List (List Bool × Bool)) : (Blk.mp (tmap ts)).bel n := by
  rintro v ⟨e, he, hv⟩
  obtain ⟨t, _, rfl⟩ := List.mem_map.1 he
  rcases hv with rfl | rfl
  · refine V.bel_mono (Nat.zero_le _) _ ?_
    simp only [keyV, V.bel]
    generalize t.1 = k
    induction k with
    | nil => rfl
    | cons a k ih => simp [belL, V.bel, ih]
  · rfl
theorem endsx_map {H G : List Blk} {K : V → List Blk → Prop} {ress : List IRes} {E : Env} {vs : List V} {m : Nat} {ts ts' : List (List Bool × Bool)} (hmap : H[m]? = some (.mp (tmap ts))) (h : resIs E (H.set m (.mp (tmap ts')) ++ G) ress = some vs) (hb : (resV vs).bel 0 = true) (hK : K (resV vs) (H.set m (.mp (tmap ts')))) :
    EndsX ress H K .ret E (H.set m (.mp (tmap ts')) ++ G) := by
  have hml := get_lt hmap
  refine ⟨.inr rfl, vs, h, _, _, hK, .cut ⟨List.take_left' (by simp), by simp, fun id hi e => ?_, fun id blk hi e => ?_, .keep _ (V.bel_mono (Nat.zero_le _) _ hb)⟩⟩
  · rw [List.getElem?_append_left (by simpa using hi), List.getElem?_set] at e
    by_cases hm : m = id
    · simp [hm, hi] at e
    · rwa [if_neg hm] at e
  · rw [List.getElem?_append_left (by simpa using hi), List.getElem?_set] at e
    by_cases hm : m = id
    · rw [if_pos hm, if_pos (by omega)] at e
      cases e
      exact .inr (bel_tmap _ _)
    · rw [if_neg hm] at e
      exact .inl e
theorem set_self {H : List Blk} {m : Nat} {b : Blk} (h : H[m]? = some b) : H.set m b = H := by
  apply List.ext_getElem?
  intro j
  rw [List.getElem?_set]
  by_cases hj : m = j
  · subst hj; rw [if_pos rfl, if_pos (get_lt h), h]
  · rw [if_neg hj]
/-- What is done depends on the set only (TO BE PROVED: two sorts of the same set are one). -/
def DoKey (l : List Sag) : Prop := ∀ (w : Rg) (s : Spt) (a b : List Int), okIx l.length a → okIx l.length b → a.Nodup → b.Nodup → keyB a = keyB b → doS w l s a = doS w l s b
def C_known (P : Program) (f : Nat) : Prop := ∀ (H : List Blk) (w : Rg) (l : List Sag) (s : Spt) (m : Nat) (ts : List (List Bool × Bool)) (some : List Int), H[m]? = Option.some (.mp (tmap ts)) → Faith w l s ts → rgB w 0 200 = true → listB l = true → l.length ≤ 9 → okIx l.length some → some.Nodup → some ≠ [] →
  SndX P (.fn (.func f) [] []) [.agg (packC w l s (.rmp m)), .fsl (some.map intC)] H fun r H' => r = .b (doS w l s some) ∧ ∃ ts', Faith w l s ts' ∧ H' = H.set m (.mp (tmap ts'))
theorem ok_known (hm : P.follows .mixedOrders = true) {f f0 : Nat} (low : Low_bung_packer_known P f f0) (h0 : C_do P f0) (hkey : ∀ l, listB l = true → l.length ≤ 9 → DoKey l) : C_known P f := by
  intro H w l s m ts some hmap hF hw hv h9 hs hn hne
  have hlen := nodup_bound l.length some hn hs
  unfold packC
  refine sndx_ic hm low (by simp) ?_
  unfold ic_bung_packer_known
  simp -dsimp -implicitDefEqProofs only [qq, Nat.reduceBEq, reduceIte, Nat.reduceAdd, Nat.reduceSub, Nat.reduceLeDiff, Nat.reduceLT, Nat.reduceMul, Nat.reduceEqDiff, Int.reduceEq, Int.reduceBEq, Int.reduceBNe, Int.reduceLT, Int.reduceLE, Int.reduceGT, Int.reduceGE, Int.reduceNeg, Int.reduceAdd, Int.reduceSub, reduceCtorEq, List.reduceReplicate, ← List.map_take, ← List.map_drop]
  refine loopI_st (fun k : Nat => some.length - k) (fun k E H' => k ≤ some.length ∧ E = [(1, .fsl (some.map intC)), (2, .rpt H.length 6 0 0), (5, .rpt (H.length + 1) 9 0 0), (10, .fsl (some.map intC)), (11, .i .i64 some.length), (12, .i .i64 k)] ∧ H' = H ++ [.row 6 [packC w l s (.rmp m)], .row 9 [(keyB (some.take k)).map .b]]) 0 ⟨by omega, rfl, by simp [packC, keyB, List.range, List.range.loop]⟩ ?_
  rintro k _ _ ⟨hk, rfl, rfl⟩
  unfold packC
  simp -dsimp -implicitDefEqProofs only [qq, Nat.reduceBEq, reduceIte, Nat.reduceAdd, Nat.reduceSub, Nat.reduceLeDiff, Nat.reduceLT, Nat.reduceMul, Nat.reduceEqDiff, Int.reduceEq, Int.reduceBEq, Int.reduceBNe, Int.reduceLT, Int.reduceLE, Int.reduceGT, Int.reduceGE, Int.reduceNeg, Int.reduceAdd, Int.reduceSub, reduceCtorEq, List.reduceReplicate, ← List.map_take, ← List.map_drop]
  refine brG_of (fun hlt => ?_) (fun hge => ?_)
  · have hkl : k < some.length := by simpa using hlt
    obtain ⟨i, hi, him, htk, _⟩ := next_of hkl
    have hib := hs i him
    have hwk : IntKind.i64.wrap ((k : Int) + 1) = ((k + 1 : Nat) : Int) := wrap_succ (by omega)
    simp -dsimp -implicitDefEqProofs only [hi, intC, hwk, qq, Nat.reduceBEq, reduceIte, Nat.reduceAdd, Nat.reduceSub, Nat.reduceLeDiff, Nat.reduceLT, Nat.reduceMul, Nat.reduceEqDiff, Int.reduceEq, Int.reduceBEq, Int.reduceBNe, Int.reduceLT, Int.reduceLE, Int.reduceGT, Int.reduceGE, Int.reduceNeg, Int.reduceAdd, Int.reduceSub, reduceCtorEq, List.reduceReplicate, ← List.map_take, ← List.map_drop]
    have hks := keyB_snoc (a := some.take k) hib.1 (show i < 9 by omega)
    refine ⟨by omega, by omega, by rw [keyB_length]; omega, k + 1, by omega, by omega, rfl, ?_⟩
    rw [htk, ← hks]
    simp
  · obtain rfl : k = some.length := by have := of_decide_eq_false hge; omega
    rw [List.take_length]
    have q1 : eqK 3 [1, 1, 1, 1, 1, 1, 1, 1, 1] (keyV (keyB some)) (keyV (keyB some)) = Option.some true := by simpa using eqK_key (keyB_length some) (keyB_length some)
    have q2 := findK_t (keyB_length some) ts hF.len
    have q3 : (if 9 ≤ (keyB some).length then Option.some (V.agg (List.map V.b (List.take 9 (keyB some)))) else none) = Option.some (keyV (keyB some)) := by rw [if_pos (by rw [keyB_length]; omega), List.take_of_length_le (by rw [keyB_length]; omega)]; rfl
    cases hlk : ts.lookup (keyB some) with
    | some v =>
      rw [hlk] at q2
      simp -dsimp -implicitDefEqProofs only [↓q1, ↓q2, ↓q3, get_app hmap, hmap, qq, Nat.reduceBEq, reduceIte, Nat.reduceAdd, Nat.reduceSub, Nat.reduceLeDiff, Nat.reduceLT, Nat.reduceMul, Nat.reduceEqDiff, Int.reduceEq, Int.reduceBEq, Int.reduceBNe, Int.reduceLT, Int.reduceLE, Int.reduceGT, Int.reduceGE, Int.reduceNeg, Int.reduceAdd, Int.reduceSub, reduceCtorEq, List.reduceReplicate, ← List.map_take, ← List.map_drop]
      have hv' := hF.says some v hs hn hlk
      have e := endsx_map (ress := [.tmp 4]) (E := [(4, .b v)]) (G := [.row 6 [packC w l s (.rmp m)], .row 9 [(keyB some).map .b]]) (K := fun r H' => r = .b (doS w l s some) ∧ ∃ ts', Faith w l s ts' ∧ H' = H.set m (.mp (tmap ts'))) (vs := [.b v]) (ts' := ts) hmap rfl rfl ⟨by rw [← hv']; rfl, ts, hF, rfl⟩
      rw [set_self hmap] at e
      exact e
    | none =>
      rw [hlk] at q2
      simp -dsimp -implicitDefEqProofs only [↓q1, ↓q2, ↓q3, get_app hmap, hmap, qq, Nat.reduceBEq, reduceIte, Nat.reduceAdd, Nat.reduceSub, Nat.reduceLeDiff, Nat.reduceLT, Nat.reduceMul, Nat.reduceEqDiff, Int.reduceEq, Int.reduceBEq, Int.reduceBNe, Int.reduceLT, Int.reduceLE, Int.reduceGT, Int.reduceGE, Int.reduceNeg, Int.reduceAdd, Int.reduceSub, reduceCtorEq, List.reduceReplicate, ← List.map_take, ← List.map_drop]
      refine callI_by (h0 _ w l s m _ some (get_app hmap _) hw hv hs hn hne) ?_
      have q5 := updK_t (v := doS w l s some) (keyB_length some) ts hF.len hlk
      simp -dsimp -implicitDefEqProofs only [↓q1, ↓q3, ↓q5, get_app hmap, hmap, qq, Nat.reduceBEq, reduceIte, Nat.reduceAdd, Nat.reduceSub, Nat.reduceLeDiff, Nat.reduceLT, Nat.reduceMul, Nat.reduceEqDiff, Int.reduceEq, Int.reduceBEq, Int.reduceBNe, Int.reduceLT, Int.reduceLE, Int.reduceGT, Int.reduceGE, Int.reduceNeg, Int.reduceAdd, Int.reduceSub, reduceCtorEq, List.reduceReplicate, ← List.map_take, ← List.map_drop]
      rw [List.set_append_left _ _ (get_lt hmap)]
      refine endsx_map hmap rfl rfl ⟨rfl, _, ⟨fun t ht => ?_, fun a v ha hna hla => ?_⟩, rfl⟩
      · rcases List.mem_append.1 ht with h | h
        · exact hF.len t h
        · simp at h; subst h; exact keyB_length some
      · rw [List.lookup_append] at hla
        cases hta : ts.lookup (keyB a) with
        | some u =>
          rw [hta] at hla
          simp at hla; subst hla
          exact hF.says a u ha hna hta
        | none =>
          rw [hta] at hla
          simp only [Option.none_or, List.lookup] at hla
          by_cases e : keyB a = keyB some
          · simp [e] at hla
            rw [← hla]
            exact (hkey l hv h9 w s a some ha hs hna hn e).symm
          · have : (keyB a == keyB some) = false := by simpa using e
            simp [this] at hla
end Go.Sh.C3
end
section
namespace Go.Sh.C3
open Go.Sh
variable {P : Program}

theorem keyB_mem {a b : List Int} (e : keyB a = keyB b) {x : Int} (h0 : 0 ≤ x) (h9 : x < 9) : x ∈ a ↔ x ∈ b := by
  have h := congrArg (fun l => l[x.toNat]?) e
  have hx : x.toNat < 9 := by omega
  simp [keyB, hx, Int.toNat_of_nonneg h0] at h
  exact h
theorem doKey {l : List Sag} (hv : listB l = true) (h9 : l.length ≤ 9) : DoKey l := by
  intro w s a b ha hb hna hnb e
  have hp : a.Perm b := (List.perm_ext_iff_of_nodup hna hnb).2 fun x => by
    constructor
    · intro hx; exact (keyB_mem e (ha x hx).1 (by have := (ha x hx).2; omega)).1 hx
    · intro hx; exact (keyB_mem e (hb x hx).1 (by have := (hb x hx).2; omega)).2 hx
  have : ruleS l a = ruleS l b := by
    have h1 := sortS_perm (ordS_tot hv) (fun x hx => ⟨(ha x hx).1, (ha x hx).2⟩) (fun x hx => ⟨(hb x hx).1, (hb x hx).2⟩) hp
    rwa [sortS_isort (ordS_tot hv) (fun x hx => ⟨(ha x hx).1, (ha x hx).2⟩), sortS_isort (ordS_tot hv) (fun x hx => ⟨(hb x hx).1, (hb x hx).2⟩)] at h1
  simp only [doS, this]
theorem ok_known' (hm : P.follows .mixedOrders = true) {f f0 : Nat} (low : Low_bung_packer_known P f f0) (h0 : C_do P f0) : C_known P f := ok_known hm low h0 fun _ hv h9 => doKey hv h9
end Go.Sh.C3
end
section
namespace Go.Sh.C3
open Go.Sh
set_option maxRecDepth 10000
set_option linter.unusedVariables false
set_option linter.unusedSimpArgs false
variable {P : Program}
def ic_potbankref03_In : IC := .seq (.reg [⟨some 6, none, .mov (.c (.b false))⟩] [0, 1, 2]) (.seq (.reg [⟨some 7, none, .mov (.t 0)⟩, ⟨some 8, none, .mov (.t 1)⟩, ⟨some 9, none, .bin .geq (.t 7) (.t 8)⟩, ⟨some 10, none, .mov (.t 9)⟩, ⟨some 11, some (10, true), .mov (.t 0)⟩, ⟨some 12, some (10, true), .mov (.t 2)⟩, ⟨some 13, some (10, true), .bin .leq (.t 11) (.t 12)⟩, ⟨some 14, none, .pick (.t 10) (.t 13) (.c (.b false))⟩, ⟨some 6, none, .mov (.t 14)⟩] [6]) (.ret))
abbrev Low_potbankref03_In (P : Program) (f : Nat) : Prop := lowF P f = some (15, [.tmp 6], (ic_potbankref03_In).erase)
def ic_potbankref03_part : IC := .seq (.reg [⟨some 3, none, .box (.t 0)⟩, ⟨some 6, none, .mov (.c (.b false))⟩] [1, 2, 3]) (.seq (.reg [⟨some 7, none, .fad 0 (.t 3)⟩, ⟨some 8, none, .ld none (.t 7)⟩, ⟨some 9, none, .mov (.t 1)⟩, ⟨some 10, none, .bin .geq (.t 8) (.t 9)⟩, ⟨some 11, none, .mov (.t 10)⟩, ⟨some 12, some (11, true), .fad 0 (.t 3)⟩, ⟨some 13, some (11, true), .ld none (.t 12)⟩, ⟨some 14, some (11, true), .fad 1 (.t 3)⟩, ⟨some 15, some (11, true), .ld none (.t 14)⟩, ⟨some 16, some (11, true), .bin .leq (.t 13) (.t 15)⟩, ⟨some 17, none, .pick (.t 11) (.t 16) (.c (.b false))⟩, ⟨some 18, none, .mov (.t 17)⟩, ⟨some 19, some (18, true), .fad 1 (.t 3)⟩, ⟨some 20, some (18, true), .ld none (.t 19)⟩, ⟨some 21, some (18, true), .mov (.t 2)⟩, ⟨some 22, some (18, true), .bin .leq (.t 20) (.t 21)⟩, ⟨some 23, none, .pick (.t 18) (.t 22) (.c (.b false))⟩, ⟨some 6, none, .mov (.t 23)⟩] [6]) (.ret))
abbrev Low_potbankref03_part (P : Program) (f : Nat) : Prop := lowF P f = some (24, [.tmp 6], (ic_potbankref03_part).erase)
def ic_potbankref03_CheckSaggar (f0 f1 : Nat) : IC := .seq (.reg [⟨some 1, none, .box (.t 0)⟩, ⟨some 2, none, .mov (.c (.i .i64 (0)))⟩] [1]) (.seq (.seq (.reg [⟨some 3, none, .fad 0 (.t 1)⟩, ⟨some 4, none, .ld none (.t 3)⟩, ⟨some 5, none, .calv (.c (.fn (.func f0) [] [])) [.t 4, .c (.i .i64 (1)), .c (.i .i64 (999))]⟩, ⟨some 6, none, .un .not (.t 5)⟩, ⟨some 7, none, .mov (.t 6)⟩, ⟨some 8, some (7, false), .fad 1 (.t 1)⟩, ⟨some 9, some (7, false), .ld (some 2) (.t 8)⟩, ⟨some 10, some (7, false), .calv (.c (.fn (.func f1) [] [])) [.t 9, .c (.i .i64 (0)), .c (.i .i64 (10000000))]⟩, ⟨some 11, some (7, false), .un .not (.t 10)⟩, ⟨some 12, none, .pick (.t 7) (.c (.b true)) (.t 11)⟩, ⟨some 13, none, .mov (.t 12)⟩, ⟨some 14, some (13, false), .fad 3 (.t 1)⟩, ⟨some 15, some (13, false), .ld (some 2) (.t 14)⟩, ⟨some 16, some (13, false), .calv (.c (.fn (.func f1) [] [])) [.t 15, .c (.i .i64 (0)), .c (.i .i64 (10000000))]⟩, ⟨some 17, some (13, false), .un .not (.t 16)⟩, ⟨some 18, none, .pick (.t 13) (.c (.b true)) (.t 17)⟩, ⟨some 19, none, .mov (.t 18)⟩, ⟨some 20, some (19, false), .fad 5 (.t 1)⟩, ⟨some 21, some (19, false), .ld (some 2) (.t 20)⟩, ⟨some 22, some (19, false), .calv (.c (.fn (.func f1) [] [])) [.t 21, .c (.i .i64 (1)), .c (.i .i64 (10000))]⟩, ⟨some 23, some (19, false), .un .not (.t 22)⟩, ⟨some 24, none, .pick (.t 19) (.c (.b true)) (.t 23)⟩, ⟨some 25, none, .mov (.t 24)⟩, ⟨some 26, some (25, false), .fad 7 (.t 1)⟩, ⟨some 27, some (25, false), .ld none (.t 26)⟩, ⟨some 28, some (25, false), .calv (.c (.fn (.func f0) [] [])) [.t 27, .c (.i .i64 (0)), .c (.i .i64 (200))]⟩, ⟨some 29, some (25, false), .un .not (.t 28)⟩, ⟨some 30, none, .pick (.t 25) (.c (.b true)) (.t 29)⟩] [30]) (.cond (.t 30) (.seq (.reg [⟨some 2, none, .mov (.c (.i .i64 (30)))⟩] [2]) (.ret)) (.skip))) (.seq (.reg [⟨some 2, none, .mov (.c (.i .i64 (0)))⟩] [2]) (.ret)))
abbrev Low_potbankref03_CheckSaggar (P : Program) (f f0 f1 : Nat) : Prop := lowF P f = some (31, [.tmp 2], (ic_potbankref03_CheckSaggar f0 f1).erase)
def ic_potbankref03_has : IC := .seq (.reg [⟨some 4, none, .mov (.c (.b false))⟩] [0, 1]) (.seq (.seq (.reg [⟨some 5, none, .mov (.c (.i .i64 (0)))⟩] [0, 1, 5]) (.block 0 (.loop (.seq (.seq (.reg [⟨some 6, none, .mov (.t 5)⟩, ⟨some 7, none, .mov (.t 0)⟩, ⟨some 8, none, .len false (.t 7)⟩, ⟨some 9, none, .bin .lss (.t 6) (.t 8)⟩] [0, 1, 5, 9]) (.cond (.t 9) (.skip) (.exit 0))) (.seq (.block 1 (.seq (.reg [⟨some 12, none, .mov (.t 0)⟩, ⟨some 13, none, .mov (.t 5)⟩, ⟨some 14, none, .ixs 8 (.t 12) (.t 13)⟩, ⟨some 15, none, .fad 0 (.t 14)⟩, ⟨some 16, none, .ld none (.t 15)⟩, ⟨some 17, none, .mov (.t 1)⟩, ⟨some 18, none, .bin .eql (.t 16) (.t 17)⟩] [0, 1, 5, 18]) (.cond (.t 18) (.seq (.reg [⟨some 4, none, .mov (.c (.b true))⟩] [4]) (.ret)) (.skip)))) (.reg [⟨some 10, none, .mov (.t 5)⟩, ⟨some 11, none, .bin .add (.t 10) (.c (.i .i64 (1)))⟩, ⟨some 5, none, .mov (.t 11)⟩] [0, 1, 5])))))) (.seq (.reg [⟨some 4, none, .mov (.c (.b false))⟩] [4]) (.ret)))
abbrev Low_potbankref03_has (P : Program) (f : Nat) : Prop := lowF P f = some (19, [.tmp 4], (ic_potbankref03_has).erase)
def ic_potbankref03_CheckList (f0 f1 : Nat) : IC := .seq (.reg [⟨some 2, none, .mov (.c (.i .i64 (0)))⟩] [0]) (.seq (.seq (.reg [⟨some 4, none, .mov (.t 0)⟩, ⟨some 5, none, .len false (.t 4)⟩, ⟨some 6, none, .bin .gtr (.t 5) (.c (.i .i64 (30)))⟩] [0, 6]) (.cond (.t 6) (.seq (.reg [⟨some 2, none, .mov (.c (.i .i64 (30)))⟩] [2]) (.ret)) (.skip))) (.seq (.seq (.reg [⟨some 3, none, .mov (.c (.i .i64 (0)))⟩] [0, 3]) (.block 0 (.loop (.seq (.seq (.reg [⟨some 7, none, .mov (.t 3)⟩, ⟨some 8, none, .mov (.t 0)⟩, ⟨some 9, none, .len false (.t 8)⟩, ⟨some 10, none, .bin .lss (.t 7) (.t 9)⟩] [0, 3, 10]) (.cond (.t 10) (.skip) (.exit 0))) (.seq (.block 1 (.seq (.drg [(0, ⟨some 13, none, .mov (.t 0)⟩), (0, ⟨some 14, none, .mov (.t 3)⟩), (0, ⟨some 15, none, .ixs 8 (.t 13) (.t 14)⟩), (0, ⟨some 16, none, .ld (some 8) (.t 15)⟩), (0, ⟨some 17, none, .calv (.c (.fn (.func f0) [] [])) [.t 16]⟩), (0, ⟨some 18, none, .bin .neq (.t 17) (.c (.i .i64 (0)))⟩), (0, ⟨some 19, none, .mov (.t 18)⟩), (0, ⟨some 20, some (19, false), .mov (.t 0)⟩), (0, ⟨some 21, some (19, false), .mov (.t 3)⟩), (0, ⟨some 22, some (19, false), .slc 8 (.t 20) none (some (.t 21)) none⟩), (0, ⟨some 23, some (19, false), .mov (.t 0)⟩), (0, ⟨some 24, some (19, false), .mov (.t 3)⟩), (0, ⟨some 25, some (19, false), .ixs 8 (.t 23) (.t 24)⟩), (0, ⟨some 26, some (19, false), .fad 0 (.t 25)⟩), (0, ⟨some 27, some (19, false), .ld none (.t 26)⟩), (0, ⟨some 28, some (19, false), .calv (.c (.fn (.func f1) [] [])) [.t 22, .t 27]⟩), (0, ⟨some 29, none, .pick (.t 19) (.c (.b true)) (.t 28)⟩)] 15 [0, 3, 29]) (.cond (.t 29) (.seq (.reg [⟨some 2, none, .mov (.c (.i .i64 (30)))⟩] [2]) (.ret)) (.skip)))) (.reg [⟨some 11, none, .mov (.t 3)⟩, ⟨some 12, none, .bin .add (.t 11) (.c (.i .i64 (1)))⟩, ⟨some 3, none, .mov (.t 12)⟩] [0, 3])))))) (.seq (.reg [⟨some 2, none, .mov (.c (.i .i64 (0)))⟩] [2]) (.ret))))
abbrev Low_potbankref03_CheckList (P : Program) (f f0 f1 : Nat) : Prop := lowF P f = some (30, [.tmp 2], (ic_potbankref03_CheckList f0 f1).erase)
def ic_potbankref03_isWad (f0 : Nat) : IC := .seq (.reg [⟨some 1, none, .box (.t 0)⟩, ⟨some 2, none, .mov (.c (.b false))⟩] [1]) (.seq (.reg [⟨some 3, none, .ld (some 2) (.t 1)⟩, ⟨some 4, none, .calv (.c (.fn (.func f0) [] [])) [.t 3, .c (.i .i64 (0)), .c (.i .i64 (200))]⟩, ⟨some 2, none, .mov (.t 4)⟩] [2]) (.ret))
abbrev Low_potbankref03_isWad (P : Program) (f f0 : Nat) : Prop := lowF P f = some (5, [.tmp 2], (ic_potbankref03_isWad f0).erase)
def ic_potbankref03_Check (f0 f1 : Nat) : IC := .seq (.reg [⟨some 1, none, .box (.t 0)⟩, ⟨some 2, none, .mov (.c (.i .i64 (0)))⟩] [1]) (.seq (.seq (.reg [⟨some 3, none, .fad 0 (.t 1)⟩, ⟨some 4, none, .ld (some 2) (.t 3)⟩, ⟨some 5, none, .calv (.c (.fn (.func f0) [] [])) [.t 4]⟩, ⟨some 6, none, .un .not (.t 5)⟩, ⟨some 7, none, .mov (.t 6)⟩, ⟨some 8, some (7, false), .fad 2 (.t 1)⟩, ⟨some 9, some (7, false), .ld none (.t 8)⟩, ⟨some 10, some (7, false), .len false (.t 9)⟩, ⟨some 11, some (7, false), .bin .eql (.t 10) (.c (.i .i64 (0)))⟩, ⟨some 12, none, .pick (.t 7) (.c (.b true)) (.t 11)⟩, ⟨some 13, none, .mov (.t 12)⟩, ⟨some 14, some (13, false), .fad 2 (.t 1)⟩, ⟨some 15, some (13, false), .ld none (.t 14)⟩, ⟨some 16, some (13, false), .calv (.c (.fn (.func f1) [] [])) [.t 15]⟩, ⟨some 17, some (13, false), .bin .neq (.t 16) (.c (.i .i64 (0)))⟩, ⟨some 18, none, .pick (.t 13) (.c (.b true)) (.t 17)⟩] [18]) (.cond (.t 18) (.seq (.reg [⟨some 2, none, .mov (.c (.i .i64 (31)))⟩] [2]) (.ret)) (.skip))) (.seq (.reg [⟨some 2, none, .mov (.c (.i .i64 (0)))⟩] [2]) (.ret)))
abbrev Low_potbankref03_Check (P : Program) (f f0 f1 : Nat) : Prop := lowF P f = some (19, [.tmp 2], (ic_potbankref03_Check f0 f1).erase)
def ic_potbankref03_SameRanges : IC := .seq (.reg [⟨some 4, none, .mov (.c (.b false))⟩] [0, 1]) (.seq (.reg [⟨some 7, none, .mov (.t 0)⟩, ⟨some 8, none, .len false (.t 7)⟩, ⟨some 9, none, .mov (.t 1)⟩, ⟨some 10, none, .len false (.t 9)⟩, ⟨some 11, none, .bin .eql (.t 8) (.t 10)⟩, ⟨some 5, none, .mov (.t 11)⟩] [0, 1, 5]) (.seq (.seq (.reg [⟨some 6, none, .mov (.c (.i .i64 (0)))⟩] [0, 1, 5, 6]) (.block 0 (.loop (.seq (.seq (.reg [⟨some 12, none, .mov (.t 6)⟩, ⟨some 13, none, .mov (.t 0)⟩, ⟨some 14, none, .len false (.t 13)⟩, ⟨some 15, none, .bin .lss (.t 12) (.t 14)⟩, ⟨some 16, none, .mov (.t 15)⟩, ⟨some 17, some (16, true), .mov (.t 5)⟩, ⟨some 18, none, .pick (.t 16) (.t 17) (.c (.b false))⟩] [0, 1, 5, 6, 18]) (.cond (.t 18) (.skip) (.exit 0))) (.seq (.block 1 (.drg [(0, ⟨some 21, none, .mov (.t 0)⟩), (0, ⟨some 22, none, .mov (.t 6)⟩), (0, ⟨some 23, none, .ixs 2 (.t 21) (.t 22)⟩), (0, ⟨some 24, none, .ld (some 2) (.t 23)⟩), (0, ⟨some 25, none, .mov (.t 1)⟩), (0, ⟨some 26, none, .mov (.t 6)⟩), (0, ⟨some 27, none, .ixs 2 (.t 25) (.t 26)⟩), (0, ⟨some 28, none, .ld (some 2) (.t 27)⟩), (0, ⟨some 29, none, .eqs false [(0, 0), (1, 0)] (.t 24) (.t 28)⟩), (0, ⟨some 5, none, .mov (.t 29)⟩)] 8 [0, 1, 5, 6])) (.reg [⟨some 19, none, .mov (.t 6)⟩, ⟨some 20, none, .bin .add (.t 19) (.c (.i .i64 (1)))⟩, ⟨some 6, none, .mov (.t 20)⟩] [0, 1, 5, 6])))))) (.seq (.reg [⟨some 30, none, .mov (.t 5)⟩, ⟨some 4, none, .mov (.t 30)⟩] [4]) (.ret))))
abbrev Low_potbankref03_SameRanges (P : Program) (f : Nat) : Prop := lowF P f = some (31, [.tmp 4], (ic_potbankref03_SameRanges).erase)
def ic_potbankref01_Same : IC := .seq (.reg [⟨some 4, none, .mov (.c (.b false))⟩] [0, 1]) (.seq (.seq (.reg [⟨some 6, none, .mov (.t 0)⟩, ⟨some 7, none, .len false (.t 6)⟩, ⟨some 8, none, .mov (.t 1)⟩, ⟨some 9, none, .len false (.t 8)⟩, ⟨some 10, none, .bin .neq (.t 7) (.t 9)⟩] [0, 1, 10]) (.cond (.t 10) (.seq (.reg [⟨some 4, none, .mov (.c (.b false))⟩] [4]) (.ret)) (.skip))) (.seq (.seq (.reg [⟨some 5, none, .mov (.c (.i .i64 (0)))⟩] [0, 1, 5]) (.block 0 (.loop (.seq (.seq (.reg [⟨some 11, none, .mov (.t 5)⟩, ⟨some 12, none, .mov (.t 0)⟩, ⟨some 13, none, .len false (.t 12)⟩, ⟨some 14, none, .bin .lss (.t 11) (.t 13)⟩] [0, 1, 5, 14]) (.cond (.t 14) (.skip) (.exit 0))) (.seq (.block 1 (.seq (.drg [(0, ⟨some 17, none, .mov (.t 0)⟩), (0, ⟨some 18, none, .mov (.t 5)⟩), (0, ⟨some 19, none, .ixs 1 (.t 17) (.t 18)⟩), (0, ⟨some 20, none, .ld none (.t 19)⟩), (0, ⟨some 21, none, .mov (.t 1)⟩), (0, ⟨some 22, none, .mov (.t 5)⟩), (0, ⟨some 23, none, .ixs 1 (.t 21) (.t 22)⟩), (0, ⟨some 24, none, .ld none (.t 23)⟩), (0, ⟨some 25, none, .bin .neq (.t 20) (.t 24)⟩)] 8 [0, 1, 5, 25]) (.cond (.t 25) (.seq (.reg [⟨some 4, none, .mov (.c (.b false))⟩] [4]) (.ret)) (.skip)))) (.reg [⟨some 15, none, .mov (.t 5)⟩, ⟨some 16, none, .bin .add (.t 15) (.c (.i .i64 (1)))⟩, ⟨some 5, none, .mov (.t 16)⟩] [0, 1, 5])))))) (.seq (.reg [⟨some 4, none, .mov (.c (.b true))⟩] [4]) (.ret))))
abbrev Low_potbankref01_Same (P : Program) (f : Nat) : Prop := lowF P f = some (26, [.tmp 4], (ic_potbankref01_Same).erase)
theorem ok_rIn (hm : P.follows .mixedOrders = true) {f : Nat} (low : Low_potbankref03_In P f) : C_within P f := by
  intro n lo hi
  refine snd_ic hm low (by simp) ?_
  unfold ic_potbankref03_In
  simp -dsimp -implicitDefEqProofs only [qq, Nat.reduceBEq, reduceIte, Nat.reduceAdd, Nat.reduceSub, Nat.reduceLeDiff, Nat.reduceLT, Nat.reduceMul, Nat.reduceEqDiff, Int.reduceEq, Int.reduceBEq, Int.reduceBNe, Int.reduceLT, Int.reduceLE, Int.reduceGT, Int.reduceGE, Int.reduceNeg, Int.reduceAdd, Int.reduceSub, reduceCtorEq, List.reduceReplicate, ← List.map_take, ← List.map_drop]
  repeat' (first | (refine brG_of (fun h => ?_) (fun h => ?_) <;> simp -dsimp -implicitDefEqProofs only [h, qq, Nat.reduceBEq, reduceIte, Nat.reduceAdd, Nat.reduceSub, Nat.reduceLeDiff, Nat.reduceLT, Nat.reduceMul, Nat.reduceEqDiff, Int.reduceEq, Int.reduceBEq, Int.reduceBNe, Int.reduceLT, Int.reduceLE, Int.reduceGT, Int.reduceGE, Int.reduceNeg, Int.reduceAdd, Int.reduceSub, reduceCtorEq, List.reduceReplicate, ← List.map_take, ← List.map_drop]))
  all_goals exact Ends.plain rfl rfl (by first | (simp_all [resV, inR]; done) | (simp_all [resV, inR]; omega) | (simp only [resV, inR]; grind))
theorem ok_rpart (hm : P.follows .mixedOrders = true) {f : Nat} (low : Low_potbankref03_part P f) : C_isRange P f := by
  intro r lo hi
  refine snd_ic hm low (by simp) ?_
  unfold ic_potbankref03_part
  simp -dsimp -implicitDefEqProofs only [qq, Nat.reduceBEq, reduceIte, Nat.reduceAdd, Nat.reduceSub, Nat.reduceLeDiff, Nat.reduceLT, Nat.reduceMul, Nat.reduceEqDiff, Int.reduceEq, Int.reduceBEq, Int.reduceBNe, Int.reduceLT, Int.reduceLE, Int.reduceGT, Int.reduceGE, Int.reduceNeg, Int.reduceAdd, Int.reduceSub, reduceCtorEq, List.reduceReplicate, ← List.map_take, ← List.map_drop]
  repeat' (first | (refine brG_of (fun h => ?_) (fun h => ?_) <;> simp -dsimp -implicitDefEqProofs only [h, qq, Nat.reduceBEq, reduceIte, Nat.reduceAdd, Nat.reduceSub, Nat.reduceLeDiff, Nat.reduceLT, Nat.reduceMul, Nat.reduceEqDiff, Int.reduceEq, Int.reduceBEq, Int.reduceBNe, Int.reduceLT, Int.reduceLE, Int.reduceGT, Int.reduceGE, Int.reduceNeg, Int.reduceAdd, Int.reduceSub, reduceCtorEq, List.reduceReplicate, ← List.map_take, ← List.map_drop]))
  all_goals exact Ends.plain rfl rfl (by first | (simp_all [resV, rgB]; done) | (simp_all [resV, rgB]; omega) | (simp only [resV, rgB]; grind))
theorem ok_rCheckSaggar (hm : P.follows .mixedOrders = true) {f f0 f1 : Nat} (low : Low_potbankref03_CheckSaggar P f f0 f1) (h0 : C_within P f0) (h1 : C_isRange P f1) : C_CheckSaggar P f := by
  intro s
  refine snd_ic hm low (by simp) ?_
  unfold ic_potbankref03_CheckSaggar
  simp -dsimp -implicitDefEqProofs only [qq, Nat.reduceBEq, reduceIte, Nat.reduceAdd, Nat.reduceSub, Nat.reduceLeDiff, Nat.reduceLT, Nat.reduceMul, Nat.reduceEqDiff, Int.reduceEq, Int.reduceBEq, Int.reduceBNe, Int.reduceLT, Int.reduceLE, Int.reduceGT, Int.reduceGE, Int.reduceNeg, Int.reduceAdd, Int.reduceSub, reduceCtorEq, List.reduceReplicate, ← List.map_take, ← List.map_drop]
  repeat' (first | (refine brG_of (fun h => ?_) (fun h => ?_) <;> simp -dsimp -implicitDefEqProofs only [h, qq, Nat.reduceBEq, reduceIte, Nat.reduceAdd, Nat.reduceSub, Nat.reduceLeDiff, Nat.reduceLT, Nat.reduceMul, Nat.reduceEqDiff, Int.reduceEq, Int.reduceBEq, Int.reduceBNe, Int.reduceLT, Int.reduceLE, Int.reduceGT, Int.reduceGE, Int.reduceNeg, Int.reduceAdd, Int.reduceSub, reduceCtorEq, List.reduceReplicate, ← List.map_take, ← List.map_drop]) | (refine callI_pure (h0 _ _ _) rfl rfl ?_; simp -dsimp -implicitDefEqProofs only [qq, Nat.reduceBEq, reduceIte, Nat.reduceAdd, Nat.reduceSub, Nat.reduceLeDiff, Nat.reduceLT, Nat.reduceMul, Nat.reduceEqDiff, Int.reduceEq, Int.reduceBEq, Int.reduceBNe, Int.reduceLT, Int.reduceLE, Int.reduceGT, Int.reduceGE, Int.reduceNeg, Int.reduceAdd, Int.reduceSub, reduceCtorEq, List.reduceReplicate, ← List.map_take, ← List.map_drop]) | (refine callI_pure (h1 ⟨_, _⟩ _ _) rfl rfl ?_; simp -dsimp -implicitDefEqProofs only [qq, Nat.reduceBEq, reduceIte, Nat.reduceAdd, Nat.reduceSub, Nat.reduceLeDiff, Nat.reduceLT, Nat.reduceMul, Nat.reduceEqDiff, Int.reduceEq, Int.reduceBEq, Int.reduceBNe, Int.reduceLT, Int.reduceLE, Int.reduceGT, Int.reduceGE, Int.reduceNeg, Int.reduceAdd, Int.reduceSub, reduceCtorEq, List.reduceReplicate, ← List.map_take, ← List.map_drop]))
  all_goals exact Ends.plain rfl rfl (by first | (simp_all [resV, sagB]; done) | (simp_all [resV, sagB]; omega) | (simp only [resV, sagB]; grind))
def C_has (P : Program) (f : Nat) : Prop := ∀ (l : List Sag) (n : Int), l.length ≤ 1000 → Snd P f [.fsl (l.map Sag.c), .i .i64 n] [] (.b (decide (n ∈ l.map (·.id)))) []
theorem ok_has (hm : P.follows .mixedOrders = true) {f : Nat} (low : Low_potbankref03_has P f) : C_has P f := by
  intro l n hl
  refine snd_ic hm low (by simp) ?_
  unfold ic_potbankref03_has
  simp -dsimp -implicitDefEqProofs only [qq, Nat.reduceBEq, reduceIte, Nat.reduceAdd, Nat.reduceSub, Nat.reduceLeDiff, Nat.reduceLT, Nat.reduceMul, Nat.reduceEqDiff, Int.reduceEq, Int.reduceBEq, Int.reduceBNe, Int.reduceLT, Int.reduceLE, Int.reduceGT, Int.reduceGE, Int.reduceNeg, Int.reduceAdd, Int.reduceSub, reduceCtorEq, List.reduceReplicate, ← List.map_take, ← List.map_drop]
  refine loopI_st (fun k : Nat => l.length - k) (fun k E H => k ≤ l.length ∧ E = [(0, .fsl (l.map Sag.c)), (1, .i .i64 n), (5, .i .i64 k)] ∧ (∀ x ∈ l.take k, x.id ≠ n)) 0 ⟨by omega, rfl, by simp⟩ ?_
  rintro k _ H ⟨hk, rfl, hn⟩
  simp -dsimp -implicitDefEqProofs only [qq, Nat.reduceBEq, reduceIte, Nat.reduceAdd, Nat.reduceSub, Nat.reduceLeDiff, Nat.reduceLT, Nat.reduceMul, Nat.reduceEqDiff, Int.reduceEq, Int.reduceBEq, Int.reduceBNe, Int.reduceLT, Int.reduceLE, Int.reduceGT, Int.reduceGE, Int.reduceNeg, Int.reduceAdd, Int.reduceSub, reduceCtorEq, List.reduceReplicate, ← List.map_take, ← List.map_drop]
  refine brG_of (fun hlt => ?_) (fun hge => ?_)
  · have hkl : k < l.length := by simpa using hlt
    obtain ⟨x, hx, hxm, htk, _⟩ := next_of hkl
    have hwk : IntKind.i64.wrap ((k : Int) + 1) = ((k + 1 : Nat) : Int) := wrap_succ (by omega)
    simp -dsimp -implicitDefEqProofs only [hx, Sag.c, qq, Nat.reduceBEq, reduceIte, Nat.reduceAdd, Nat.reduceSub, Nat.reduceLeDiff, Nat.reduceLT, Nat.reduceMul, Nat.reduceEqDiff, Int.reduceEq, Int.reduceBEq, Int.reduceBNe, Int.reduceLT, Int.reduceLE, Int.reduceGT, Int.reduceGE, Int.reduceNeg, Int.reduceAdd, Int.reduceSub, reduceCtorEq, List.reduceReplicate, ← List.map_take, ← List.map_drop]
    refine brG_of (fun he => ?_) (fun he => ?_)
    · simp -dsimp -implicitDefEqProofs only [qq, Nat.reduceBEq, reduceIte, Nat.reduceAdd, Nat.reduceSub, Nat.reduceLeDiff, Nat.reduceLT, Nat.reduceMul, Nat.reduceEqDiff, Int.reduceEq, Int.reduceBEq, Int.reduceBNe, Int.reduceLT, Int.reduceLE, Int.reduceGT, Int.reduceGE, Int.reduceNeg, Int.reduceAdd, Int.reduceSub, reduceCtorEq, List.reduceReplicate, ← List.map_take, ← List.map_drop]
      refine Ends.plain rfl rfl ?_
      simp only [beq_iff_eq] at he
      have : n ∈ l.map (·.id) := List.mem_map.2 ⟨x, hxm, he⟩
      simp [resV, this]
    · simp -dsimp -implicitDefEqProofs only [hwk, qq, Nat.reduceBEq, reduceIte, Nat.reduceAdd, Nat.reduceSub, Nat.reduceLeDiff, Nat.reduceLT, Nat.reduceMul, Nat.reduceEqDiff, Int.reduceEq, Int.reduceBEq, Int.reduceBNe, Int.reduceLT, Int.reduceLE, Int.reduceGT, Int.reduceGE, Int.reduceNeg, Int.reduceAdd, Int.reduceSub, reduceCtorEq, List.reduceReplicate, ← List.map_take, ← List.map_drop]
      refine ⟨k + 1, by omega, by omega, rfl, ?_⟩
      rw [htk]
      intro y hy
      rcases List.mem_append.1 hy with h | h
      · exact hn y h
      · simp at h; subst h; simpa using he
  · obtain rfl : k = l.length := by simp at hge; omega
    simp -dsimp -implicitDefEqProofs only [qq, Nat.reduceBEq, reduceIte, Nat.reduceAdd, Nat.reduceSub, Nat.reduceLeDiff, Nat.reduceLT, Nat.reduceMul, Nat.reduceEqDiff, Int.reduceEq, Int.reduceBEq, Int.reduceBNe, Int.reduceLT, Int.reduceLE, Int.reduceGT, Int.reduceGE, Int.reduceNeg, Int.reduceAdd, Int.reduceSub, reduceCtorEq, List.reduceReplicate, ← List.map_take, ← List.map_drop]
    refine Ends.plain rfl rfl ?_
    rw [List.take_length] at hn
    have : n ∉ l.map (·.id) := fun h => by obtain ⟨x, hx, e⟩ := List.mem_map.1 h; exact hn x hx e
    simp [resV, this]
theorem ok_rCheckList (hm : P.follows .mixedOrders = true) {f f0 f1 : Nat} (low : Low_potbankref03_CheckList P f f0 f1) (h0 : C_CheckSaggar P f0) (h1 : C_has P f1) : C_CheckList P f := by
  intro l
  refine snd_ic hm low (by simp) ?_
  unfold ic_potbankref03_CheckList
  simp -dsimp -implicitDefEqProofs only [qq, Nat.reduceBEq, reduceIte, Nat.reduceAdd, Nat.reduceSub, Nat.reduceLeDiff, Nat.reduceLT, Nat.reduceMul, Nat.reduceEqDiff, Int.reduceEq, Int.reduceBEq, Int.reduceBNe, Int.reduceLT, Int.reduceLE, Int.reduceGT, Int.reduceGE, Int.reduceNeg, Int.reduceAdd, Int.reduceSub, reduceCtorEq, List.reduceReplicate, ← List.map_take, ← List.map_drop]
  refine brG_of (fun h => ?_) (fun h => ?_) <;> simp -dsimp -implicitDefEqProofs only [qq, Nat.reduceBEq, reduceIte, Nat.reduceAdd, Nat.reduceSub, Nat.reduceLeDiff, Nat.reduceLT, Nat.reduceMul, Nat.reduceEqDiff, Int.reduceEq, Int.reduceBEq, Int.reduceBNe, Int.reduceLT, Int.reduceLE, Int.reduceGT, Int.reduceGE, Int.reduceNeg, Int.reduceAdd, Int.reduceSub, reduceCtorEq, List.reduceReplicate, ← List.map_take, ← List.map_drop]
  · refine Ends.plain rfl rfl ?_
    have : listB l = false := by simp [listB]; intro h'; simp at h; omega
    simp [resV, this]
  have hl : l.length ≤ 30 := by simp at h; omega
  refine loopI_st (fun k : Nat => l.length - k) (fun k E H => k ≤ l.length ∧ E = [(0, .fsl (l.map Sag.c)), (3, .i .i64 k)] ∧ (l.take k).all sagB = true ∧ ((l.take k).map (·.id)).Nodup) 0 ⟨by omega, rfl, rfl, by simp⟩ ?_
  rintro k _ H ⟨hk, rfl, ha, hn⟩
  simp -dsimp -implicitDefEqProofs only [qq, Nat.reduceBEq, reduceIte, Nat.reduceAdd, Nat.reduceSub, Nat.reduceLeDiff, Nat.reduceLT, Nat.reduceMul, Nat.reduceEqDiff, Int.reduceEq, Int.reduceBEq, Int.reduceBNe, Int.reduceLT, Int.reduceLE, Int.reduceGT, Int.reduceGE, Int.reduceNeg, Int.reduceAdd, Int.reduceSub, reduceCtorEq, List.reduceReplicate, ← List.map_take, ← List.map_drop]
  refine brG_of (fun hlt => ?_) (fun hge => ?_)
  · have hkl : k < l.length := by simpa using hlt
    obtain ⟨x, hx, hxm, htk, _⟩ := next_of hkl
    have hwk : IntKind.i64.wrap ((k : Int) + 1) = ((k + 1 : Nat) : Int) := wrap_succ (by omega)
    simp -dsimp -implicitDefEqProofs only [hx, Sag.c, qq, Nat.reduceBEq, reduceIte, Nat.reduceAdd, Nat.reduceSub, Nat.reduceLeDiff, Nat.reduceLT, Nat.reduceMul, Nat.reduceEqDiff, Int.reduceEq, Int.reduceBEq, Int.reduceBNe, Int.reduceLT, Int.reduceLE, Int.reduceGT, Int.reduceGE, Int.reduceNeg, Int.reduceAdd, Int.reduceSub, reduceCtorEq, List.reduceReplicate, ← List.map_take, ← List.map_drop]
    refine callI_pure (h0 x) rfl rfl ?_
    cases hs : sagB x <;> simp -dsimp -implicitDefEqProofs only [qq, Nat.reduceBEq, reduceIte, Nat.reduceAdd, Nat.reduceSub, Nat.reduceLeDiff, Nat.reduceLT, Nat.reduceMul, Nat.reduceEqDiff, Int.reduceEq, Int.reduceBEq, Int.reduceBNe, Int.reduceLT, Int.reduceLE, Int.reduceGT, Int.reduceGE, Int.reduceNeg, Int.reduceAdd, Int.reduceSub, reduceCtorEq, List.reduceReplicate, ← List.map_take, ← List.map_drop]
    · refine Ends.plain rfl rfl ?_
      have : listB l = false := by
        simp only [listB]
        rw [show l.all sagB = false from by simp; exact ⟨x, hxm, hs⟩]
        simp
      simp [resV, this]
    · repeat (refine ⟨by first | omega | trivial | (intro row hr; obtain ⟨x, _, rfl⟩ := List.mem_map.1 hr; rfl), ?_⟩)
      simp -dsimp -implicitDefEqProofs only [hx, Sag.c, qq, Nat.reduceBEq, reduceIte, Nat.reduceAdd, Nat.reduceSub, Nat.reduceLeDiff, Nat.reduceLT, Nat.reduceMul, Nat.reduceEqDiff, Int.reduceEq, Int.reduceBEq, Int.reduceBNe, Int.reduceLT, Int.reduceLE, Int.reduceGT, Int.reduceGE, Int.reduceNeg, Int.reduceAdd, Int.reduceSub, reduceCtorEq, List.reduceReplicate, ← List.map_take, ← List.map_drop]
      refine callI_pure (h1 (l.take k) x.id (by rw [List.length_take]; omega)) rfl rfl ?_
      by_cases hid : x.id ∈ (l.take k).map (·.id)
      · simp -dsimp -implicitDefEqProofs only [decide_eq_true hid, qq, Nat.reduceBEq, reduceIte, Nat.reduceAdd, Nat.reduceSub, Nat.reduceLeDiff, Nat.reduceLT, Nat.reduceMul, Nat.reduceEqDiff, Int.reduceEq, Int.reduceBEq, Int.reduceBNe, Int.reduceLT, Int.reduceLE, Int.reduceGT, Int.reduceGE, Int.reduceNeg, Int.reduceAdd, Int.reduceSub, reduceCtorEq, List.reduceReplicate, ← List.map_take, ← List.map_drop]
        refine Ends.plain rfl rfl ?_
        have : listB l = false := by
          simp only [listB]
          rw [show decide ((l.map (·.id)).Nodup) = false from ?_]
          · simp
          · rw [decide_eq_false_iff_not]
            intro hnd
            rw [← List.take_append_drop k l, List.map_append, List.nodup_append] at hnd
            exact hnd.2.2 _ hid x.id (List.mem_map.2 ⟨x, List.mem_of_getElem? (i := 0) (by rw [List.getElem?_drop]; simpa using hx), rfl⟩) rfl
        simp [resV, this]
      · simp -dsimp -implicitDefEqProofs only [decide_eq_false hid, hwk, qq, Nat.reduceBEq, reduceIte, Nat.reduceAdd, Nat.reduceSub, Nat.reduceLeDiff, Nat.reduceLT, Nat.reduceMul, Nat.reduceEqDiff, Int.reduceEq, Int.reduceBEq, Int.reduceBNe, Int.reduceLT, Int.reduceLE, Int.reduceGT, Int.reduceGE, Int.reduceNeg, Int.reduceAdd, Int.reduceSub, reduceCtorEq, List.reduceReplicate, ← List.map_take, ← List.map_drop]
        refine ⟨k + 1, by omega, by omega, rfl, ?_, ?_⟩
        · rw [htk]; simp [List.all_append] at ha ⊢; exact ⟨ha, hs⟩
        · rw [htk]; simp [List.nodup_append] at hn ⊢; exact ⟨hn, fun a ha e => by subst e; simp at hid; exact hid ha⟩
  · obtain rfl : k = l.length := by simp at hge; omega
    simp -dsimp -implicitDefEqProofs only [qq, Nat.reduceBEq, reduceIte, Nat.reduceAdd, Nat.reduceSub, Nat.reduceLeDiff, Nat.reduceLT, Nat.reduceMul, Nat.reduceEqDiff, Int.reduceEq, Int.reduceBEq, Int.reduceBNe, Int.reduceLT, Int.reduceLE, Int.reduceGT, Int.reduceGE, Int.reduceNeg, Int.reduceAdd, Int.reduceSub, reduceCtorEq, List.reduceReplicate, ← List.map_take, ← List.map_drop]
    refine Ends.plain rfl rfl ?_
    rw [List.take_length] at ha hn
    have : listB l = true := by simp only [listB, ha, hn]; simp; exact hl
    simp [resV, this]
end Go.Sh.C3
end
section
namespace Go.Sh.C3
open Go.Sh
set_option maxRecDepth 10000
set_option linter.unusedVariables false
set_option linter.unusedSimpArgs false
variable {P : Program}

theorem ok_risWad (hm : P.follows .mixedOrders = true) {f f0 : Nat} (low : Low_potbankref03_isWad P f f0) (h0 : C_isRange P f0) : C_isWad P f := by
  intro w
  refine snd_ic hm low (by simp) ?_
  unfold ic_potbankref03_isWad
  simp -dsimp -implicitDefEqProofs only [qq, Nat.reduceBEq, reduceIte, Nat.reduceAdd, Nat.reduceSub, Nat.reduceLeDiff, Nat.reduceLT, Nat.reduceMul, Nat.reduceEqDiff, Int.reduceEq, Int.reduceBEq, Int.reduceBNe, Int.reduceLT, Int.reduceLE, Int.reduceGT, Int.reduceGE, Int.reduceNeg, Int.reduceAdd, Int.reduceSub, reduceCtorEq, List.reduceReplicate, ← List.map_take, ← List.map_drop]
  repeat' (first | (refine brG_of (fun h => ?_) (fun h => ?_) <;> simp -dsimp -implicitDefEqProofs only [h, qq, Nat.reduceBEq, reduceIte, Nat.reduceAdd, Nat.reduceSub, Nat.reduceLeDiff, Nat.reduceLT, Nat.reduceMul, Nat.reduceEqDiff, Int.reduceEq, Int.reduceBEq, Int.reduceBNe, Int.reduceLT, Int.reduceLE, Int.reduceGT, Int.reduceGE, Int.reduceNeg, Int.reduceAdd, Int.reduceSub, reduceCtorEq, List.reduceReplicate, ← List.map_take, ← List.map_drop]) | (refine callI_pure (h0 w _ _) rfl rfl ?_; simp -dsimp -implicitDefEqProofs only [qq, Nat.reduceBEq, reduceIte, Nat.reduceAdd, Nat.reduceSub, Nat.reduceLeDiff, Nat.reduceLT, Nat.reduceMul, Nat.reduceEqDiff, Int.reduceEq, Int.reduceBEq, Int.reduceBNe, Int.reduceLT, Int.reduceLE, Int.reduceGT, Int.reduceGE, Int.reduceNeg, Int.reduceAdd, Int.reduceSub, reduceCtorEq, List.reduceReplicate, ← List.map_take, ← List.map_drop]))
  all_goals exact Ends.plain rfl rfl (by first | (simp_all [resV, Rg.c]; done) | (simp_all [resV, Rg.c]; omega) | (simp only [resV, Rg.c]; grind))
theorem ok_rCheck (hm : P.follows .mixedOrders = true) {f f0 f1 : Nat} (low : Low_potbankref03_Check P f f0 f1) (h0 : C_isWad P f0) (h1 : C_CheckList P f1) : C_Check P f := by
  intro w l
  refine snd_ic hm low (by simp) ?_
  unfold ic_potbankref03_Check
  simp -dsimp -implicitDefEqProofs only [qq, Nat.reduceBEq, reduceIte, Nat.reduceAdd, Nat.reduceSub, Nat.reduceLeDiff, Nat.reduceLT, Nat.reduceMul, Nat.reduceEqDiff, Int.reduceEq, Int.reduceBEq, Int.reduceBNe, Int.reduceLT, Int.reduceLE, Int.reduceGT, Int.reduceGE, Int.reduceNeg, Int.reduceAdd, Int.reduceSub, reduceCtorEq, List.reduceReplicate, ← List.map_take, ← List.map_drop]
  refine callI_pure (h0 w) rfl rfl ?_
  cases hw : rgB w 0 200 <;> simp -dsimp -implicitDefEqProofs only [qq, Nat.reduceBEq, reduceIte, Nat.reduceAdd, Nat.reduceSub, Nat.reduceLeDiff, Nat.reduceLT, Nat.reduceMul, Nat.reduceEqDiff, Int.reduceEq, Int.reduceBEq, Int.reduceBNe, Int.reduceLT, Int.reduceLE, Int.reduceGT, Int.reduceGE, Int.reduceNeg, Int.reduceAdd, Int.reduceSub, reduceCtorEq, List.reduceReplicate, ← List.map_take, ← List.map_drop]
  · exact Ends.plain rfl rfl (by simp [resV, bungB, hw])
  cases he : ((l.length : Int) == 0) <;> simp -dsimp -implicitDefEqProofs only [he, qq, Nat.reduceBEq, reduceIte, Nat.reduceAdd, Nat.reduceSub, Nat.reduceLeDiff, Nat.reduceLT, Nat.reduceMul, Nat.reduceEqDiff, Int.reduceEq, Int.reduceBEq, Int.reduceBNe, Int.reduceLT, Int.reduceLE, Int.reduceGT, Int.reduceGE, Int.reduceNeg, Int.reduceAdd, Int.reduceSub, reduceCtorEq, List.reduceReplicate, ← List.map_take, ← List.map_drop]
  · refine callI_pure (h1 l) rfl rfl ?_
    cases hl : listB l <;> simp -dsimp -implicitDefEqProofs only [qq, Nat.reduceBEq, reduceIte, Nat.reduceAdd, Nat.reduceSub, Nat.reduceLeDiff, Nat.reduceLT, Nat.reduceMul, Nat.reduceEqDiff, Int.reduceEq, Int.reduceBEq, Int.reduceBNe, Int.reduceLT, Int.reduceLE, Int.reduceGT, Int.reduceGE, Int.reduceNeg, Int.reduceAdd, Int.reduceSub, reduceCtorEq, List.reduceReplicate, ← List.map_take, ← List.map_drop]
    · exact Ends.plain rfl rfl (by simp [resV, bungB, hl])
    · have : 0 < l.length := by simp at he; exact List.length_pos_iff.2 he
      exact Ends.plain rfl rfl (by simp [resV, bungB, hl, hw, this])
  · have : l.length = 0 := by simp at he; simp [he]
    exact Ends.plain rfl rfl (by simp [resV, bungB, this])
end Go.Sh.C3
end
section
namespace Go.Sh.C3
open Go.Sh
set_option maxRecDepth 10000
set_option linter.unusedVariables false
set_option linter.unusedSimpArgs false
variable {P : Program}

end Go.Sh.C3
end
section
namespace Go.Sh.C3
open Go.Sh
set_option maxRecDepth 10000
set_option linter.unusedVariables false
set_option linter.unusedSimpArgs false
variable {P : Program}

def hOf (l : List Sag) : Rg := sumR (l.map (·.h))
end Go.Sh.C3
end
section
namespace Go.Sh.C3
open Go.Sh
set_option maxRecDepth 10000
set_option linter.unusedVariables false
set_option linter.unusedSimpArgs false
variable {P : Program}

theorem take_same {α : Type} {a b : List α} {k : Nat} {x y : α} (h : a.take k = b.take k) (hx : a[k]? = some x) (hy : b[k]? = some y) : (a.take (k + 1) = b.take (k + 1)) ↔ x = y := by
  rw [List.take_add_one, List.take_add_one, h, hx, hy]
  simp

def C_SameRanges (P : Program) (f : Nat) : Prop := ∀ (a b : List Rg), a.length ≤ 1000000 → Snd P f [.fsl (a.map Rg.c), .fsl (b.map Rg.c)] [] (.b (decide (a = b))) []
theorem ok_SameRanges (hm : P.follows .mixedOrders = true) {f : Nat} (low : Low_potbankref03_SameRanges P f) : C_SameRanges P f := by
  intro a b hl
  refine snd_ic hm low (by simp) ?_
  unfold ic_potbankref03_SameRanges
  simp -dsimp -implicitDefEqProofs only [qq, Nat.reduceBEq, reduceIte, Nat.reduceAdd, Nat.reduceSub, Nat.reduceLeDiff, Nat.reduceLT, Nat.reduceMul, Nat.reduceEqDiff, Int.reduceEq, Int.reduceBEq, Int.reduceBNe, Int.reduceLT, Int.reduceLE, Int.reduceGT, Int.reduceGE, Int.reduceNeg, Int.reduceAdd, Int.reduceSub, reduceCtorEq, List.reduceReplicate, ← List.map_take, ← List.map_drop]
  refine loopI_st (fun k : Nat => a.length - k) (fun k E H => k ≤ a.length ∧ E = [(0, .fsl (a.map Rg.c)), (1, .fsl (b.map Rg.c)), (5, .b (decide (a.length = b.length ∧ a.take k = b.take k))), (6, .i .i64 k)]) 0 ⟨by omega, by simp; rw [Bool.eq_iff_iff]; simp; omega⟩ ?_
  rintro k _ H ⟨hk, rfl⟩
  simp -dsimp -implicitDefEqProofs only [qq, Nat.reduceBEq, reduceIte, Nat.reduceAdd, Nat.reduceSub, Nat.reduceLeDiff, Nat.reduceLT, Nat.reduceMul, Nat.reduceEqDiff, Int.reduceEq, Int.reduceBEq, Int.reduceBNe, Int.reduceLT, Int.reduceLE, Int.reduceGT, Int.reduceGE, Int.reduceNeg, Int.reduceAdd, Int.reduceSub, reduceCtorEq, List.reduceReplicate, ← List.map_take, ← List.map_drop]
  refine brG_of (fun hlt => ?_) (fun hlt => ?_) <;> simp -dsimp -implicitDefEqProofs only [hlt, qq, Nat.reduceBEq, reduceIte, Nat.reduceAdd, Nat.reduceSub, Nat.reduceLeDiff, Nat.reduceLT, Nat.reduceMul, Nat.reduceEqDiff, Int.reduceEq, Int.reduceBEq, Int.reduceBNe, Int.reduceLT, Int.reduceLE, Int.reduceGT, Int.reduceGE, Int.reduceNeg, Int.reduceAdd, Int.reduceSub, reduceCtorEq, List.reduceReplicate, ← List.map_take, ← List.map_drop]
  · have hkl : k < a.length := by simpa using hlt
    by_cases hs : a.length = b.length ∧ a.take k = b.take k
    · simp -dsimp -implicitDefEqProofs only [decide_eq_true hs, qq, Nat.reduceBEq, reduceIte, Nat.reduceAdd, Nat.reduceSub, Nat.reduceLeDiff, Nat.reduceLT, Nat.reduceMul, Nat.reduceEqDiff, Int.reduceEq, Int.reduceBEq, Int.reduceBNe, Int.reduceLT, Int.reduceLE, Int.reduceGT, Int.reduceGE, Int.reduceNeg, Int.reduceAdd, Int.reduceSub, reduceCtorEq, List.reduceReplicate, ← List.map_take, ← List.map_drop]
      obtain ⟨x, hx, hxm, htk, hdk⟩ := next_of hkl
      obtain ⟨y, hy, _, _, _⟩ := next_of (show k < b.length by omega)
      have hwk : IntKind.i64.wrap ((k : Int) + 1) = ((k + 1 : Nat) : Int) := wrap_succ (by omega)
      simp -dsimp -implicitDefEqProofs only [hx, hy, Rg.c, eqS, hwk, qq, Nat.reduceBEq, reduceIte, Nat.reduceAdd, Nat.reduceSub, Nat.reduceLeDiff, Nat.reduceLT, Nat.reduceMul, Nat.reduceEqDiff, Int.reduceEq, Int.reduceBEq, Int.reduceBNe, Int.reduceLT, Int.reduceLE, Int.reduceGT, Int.reduceGE, Int.reduceNeg, Int.reduceAdd, Int.reduceSub, reduceCtorEq, List.reduceReplicate, ← List.map_take, ← List.map_drop]
      refine ⟨k + 1, by omega, by omega, ?_⟩
      have e : decide (a.length = b.length ∧ a.take (k + 1) = b.take (k + 1)) = (x.lo == y.lo && x.hi == y.hi) := by
        rw [Bool.eq_iff_iff]
        simp only [decide_eq_true_eq, take_same hs.2 hx hy, hs.1, true_and, Bool.and_eq_true, beq_iff_eq]
        constructor
        · rintro rfl; exact ⟨rfl, rfl⟩
        · rintro ⟨h1, h2⟩; cases x; cases y; simp_all
      rw [e]
    · simp -dsimp -implicitDefEqProofs only [decide_eq_false hs, qq, Nat.reduceBEq, reduceIte, Nat.reduceAdd, Nat.reduceSub, Nat.reduceLeDiff, Nat.reduceLT, Nat.reduceMul, Nat.reduceEqDiff, Int.reduceEq, Int.reduceBEq, Int.reduceBNe, Int.reduceLT, Int.reduceLE, Int.reduceGT, Int.reduceGE, Int.reduceNeg, Int.reduceAdd, Int.reduceSub, reduceCtorEq, List.reduceReplicate, ← List.map_take, ← List.map_drop]
      refine Ends.plain rfl rfl ?_
      have : a ≠ b := fun e => hs (by rw [e]; exact ⟨rfl, rfl⟩)
      simp [resV, this]
  · obtain rfl : k = a.length := by simp at hlt; omega
    refine Ends.plain rfl rfl ?_
    simp only [resV]
    congr 1
    rw [Bool.eq_iff_iff, decide_eq_true_eq, decide_eq_true_eq]
    constructor
    · rintro ⟨h1, h2⟩; rwa [List.take_length, h1, List.take_length] at h2
    · rintro rfl; exact ⟨rfl, rfl⟩

def C_Same (P : Program) (f : Nat) : Prop := ∀ (a b : List Int), a.length ≤ 1000000 → Snd P f [.fsl (a.map intC), .fsl (b.map intC)] [] (.b (decide (a = b))) []
theorem ok_Same (hm : P.follows .mixedOrders = true) {f : Nat} (low : Low_potbankref01_Same P f) : C_Same P f := by
  intro a b hl
  refine snd_ic hm low (by simp) ?_
  unfold ic_potbankref01_Same
  simp -dsimp -implicitDefEqProofs only [qq, Nat.reduceBEq, reduceIte, Nat.reduceAdd, Nat.reduceSub, Nat.reduceLeDiff, Nat.reduceLT, Nat.reduceMul, Nat.reduceEqDiff, Int.reduceEq, Int.reduceBEq, Int.reduceBNe, Int.reduceLT, Int.reduceLE, Int.reduceGT, Int.reduceGE, Int.reduceNeg, Int.reduceAdd, Int.reduceSub, reduceCtorEq, List.reduceReplicate, ← List.map_take, ← List.map_drop]
  refine brG_of (fun h => ?_) (fun h => ?_) <;> simp -dsimp -implicitDefEqProofs only [qq, Nat.reduceBEq, reduceIte, Nat.reduceAdd, Nat.reduceSub, Nat.reduceLeDiff, Nat.reduceLT, Nat.reduceMul, Nat.reduceEqDiff, Int.reduceEq, Int.reduceBEq, Int.reduceBNe, Int.reduceLT, Int.reduceLE, Int.reduceGT, Int.reduceGE, Int.reduceNeg, Int.reduceAdd, Int.reduceSub, reduceCtorEq, List.reduceReplicate, ← List.map_take, ← List.map_drop]
  · refine Ends.plain rfl rfl ?_
    have : a ≠ b := fun e => by subst e; simp at h
    simp [resV, this]
  have hlen : a.length = b.length := by simp at h; omega
  refine loopI_st (fun k : Nat => a.length - k) (fun k E H => k ≤ a.length ∧ E = [(0, .fsl (a.map intC)), (1, .fsl (b.map intC)), (5, .i .i64 k)] ∧ a.take k = b.take k) 0 ⟨by omega, rfl, rfl⟩ ?_
  rintro k _ H ⟨hk, rfl, hs⟩
  simp -dsimp -implicitDefEqProofs only [qq, Nat.reduceBEq, reduceIte, Nat.reduceAdd, Nat.reduceSub, Nat.reduceLeDiff, Nat.reduceLT, Nat.reduceMul, Nat.reduceEqDiff, Int.reduceEq, Int.reduceBEq, Int.reduceBNe, Int.reduceLT, Int.reduceLE, Int.reduceGT, Int.reduceGE, Int.reduceNeg, Int.reduceAdd, Int.reduceSub, reduceCtorEq, List.reduceReplicate, ← List.map_take, ← List.map_drop]
  refine brG_of (fun hlt => ?_) (fun hge => ?_) <;> simp -dsimp -implicitDefEqProofs only [qq, Nat.reduceBEq, reduceIte, Nat.reduceAdd, Nat.reduceSub, Nat.reduceLeDiff, Nat.reduceLT, Nat.reduceMul, Nat.reduceEqDiff, Int.reduceEq, Int.reduceBEq, Int.reduceBNe, Int.reduceLT, Int.reduceLE, Int.reduceGT, Int.reduceGE, Int.reduceNeg, Int.reduceAdd, Int.reduceSub, reduceCtorEq, List.reduceReplicate, ← List.map_take, ← List.map_drop]
  · have hkl : k < a.length := by simpa using hlt
    obtain ⟨x, hx, hxm, htk, hdk⟩ := next_of hkl
    obtain ⟨y, hy, _, _, _⟩ := next_of (show k < b.length by omega)
    have hwk : IntKind.i64.wrap ((k : Int) + 1) = ((k + 1 : Nat) : Int) := wrap_succ (by omega)
    simp -dsimp -implicitDefEqProofs only [hx, hy, intC, qq, Nat.reduceBEq, reduceIte, Nat.reduceAdd, Nat.reduceSub, Nat.reduceLeDiff, Nat.reduceLT, Nat.reduceMul, Nat.reduceEqDiff, Int.reduceEq, Int.reduceBEq, Int.reduceBNe, Int.reduceLT, Int.reduceLE, Int.reduceGT, Int.reduceGE, Int.reduceNeg, Int.reduceAdd, Int.reduceSub, reduceCtorEq, List.reduceReplicate, ← List.map_take, ← List.map_drop]
    refine brG_of (fun h => ?_) (fun h => ?_) <;> simp -dsimp -implicitDefEqProofs only [hwk, qq, Nat.reduceBEq, reduceIte, Nat.reduceAdd, Nat.reduceSub, Nat.reduceLeDiff, Nat.reduceLT, Nat.reduceMul, Nat.reduceEqDiff, Int.reduceEq, Int.reduceBEq, Int.reduceBNe, Int.reduceLT, Int.reduceLE, Int.reduceGT, Int.reduceGE, Int.reduceNeg, Int.reduceAdd, Int.reduceSub, reduceCtorEq, List.reduceReplicate, ← List.map_take, ← List.map_drop]
    · refine Ends.plain rfl rfl ?_
      have : a ≠ b := fun e => by subst e; rw [hx] at hy; cases hy; simp at h
      simp [resV, this]
    · exact ⟨k + 1, by omega, by omega, rfl, (take_same hs hx hy).2 (by simpa using h)⟩
  · obtain rfl : k = a.length := by simp at hge; omega
    refine Ends.plain rfl rfl ?_
    rw [List.take_length, hlen, List.take_length] at hs
    simp [resV, hs]
end Go.Sh.C3
end
