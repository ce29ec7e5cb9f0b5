/- The calculus over shadows, and contracts: B5B, B5L, ShSp, TryShelfP, S3, ShRw, YthaiheabibapiaaSh. -/
import Derived.Test.YthaiheabibapiaaK4
import Derived.Shelf.SlSortCmp.NoneTotal
import Derived.Shelf.SlLaysF
import Derived.Shelf.SlGeneric
import Derived.Ground.SlsfProg
import Derived.Test.YthaiheabibapiaaProg
import Derived.ProofKit
import Derived.OpenShut
import Derived.SizedLaws
set_option linter.all false
section
namespace Go.Sh.C3
open Go.Sh
set_option maxRecDepth 10000
set_option linter.unusedVariables false
set_option linter.unusedSimpArgs false
variable {P : Program}
def ic_potbankref03_CheckBreak (f0 f1 : Nat) : IC := .seq (.reg [⟨some 2, none, .box (.t 0)⟩, ⟨some 3, none, .box (.t 1)⟩, ⟨some 4, none, .mov (.c (.i .i64 (0)))⟩] [2, 3]) (.seq (.seq (.reg [⟨some 9, none, .ld (some 3) (.t 2)⟩, ⟨some 10, none, .calv (.c (.fn (.func f0) [] [])) [.t 9]⟩, ⟨some 11, none, .bin .neq (.t 10) (.c (.i .i64 (0)))⟩] [2, 3, 11]) (.cond (.t 11) (.seq (.reg [⟨some 4, none, .mov (.c (.i .i64 (31)))⟩] [4]) (.ret)) (.skip))) (.seq (.reg [⟨some 12, none, .fad 2 (.t 2)⟩, ⟨some 13, none, .ld none (.t 12)⟩, ⟨some 5, none, .mov (.t 13)⟩] [3, 5]) (.seq (.seq (.drg [(0, ⟨some 14, none, .fad 0 (.t 3)⟩), (0, ⟨some 15, none, .ld none (.t 14)⟩), (0, ⟨some 16, none, .mov (.t 5)⟩), (0, ⟨some 17, none, .len false (.t 16)⟩), (0, ⟨some 18, none, .bin .sub (.t 17) (.c (.i .i64 (1)))⟩), (0, ⟨some 19, none, .calv (.c (.fn (.func f1) [] [])) [.t 15, .c (.i .i64 (0)), .t 18]⟩), (0, ⟨some 20, none, .un .not (.t 19)⟩), (0, ⟨some 21, none, .mov (.t 20)⟩), (0, ⟨some 22, some (21, false), .fad 2 (.t 3)⟩), (0, ⟨some 23, some (21, false), .ld none (.t 22)⟩), (0, ⟨some 24, some (21, false), .len false (.t 23)⟩), (0, ⟨some 25, some (21, false), .mov (.t 5)⟩), (0, ⟨some 26, some (21, false), .len false (.t 25)⟩), (0, ⟨some 27, some (21, false), .bin .sub (.t 26) (.c (.i .i64 (1)))⟩), (0, ⟨some 28, some (21, false), .fad 0 (.t 3)⟩), (0, ⟨some 29, some (21, false), .ld none (.t 28)⟩), (0, ⟨some 30, some (21, false), .bin .sub (.t 27) (.t 29)⟩), (0, ⟨some 31, some (21, false), .bin .neq (.t 24) (.t 30)⟩), (0, ⟨some 32, none, .pick (.t 21) (.c (.b true)) (.t 31)⟩), (0, ⟨some 33, none, .mov (.t 32)⟩), (0, ⟨some 34, some (33, false), .fad 1 (.t 3)⟩), (0, ⟨some 35, some (33, false), .ld none (.t 34)⟩), (0, ⟨some 36, some (33, false), .mov (.t 5)⟩), (0, ⟨some 37, some (33, false), .fad 0 (.t 3)⟩), (0, ⟨some 38, some (33, false), .ld none (.t 37)⟩), (0, ⟨some 39, some (33, false), .ixs 8 (.t 36) (.t 38)⟩), (0, ⟨some 40, some (33, false), .fad 3 (.t 39)⟩), (0, ⟨some 41, some (33, false), .fad 0 (.t 40)⟩), (0, ⟨some 42, some (33, false), .ld none (.t 41)⟩), (0, ⟨some 43, some (33, false), .mov (.t 5)⟩), (0, ⟨some 44, some (33, false), .fad 0 (.t 3)⟩), (0, ⟨some 45, some (33, false), .ld none (.t 44)⟩), (0, ⟨some 46, some (33, false), .ixs 8 (.t 43) (.t 45)⟩), (0, ⟨some 47, some (33, false), .fad 3 (.t 46)⟩), (0, ⟨some 48, some (33, false), .fad 1 (.t 47)⟩), (0, ⟨some 49, some (33, false), .ld none (.t 48)⟩), (0, ⟨some 50, some (33, false), .calv (.c (.fn (.func f1) [] [])) [.t 35, .t 42, .t 49]⟩), (0, ⟨some 51, some (33, false), .un .not (.t 50)⟩), (0, ⟨some 52, none, .pick (.t 33) (.c (.b true)) (.t 51)⟩)] 36 [3, 5, 52]) (.cond (.t 52) (.seq (.reg [⟨some 4, none, .mov (.c (.i .i64 (35)))⟩] [4]) (.ret)) (.skip))) (.seq (.reg [⟨some 6, none, .mov (.c (.i .i64 (0)))⟩] [3, 5, 6]) (.seq (.seq (.reg [⟨some 7, none, .mov (.c (.i .i64 (0)))⟩] [3, 5, 6, 7]) (.block 0 (.loop (.seq (.seq (.reg [⟨some 53, none, .mov (.t 7)⟩, ⟨some 54, none, .fad 2 (.t 3)⟩, ⟨some 55, none, .ld none (.t 54)⟩, ⟨some 56, none, .len false (.t 55)⟩, ⟨some 57, none, .bin .lss (.t 53) (.t 56)⟩] [3, 5, 6, 7, 57]) (.cond (.t 57) (.skip) (.exit 0))) (.seq (.block 1 (.seq (.reg [⟨some 60, none, .mov (.t 5)⟩, ⟨some 61, none, .fad 0 (.t 3)⟩, ⟨some 62, none, .ld none (.t 61)⟩, ⟨some 63, none, .bin .add (.t 62) (.c (.i .i64 (1)))⟩, ⟨some 64, none, .mov (.t 7)⟩, ⟨some 65, none, .bin .add (.t 63) (.t 64)⟩, ⟨some 66, none, .ixs 8 (.t 60) (.t 65)⟩, ⟨some 67, none, .fad 1 (.t 66)⟩, ⟨some 68, none, .ld (some 2) (.t 67)⟩, ⟨some 8, none, .alloc [.i .i64 (0), .i .i64 (0)]⟩, ⟨none, none, .st 2 (.t 8) (.t 68)⟩] [3, 5, 6, 7, 8]) (.seq (.seq (.drg [(0, ⟨some 69, none, .fad 2 (.t 3)⟩), (0, ⟨some 70, none, .ld none (.t 69)⟩), (0, ⟨some 71, none, .mov (.t 7)⟩), (0, ⟨some 72, none, .ixs 1 (.t 70) (.t 71)⟩), (0, ⟨some 73, none, .ld none (.t 72)⟩), (0, ⟨some 74, none, .fad 0 (.t 8)⟩), (0, ⟨some 75, none, .ld none (.t 74)⟩), (0, ⟨some 76, none, .fad 1 (.t 8)⟩), (0, ⟨some 77, none, .ld none (.t 76)⟩), (0, ⟨some 78, none, .calv (.c (.fn (.func f1) [] [])) [.t 73, .t 75, .t 77]⟩), (0, ⟨some 79, none, .un .not (.t 78)⟩)] 9 [3, 5, 6, 7, 79]) (.cond (.t 79) (.seq (.reg [⟨some 4, none, .mov (.c (.i .i64 (35)))⟩] [4]) (.ret)) (.skip))) (.reg [⟨some 80, none, .mov (.t 6)⟩, ⟨some 81, none, .fad 2 (.t 3)⟩, ⟨some 82, none, .ld none (.t 81)⟩, ⟨some 83, none, .mov (.t 7)⟩, ⟨some 84, none, .ixs 1 (.t 82) (.t 83)⟩, ⟨some 85, none, .ld none (.t 84)⟩, ⟨some 86, none, .bin .add (.t 80) (.t 85)⟩, ⟨some 6, none, .mov (.t 86)⟩] [3, 5, 6, 7])))) (.reg [⟨some 58, none, .mov (.t 7)⟩, ⟨some 59, none, .bin .add (.t 58) (.c (.i .i64 (1)))⟩, ⟨some 7, none, .mov (.t 59)⟩] [3, 5, 6, 7])))))) (.seq (.seq (.reg [⟨some 87, none, .mov (.t 6)⟩, ⟨some 88, none, .fad 1 (.t 3)⟩, ⟨some 89, none, .ld none (.t 88)⟩, ⟨some 90, none, .bin .leq (.t 87) (.t 89)⟩] [90]) (.cond (.t 90) (.seq (.reg [⟨some 4, none, .mov (.c (.i .i64 (35)))⟩] [4]) (.ret)) (.skip))) (.seq (.reg [⟨some 4, none, .mov (.c (.i .i64 (0)))⟩] [4]) (.ret))))))))
abbrev Low_potbankref03_CheckBreak (P : Program) (f f0 f1 : Nat) : Prop := lowF P f = some (91, [.tmp 4], (ic_potbankref03_CheckBreak f0 f1).erase)
def ic_potbankref03_Breaks (f0 f1 : Nat) : IC := .seq (.reg [⟨some 1, none, .box (.t 0)⟩, ⟨some 2, none, .alloc [.i .i64 (0), .i .i64 (0), .nsl]⟩, ⟨some 3, none, .mov (.c (.i .i64 (0)))⟩] [1, 2]) (.seq (.seq (.reg [⟨some 7, none, .ld (some 3) (.t 1)⟩, ⟨some 8, none, .calv (.c (.fn (.func f0) [] [])) [.t 7]⟩, ⟨some 9, none, .bin .neq (.t 8) (.c (.i .i64 (0)))⟩] [1, 2, 9]) (.cond (.t 9) (.seq (.reg [⟨some 10, none, .bld [.i .i64 (0), .i .i64 (0), .nsl] []⟩, ⟨none, none, .st 3 (.t 2) (.t 10)⟩, ⟨some 3, none, .mov (.c (.i .i64 (31)))⟩] [2, 3]) (.ret)) (.skip))) (.seq (.seq (.reg [⟨some 4, none, .mov (.c (.i .i64 (0)))⟩] [1, 2, 4]) (.block 0 (.loop (.seq (.seq (.reg [⟨some 11, none, .mov (.t 4)⟩, ⟨some 12, none, .fad 2 (.t 1)⟩, ⟨some 13, none, .ld none (.t 12)⟩, ⟨some 14, none, .len false (.t 13)⟩, ⟨some 15, none, .bin .lss (.t 11) (.t 14)⟩] [1, 2, 4, 15]) (.cond (.t 15) (.skip) (.exit 0))) (.seq (.block 1 (.seq (.seq (.reg [⟨some 18, none, .fad 2 (.t 1)⟩, ⟨some 19, none, .ld none (.t 18)⟩, ⟨some 20, none, .mov (.t 4)⟩, ⟨some 21, none, .calv (.c (.fn (.func f1) [] [])) [.t 19, .t 20]⟩, ⟨some 22, none, .bin .eql (.t 21) (.c (.i .i64 (1)))⟩] [1, 2, 4, 22]) (.cond (.t 22) (.exit 1) (.skip))) (.seq (.reg [⟨some 23, none, .mov (.t 4)⟩, ⟨some 24, none, .fad 2 (.t 1)⟩, ⟨some 25, none, .ld none (.t 24)⟩, ⟨some 26, none, .mov (.t 4)⟩, ⟨some 27, none, .ixs 8 (.t 25) (.t 26)⟩, ⟨some 28, none, .fad 3 (.t 27)⟩, ⟨some 29, none, .fad 0 (.t 28)⟩, ⟨some 30, none, .ld none (.t 29)⟩, ⟨some 31, none, .bld [.i .i64 (0), .i .i64 (0), .nsl] [(0, 1, (.t 23)), (1, 1, (.t 30))]⟩, ⟨some 5, none, .alloc [.i .i64 (0), .i .i64 (0), .nsl]⟩, ⟨none, none, .st 3 (.t 5) (.t 31)⟩] [1, 2, 4, 5]) (.seq (.seq (.reg [⟨some 32, none, .mov (.t 4)⟩, ⟨some 33, none, .bin .add (.t 32) (.c (.i .i64 (1)))⟩, ⟨some 6, none, .mov (.t 33)⟩] [1, 2, 5, 6]) (.block 2 (.loop (.seq (.seq (.reg [⟨some 34, none, .mov (.t 6)⟩, ⟨some 35, none, .fad 2 (.t 1)⟩, ⟨some 36, none, .ld none (.t 35)⟩, ⟨some 37, none, .len false (.t 36)⟩, ⟨some 38, none, .bin .lss (.t 34) (.t 37)⟩] [1, 2, 5, 6, 38]) (.cond (.t 38) (.skip) (.exit 2))) (.seq (.block 3 (.drg [(0, ⟨some 41, none, .fad 2 (.t 5)⟩), (0, ⟨some 42, none, .ld none (.t 41)⟩), (0, ⟨some 43, none, .fad 2 (.t 1)⟩), (0, ⟨some 44, none, .ld none (.t 43)⟩), (0, ⟨some 45, none, .mov (.t 6)⟩), (0, ⟨some 46, none, .ixs 8 (.t 44) (.t 45)⟩), (0, ⟨some 47, none, .fad 1 (.t 46)⟩), (0, ⟨some 48, none, .fad 1 (.t 47)⟩), (0, ⟨some 49, none, .ld none (.t 48)⟩), (1, ⟨some 50, none, .bsl false 1 1 [.i .i64 (0)] [(0, (.t 49))]⟩), (1, ⟨some 51, none, .app 1 8 (.t 42) (.t 50)⟩), (0, ⟨some 52, none, .fad 2 (.t 5)⟩), (1, ⟨none, none, .st 1 (.t 52) (.t 51)⟩)] 10 [1, 2, 5, 6])) (.reg [⟨some 39, none, .mov (.t 6)⟩, ⟨some 40, none, .bin .add (.t 39) (.c (.i .i64 (1)))⟩, ⟨some 6, none, .mov (.t 40)⟩] [1, 2, 5, 6])))))) (.seq (.reg [⟨some 53, none, .ld (some 3) (.t 5)⟩, ⟨none, none, .st 3 (.t 2) (.t 53)⟩, ⟨some 3, none, .mov (.c (.i .i64 (0)))⟩] [2, 3]) (.ret)))))) (.reg [⟨some 16, none, .mov (.t 4)⟩, ⟨some 17, none, .bin .add (.t 16) (.c (.i .i64 (1)))⟩, ⟨some 4, none, .mov (.t 17)⟩] [1, 2, 4])))))) (.seq (.reg [⟨some 54, none, .bld [.i .i64 (0), .i .i64 (0), .nsl] []⟩, ⟨none, none, .st 3 (.t 2) (.t 54)⟩, ⟨some 3, none, .mov (.c (.i .i64 (34)))⟩] [2, 3]) (.ret))))
abbrev Low_potbankref03_Breaks (P : Program) (f f0 f1 : Nat) : Prop := lowF P f = some (55, [.cell 2 (some 3), .tmp 3], (ic_potbankref03_Breaks f0 f1).erase)

set_option maxHeartbeats 1000000 in
theorem ok_rCheckBreak (hm : P.follows .mixedOrders = true) {f f0 f1 : Nat} (low : Low_potbankref03_CheckBreak P f f0 f1) (h0 : C_Check P f0) (h1 : C_within P f1) : C_CheckBreak P f := by
  intro w l c b ws
  unfold brkC
  refine snd_ic hm low (by simp) ?_
  unfold ic_potbankref03_CheckBreak
  simp -dsimp -implicitDefEqProofs only [qq, Nat.reduceBEq, reduceIte, Nat.reduceAdd, Nat.reduceSub, Nat.reduceLeDiff, Nat.reduceLT, Nat.reduceMul, Nat.reduceEqDiff, Int.reduceEq, Int.reduceBEq, Int.reduceBNe, Int.reduceLT, Int.reduceLE, Int.reduceGT, Int.reduceGE, Int.reduceNeg, Int.reduceAdd, Int.reduceSub, reduceCtorEq, List.reduceReplicate, ← List.map_take, ← List.map_drop]
  refine callI_pure (h0 w l) rfl rfl ?_
  cases hb : bungB w l <;> simp -dsimp -implicitDefEqProofs only [qq, Nat.reduceBEq, reduceIte, Nat.reduceAdd, Nat.reduceSub, Nat.reduceLeDiff, Nat.reduceLT, Nat.reduceMul, Nat.reduceEqDiff, Int.reduceEq, Int.reduceBEq, Int.reduceBNe, Int.reduceLT, Int.reduceLE, Int.reduceGT, Int.reduceGE, Int.reduceNeg, Int.reduceAdd, Int.reduceSub, reduceCtorEq, List.reduceReplicate, ← List.map_take, ← List.map_drop]
  · exact Ends.plain rfl rfl (by simp [resV])
  have hv := bung_list hb
  have hlen := list_len hv
  have w0 : IntKind.i64.wrap ((l.length : Int) - 1) = (l.length : Int) - 1 := wrap_id (by omega) (by omega)
  simp -dsimp -implicitDefEqProofs only [bungC, Rg.c, w0, qq, Nat.reduceBEq, reduceIte, Nat.reduceAdd, Nat.reduceSub, Nat.reduceLeDiff, Nat.reduceLT, Nat.reduceMul, Nat.reduceEqDiff, Int.reduceEq, Int.reduceBEq, Int.reduceBNe, Int.reduceLT, Int.reduceLE, Int.reduceGT, Int.reduceGE, Int.reduceNeg, Int.reduceAdd, Int.reduceSub, reduceCtorEq, List.reduceReplicate, ← List.map_take, ← List.map_drop]
  refine callI_pure (h1 c 0 _) rfl rfl ?_
  cases hc : inR c 0 ((l.length : Int) - 1)
  · simp -dsimp -implicitDefEqProofs only [qq, Nat.reduceBEq, reduceIte, Nat.reduceAdd, Nat.reduceSub, Nat.reduceLeDiff, Nat.reduceLT, Nat.reduceMul, Nat.reduceEqDiff, Int.reduceEq, Int.reduceBEq, Int.reduceBNe, Int.reduceLT, Int.reduceLE, Int.reduceGT, Int.reduceGE, Int.reduceNeg, Int.reduceAdd, Int.reduceSub, reduceCtorEq, List.reduceReplicate, ← List.map_take, ← List.map_drop]
    exact Ends.plain rfl rfl (by simp [resV, brkB, hc])
  have hcb : 0 ≤ c ∧ c < l.length := by simp [inR] at hc; omega
  obtain ⟨x, hx, hxm, _, _⟩ := next_of (show c.toNat < l.length by omega)
  obtain ⟨n, rfl⟩ : ∃ n : Nat, c = n := ⟨c.toNat, by omega⟩
  have wk : IntKind.i64.wrap ((n : Int) + 1) = ((n + 1 : Nat) : Int) := wrap_succ (by omega)
  have w1 : IntKind.i64.wrap ((l.length : Int) - 1 - n) = ((l.drop (n + 1)).length : Int) := by rw [wrap_id (by omega) (by omega), List.length_drop]; omega
  have hdl : (l.drop (n + 1)).length ≤ 30 := by rw [List.length_drop]; omega
  rw [Int.toNat_natCast] at hx
  by_cases hlw : ¬ ws.length = (l.drop (n + 1)).length
  · have hne : (((ws.length : Nat) : Int) != ((l.drop (n + 1)).length : Int)) = true := by rw [bne_iff_ne]; omega
    simp -dsimp -implicitDefEqProofs only [hx, Sag.c, wk, w0, w1, hne, qq, Nat.reduceBEq, reduceIte, Nat.reduceAdd, Nat.reduceSub, Nat.reduceLeDiff, Nat.reduceLT, Nat.reduceMul, Nat.reduceEqDiff, Int.reduceEq, Int.reduceBEq, Int.reduceBNe, Int.reduceLT, Int.reduceLE, Int.reduceGT, Int.reduceGE, Int.reduceNeg, Int.reduceAdd, Int.reduceSub, reduceCtorEq, List.reduceReplicate, ← List.map_take, ← List.map_drop]
    refine Ends.plain rfl rfl ?_
    have : (ws.length == (l.drop (n + 1)).length) = false := beq_eq_false_iff_ne.2 hlw
    simp only [resV, brkB, Int.toNat_natCast, hx, this, Bool.false_and, Bool.and_false]
    simp
  have hlw : ws.length = (l.drop (n + 1)).length := Decidable.not_not.1 hlw
  have hne : (((ws.length : Nat) : Int) != ((l.drop (n + 1)).length : Int)) = false := by rw [hlw]; exact bne_self_eq_false _
  simp -dsimp -implicitDefEqProofs only [hx, Sag.c, wk, w0, w1, hne, qq, Nat.reduceBEq, reduceIte, Nat.reduceAdd, Nat.reduceSub, Nat.reduceLeDiff, Nat.reduceLT, Nat.reduceMul, Nat.reduceEqDiff, Int.reduceEq, Int.reduceBEq, Int.reduceBNe, Int.reduceLT, Int.reduceLE, Int.reduceGT, Int.reduceGE, Int.reduceNeg, Int.reduceAdd, Int.reduceSub, reduceCtorEq, List.reduceReplicate, ← List.map_take, ← List.map_drop]
  refine callI_pure (h1 b x.b.lo x.b.hi) rfl rfl ?_
  cases hbb : inR b x.b.lo x.b.hi <;> simp -dsimp -implicitDefEqProofs only [qq, Nat.reduceBEq, reduceIte, Nat.reduceAdd, Nat.reduceSub, Nat.reduceLeDiff, Nat.reduceLT, Nat.reduceMul, Nat.reduceEqDiff, Int.reduceEq, Int.reduceBEq, Int.reduceBNe, Int.reduceLT, Int.reduceLE, Int.reduceGT, Int.reduceGE, Int.reduceNeg, Int.reduceAdd, Int.reduceSub, reduceCtorEq, List.reduceReplicate, ← List.map_take, ← List.map_drop]
  · exact Ends.plain rfl rfl (by simp [resV, brkB, hx, hbb])
  refine loopI_st (fun k : Nat => ws.length - k) (fun k E H => k ≤ ws.length ∧ 2 ≤ H.length ∧ wB ws (l.drop (n + 1)) k = true ∧ 0 ≤ (ws.take k).sum ∧ (ws.take k).sum ≤ 1000000000 * k ∧ E = [(3, .rpt 1 3 0 0), (5, .fsl (l.map Sag.c)), (6, .i .i64 (ws.take k).sum), (7, .i .i64 k)] ∧ H[1]? = some (.row 3 [[.i .i64 n, .i .i64 b, .fsl (ws.map intC)]])) 0 ⟨by omega, by simp, by simp [wB], by simp, by simp, by simp, rfl⟩ ?_
  rintro k _ H ⟨hk, hH, hw, hs0, hs1, rfl, g1⟩
  simp -dsimp -implicitDefEqProofs only [g1, qq, Nat.reduceBEq, reduceIte, Nat.reduceAdd, Nat.reduceSub, Nat.reduceLeDiff, Nat.reduceLT, Nat.reduceMul, Nat.reduceEqDiff, Int.reduceEq, Int.reduceBEq, Int.reduceBNe, Int.reduceLT, Int.reduceLE, Int.reduceGT, Int.reduceGE, Int.reduceNeg, Int.reduceAdd, Int.reduceSub, reduceCtorEq, List.reduceReplicate, ← List.map_take, ← List.map_drop]
  refine brG_of (fun hlt => ?_) (fun hge => ?_) <;> simp -dsimp -implicitDefEqProofs only [qq, Nat.reduceBEq, reduceIte, Nat.reduceAdd, Nat.reduceSub, Nat.reduceLeDiff, Nat.reduceLT, Nat.reduceMul, Nat.reduceEqDiff, Int.reduceEq, Int.reduceBEq, Int.reduceBNe, Int.reduceLT, Int.reduceLE, Int.reduceGT, Int.reduceGE, Int.reduceNeg, Int.reduceAdd, Int.reduceSub, reduceCtorEq, List.reduceReplicate, ← List.map_take, ← List.map_drop]
  · have hkl : k < ws.length := by simpa using hlt
    obtain ⟨m, hm1, _, htk, _⟩ := next_of hkl
    obtain ⟨s, hss, hsm, _, _⟩ := next_of (show k < (l.drop (n + 1)).length by omega)
    have hwk : IntKind.i64.wrap ((k : Int) + 1) = ((k + 1 : Nat) : Int) := wrap_succ (by omega)
    have hat : wAt ws (l.drop (n + 1)) k = inR m s.w.lo s.w.hi := by simp only [wAt, hm1, hss]
    have wnk : IntKind.i64.wrap (((n + 1 : Nat) : Int) + (k : Int)) = ((n + 1 + k : Nat) : Int) := by rw [wrap_id (by omega) (by omega)]; omega
    have hss2 : l[n + (1 + k)]? = some s := by rw [← hss, List.getElem?_drop]; congr 1; omega
    have g2 : ∀ m, (H ++ m)[1]? = some (.row 3 [[.i .i64 n, .i .i64 b, .fsl (ws.map intC)]]) := fun m => get_app g1 m
    simp -dsimp -implicitDefEqProofs only [g1, g2, wk, wnk, hss2, Sag.c, hm1, intC, qq, Nat.reduceBEq, reduceIte, Nat.reduceAdd, Nat.reduceSub, Nat.reduceLeDiff, Nat.reduceLT, Nat.reduceMul, Nat.reduceEqDiff, Int.reduceEq, Int.reduceBEq, Int.reduceBNe, Int.reduceLT, Int.reduceLE, Int.reduceGT, Int.reduceGE, Int.reduceNeg, Int.reduceAdd, Int.reduceSub, reduceCtorEq, List.reduceReplicate, ← List.map_take, ← List.map_drop]
    refine callI_pure (h1 m s.w.lo s.w.hi) rfl rfl ?_
    cases hr : inR m s.w.lo s.w.hi
    · simp -dsimp -implicitDefEqProofs only [qq, Nat.reduceBEq, reduceIte, Nat.reduceAdd, Nat.reduceSub, Nat.reduceLeDiff, Nat.reduceLT, Nat.reduceMul, Nat.reduceEqDiff, Int.reduceEq, Int.reduceBEq, Int.reduceBNe, Int.reduceLT, Int.reduceLE, Int.reduceGT, Int.reduceGE, Int.reduceNeg, Int.reduceAdd, Int.reduceSub, reduceCtorEq, List.reduceReplicate, ← List.map_take, ← List.map_drop]
      refine Ends.plain rfl rfl ?_
      simp only [resV, brkB, Int.toNat_natCast, hx, wB_false hkl (hat.trans hr), Bool.false_and, Bool.and_false]
      simp
    · have hsag : sagB s = true := by simp [listB] at hv; exact hv.1.2 s (List.mem_of_mem_drop hsm)
      have hm2 : 0 ≤ m ∧ m ≤ 1000000000 := by simp [sagB, rgB, inR] at hsag hr; omega
      have hsum : (ws.take (k + 1)).sum = (ws.take k).sum + m := by rw [htk]; simp
      have hwm : IntKind.i64.wrap ((ws.take k).sum + m) = (ws.take k).sum + m := wrap_id (by omega) (by omega)
      simp -dsimp -implicitDefEqProofs only [g2, hm1, intC, hwm, hwk, qq, Nat.reduceBEq, reduceIte, Nat.reduceAdd, Nat.reduceSub, Nat.reduceLeDiff, Nat.reduceLT, Nat.reduceMul, Nat.reduceEqDiff, Int.reduceEq, Int.reduceBEq, Int.reduceBNe, Int.reduceLT, Int.reduceLE, Int.reduceGT, Int.reduceGE, Int.reduceNeg, Int.reduceAdd, Int.reduceSub, reduceCtorEq, List.reduceReplicate, ← List.map_take, ← List.map_drop]
      exact ⟨k + 1, by omega, by omega, by omega, by rw [wB_succ, hw, hat, hr]; rfl, by omega, by rw [hsum]; omega, by rw [hsum]⟩
  · obtain rfl : k = ws.length := by simp at hge; omega
    rw [List.take_length]
    simp -dsimp -implicitDefEqProofs only [g1, qq, Nat.reduceBEq, reduceIte, Nat.reduceAdd, Nat.reduceSub, Nat.reduceLeDiff, Nat.reduceLT, Nat.reduceMul, Nat.reduceEqDiff, Int.reduceEq, Int.reduceBEq, Int.reduceBNe, Int.reduceLT, Int.reduceLE, Int.reduceGT, Int.reduceGE, Int.reduceNeg, Int.reduceAdd, Int.reduceSub, reduceCtorEq, List.reduceReplicate, ← List.map_take, ← List.map_drop]
    have hbrk : brkB l n b ws = decide (b < ws.sum) := by simp only [brkB, Int.toNat_natCast, hx, hbb, hw, hc]; simp [hlw]
    rw [hbrk]
    refine brG_of (fun he => ?_) (fun he => ?_) <;> simp -dsimp -implicitDefEqProofs only [qq, Nat.reduceBEq, reduceIte, Nat.reduceAdd, Nat.reduceSub, Nat.reduceLeDiff, Nat.reduceLT, Nat.reduceMul, Nat.reduceEqDiff, Int.reduceEq, Int.reduceBEq, Int.reduceBNe, Int.reduceLT, Int.reduceLE, Int.reduceGT, Int.reduceGE, Int.reduceNeg, Int.reduceAdd, Int.reduceSub, reduceCtorEq, List.reduceReplicate, ← List.map_take, ← List.map_drop]
    · exact Ends.plain rfl rfl (by simp only [resV, decide_eq_true_eq] at he ⊢; simp; omega)
    · exact Ends.plain rfl rfl (by simp only [resV, decide_eq_false_iff_not] at he ⊢; simp; omega)

set_option maxHeartbeats 2000000 in
theorem ok_rBreaks (hm : P.follows .mixedOrders = true) {f f0 f1 : Nat} (low : Low_potbankref03_Breaks P f f0 f1) (h0 : C_Check P f0) (h1 : C_ranswer P f1) : C_Breaks P f := by
  intro w l
  refine snd_ic hm low (by simp) ?_
  unfold ic_potbankref03_Breaks
  simp -dsimp -implicitDefEqProofs only [qq, Nat.reduceBEq, reduceIte, Nat.reduceAdd, Nat.reduceSub, Nat.reduceLeDiff, Nat.reduceLT, Nat.reduceMul, Nat.reduceEqDiff, Int.reduceEq, Int.reduceBEq, Int.reduceBNe, Int.reduceLT, Int.reduceLE, Int.reduceGT, Int.reduceGE, Int.reduceNeg, Int.reduceAdd, Int.reduceSub, reduceCtorEq, List.reduceReplicate, ← List.map_take, ← List.map_drop]
  refine callI_pure (h0 w l) rfl rfl ?_
  cases hb : bungB w l <;> simp -dsimp -implicitDefEqProofs only [qq, Nat.reduceBEq, reduceIte, Nat.reduceAdd, Nat.reduceSub, Nat.reduceLeDiff, Nat.reduceLT, Nat.reduceMul, Nat.reduceEqDiff, Int.reduceEq, Int.reduceBEq, Int.reduceBNe, Int.reduceLT, Int.reduceLE, Int.reduceGT, Int.reduceGE, Int.reduceNeg, Int.reduceAdd, Int.reduceSub, reduceCtorEq, List.reduceReplicate, ← List.map_take, ← List.map_drop]
  · exact Ends.ret rfl (frz2 frz_brk0 (.keep _ rfl))
  have hv := bung_list hb
  have hlen := list_len hv
  have hcl := coursesS_length l
  refine loopI_st (fun k : Nat => l.length - k) (fun k E H => k ≤ l.length ∧ ((coursesS l).take k).findIdx? (· != 1) = none ∧ E = [(1, .rpt 0 3 0 0), (2, .rpt 1 3 0 0), (4, .i .i64 k)] ∧ H = [.row 3 [bungC w l], .row 3 [[.i .i64 0, .i .i64 0, .nsl]]]) 0 ⟨by omega, by simp, rfl, rfl⟩ ?_
  rintro k _ _ ⟨hk, hn, rfl, rfl⟩
  rcases Nat.lt_or_ge k l.length with hkl | hkl
  · have hc : decide ((k : Int) < (l.length : Int)) = true := by simpa using hkl
    obtain ⟨s, hs, hsm, _, _⟩ := next_of hkl
    have hcg := coursesS_at hs
    have hwk : IntKind.i64.wrap ((k : Int) + 1) = ((k + 1 : Nat) : Int) := wrap_succ (by omega)
    have hdr : (coursesS l).drop k = answerS (wOf (l.drop (k + 1))) s.b :: (coursesS l).drop (k + 1) := by
      obtain ⟨y, hy, _, _, hd⟩ := next_of (show k < (coursesS l).length by omega)
      rw [hcg] at hy; cases hy; exact hd
    have htk : (coursesS l).take (k + 1) = (coursesS l).take k ++ [answerS (wOf (l.drop (k + 1))) s.b] := by rw [List.take_add_one, hcg]; rfl
    simp -dsimp -implicitDefEqProofs only [hc, qq, Nat.reduceBEq, reduceIte, Nat.reduceAdd, Nat.reduceSub, Nat.reduceLeDiff, Nat.reduceLT, Nat.reduceMul, Nat.reduceEqDiff, Int.reduceEq, Int.reduceBEq, Int.reduceBNe, Int.reduceLT, Int.reduceLE, Int.reduceGT, Int.reduceGE, Int.reduceNeg, Int.reduceAdd, Int.reduceSub, reduceCtorEq, List.reduceReplicate, ← List.map_take, ← List.map_drop]
    refine callI_pure (h1 l k s hv hs) rfl rfl ?_
    cases h0 : (answerS (wOf (l.drop (k + 1))) s.b == 1)
    · simp -dsimp -implicitDefEqProofs only [h0, hs, Sag.c, qq, Nat.reduceBEq, reduceIte, Nat.reduceAdd, Nat.reduceSub, Nat.reduceLeDiff, Nat.reduceLT, Nat.reduceMul, Nat.reduceEqDiff, Int.reduceEq, Int.reduceBEq, Int.reduceBNe, Int.reduceLT, Int.reduceLE, Int.reduceGT, Int.reduceGE, Int.reduceNeg, Int.reduceAdd, Int.reduceSub, reduceCtorEq, List.reduceReplicate, ← List.map_take, ← List.map_drop]
      have hba : brkAt l = some k := by
        unfold brkAt
        rw [← List.take_append_drop k (coursesS l), List.findIdx?_append, hn, hdr, List.findIdx?_cons]
        have : (answerS (wOf (l.drop (k + 1))) s.b != 1) = true := by rw [bne, h0]; rfl
        simp [this, hcl]; omega
      refine loopI_st (fun j : Nat => l.length - j) (fun j E H => k < j ∧ j ≤ l.length ∧ 3 ≤ H.length ∧ H[0]? = some (.row 3 [bungC w l]) ∧ H[1]? = some (.row 3 [[.i .i64 0, .i .i64 0, .nsl]]) ∧ ∃ v, E = [(1, .rpt 0 3 0 0), (2, .rpt 1 3 0 0), (5, .rpt 2 3 0 0), (6, .i .i64 j)] ∧ H[2]? = some (.row 3 [[.i .i64 k, .i .i64 s.b.lo, v]]) ∧ OwnF 3 H 1 (((((l.take j).drop (k + 1))).map fun s => s.w.hi).map intC) v) (k + 1) ⟨by omega, by omega, by simp, rfl, rfl, .nsl, by rw [hwk], rfl, by rw [List.drop_eq_nil_of_le (by simp; omega)]; exact .nil _ _ _⟩ ?_
      rintro j _ H ⟨hkj, hj, hH, g0, g1, v, rfl, g2, ho⟩
      rcases Nat.lt_or_ge j l.length with hjl | hjl
      · have hc : decide ((j : Int) < (l.length : Int)) = true := by simpa using hjl
        obtain ⟨x, hx2, hxm, htk2, _⟩ := next_of hjl
        have hwj : IntKind.i64.wrap ((j : Int) + 1) = ((j + 1 : Nat) : Int) := wrap_succ (by omega)
        have htl : ((l.take j).drop (k + 1)).length ≤ 30 := by simp; omega
        have hdt : (l.take (j + 1)).drop (k + 1) = (l.take j).drop (k + 1) ++ [x] := by rw [htk2, List.drop_append_of_le_length (by simp; omega)]
        simp -dsimp -implicitDefEqProofs only [hc, hx2, Sag.c, g0, g2, bungC, Rg.c, qq, Nat.reduceBEq, reduceIte, Nat.reduceAdd, Nat.reduceSub, Nat.reduceLeDiff, Nat.reduceLT, Nat.reduceMul, Nat.reduceEqDiff, Int.reduceEq, Int.reduceBEq, Int.reduceBNe, Int.reduceLT, Int.reduceLE, Int.reduceGT, Int.reduceGE, Int.reduceNeg, Int.reduceAdd, Int.reduceSub, reduceCtorEq, List.reduceReplicate, ← List.map_take, ← List.map_drop]
        refine app_ownF (ys := [[.i .i64 x.w.hi]]) ho (by omega) (by decide) (by decide) (by simp [Sh.shown, gapp]) (by simp [V.one]) (by simp only [List.length_map, List.length_cons, List.length_nil]; omega) fun v' H' ho' hH' hk' => ?_
        have e0 := hk' 0 _ (.inl (by omega)) (get_app g0 _)
        have e1 := hk' 1 _ (.inl (by omega)) (get_app g1 _)
        have e2 := hk' 2 _ (.inl (by omega)) (get_app g2 _)
        simp at hH'
        rcases ho'.own with ⟨h, _⟩ | ⟨p, c, e, rfl, _⟩
        · simp at h
        have ho2 := fun b => ho'.set (p := 2) (by omega) b
        generalize ((((l.take j).drop (k + 1)).map fun s => s.w.hi).map intC ++ [[V.i .i64 x.w.hi]]).length = len at ho2
        simp -dsimp -implicitDefEqProofs only [e2, hwj, qq, Nat.reduceBEq, reduceIte, Nat.reduceAdd, Nat.reduceSub, Nat.reduceLeDiff, Nat.reduceLT, Nat.reduceMul, Nat.reduceEqDiff, Int.reduceEq, Int.reduceBEq, Int.reduceBNe, Int.reduceLT, Int.reduceLE, Int.reduceGT, Int.reduceGE, Int.reduceNeg, Int.reduceAdd, Int.reduceSub, reduceCtorEq, List.reduceReplicate, ← List.map_take, ← List.map_drop]
        refine ⟨j + 1, by omega, by omega, by omega, by rw [List.length_set]; omega, get_setne e0 (by omega), get_setne e1 (by omega), rfl, _, get_setsame e2, ?_⟩
        rw [hdt]
        simpa [intC] using ho2 _
      · have hc : decide ((j : Int) < (l.length : Int)) = false := by simp; omega
        obtain rfl : j = l.length := by omega
        rw [List.take_length] at ho
        simp -dsimp -implicitDefEqProofs only [hc, g0, g2, g1, bungC, Rg.c, qq, Nat.reduceBEq, reduceIte, Nat.reduceAdd, Nat.reduceSub, Nat.reduceLeDiff, Nat.reduceLT, Nat.reduceMul, Nat.reduceEqDiff, Int.reduceEq, Int.reduceBEq, Int.reduceBNe, Int.reduceLT, Int.reduceLE, Int.reduceGT, Int.reduceGE, Int.reduceNeg, Int.reduceAdd, Int.reduceSub, reduceCtorEq, List.reduceReplicate, ← List.map_take, ← List.map_drop]
        have hfr := fun b => (ho.set (p := 1) (by omega) b).own.frz (by intro row hr; obtain ⟨n, _, rfl⟩ := List.mem_map.1 hr; rfl)
        have hz : ∀ B, Frz 0 (H.set 1 B) (.agg [.i .i64 k, .i .i64 s.b.lo, v]) (.agg (brkC k s.b.lo ((l.drop (k + 1)).map fun s => s.w.hi))) := fun B => .agg _ _ rfl fun j u u' a1 a2 => by
          match j with
          | 0 => simp [brkC] at a1 a2; subst a1 a2; exact .keep _ rfl
          | 1 => simp [brkC] at a1 a2; subst a1 a2; exact .keep _ rfl
          | 2 =>
            have := hfr B
            simp only [brkC, List.getElem?_cons_succ, List.getElem?_cons_zero, Option.some.injEq] at a1 a2
            subst a1 a2; exact this
          | j + 3 => simp at a1
        refine ⟨by rcases ho.own with ⟨_, rfl⟩ | ⟨p, c, e, rfl, _⟩ <;> rfl, ?_⟩
        refine Ends.ret (vs := [.agg [.i .i64 k, .i .i64 s.b.lo, v], .i .i64 0]) ?_ ?_
        · have hq : (H.set 1 (Blk.row 3 [[.i .i64 k, .i .i64 s.b.lo, v]]))[1]? = some (.row 3 [[.i .i64 k, .i .i64 s.b.lo, v]]) := get_setsame g1
          simp [resIs, resI1, Sh.get, hq, ldRow]
        · simp only [brkV, hba, hs]
          exact frz2 (hz _) (.keep _ rfl)
    · simp -dsimp -implicitDefEqProofs only [h0, hwk, qq, Nat.reduceBEq, reduceIte, Nat.reduceAdd, Nat.reduceSub, Nat.reduceLeDiff, Nat.reduceLT, Nat.reduceMul, Nat.reduceEqDiff, Int.reduceEq, Int.reduceBEq, Int.reduceBNe, Int.reduceLT, Int.reduceLE, Int.reduceGT, Int.reduceGE, Int.reduceNeg, Int.reduceAdd, Int.reduceSub, reduceCtorEq, List.reduceReplicate, ← List.map_take, ← List.map_drop]
      refine ⟨k + 1, by omega, by omega, ?_, rfl⟩
      rw [htk, List.findIdx?_append, hn]
      simpa using h0
  · have hc : decide ((k : Int) < (l.length : Int)) = false := by simp; omega
    obtain rfl : k = l.length := by omega
    rw [List.take_of_length_le (by omega)] at hn
    simp -dsimp -implicitDefEqProofs only [hc, qq, Nat.reduceBEq, reduceIte, Nat.reduceAdd, Nat.reduceSub, Nat.reduceLeDiff, Nat.reduceLT, Nat.reduceMul, Nat.reduceEqDiff, Int.reduceEq, Int.reduceBEq, Int.reduceBNe, Int.reduceLT, Int.reduceLE, Int.reduceGT, Int.reduceGE, Int.reduceNeg, Int.reduceAdd, Int.reduceSub, reduceCtorEq, List.reduceReplicate, ← List.map_take, ← List.map_drop]
    refine Ends.ret rfl ?_
    have hb0 : brkAt l = none := hn
    simp only [brkV, hb0]
    exact frz2 frz_brk0 (.keep _ rfl)
end Go.Sh.C3
end
section
namespace Go.Sh.C3
open Go.Sh
set_option maxRecDepth 10000
set_option linter.unusedVariables false
set_option linter.unusedSimpArgs false
variable {P : Program}
def ic_potbanklaw03_BungRules (f0 f1 f2 f3 f4 f5 : Nat) : IC := .seq (.reg [⟨some 2, none, .mov (.c (.b false))⟩] [0]) (.seq (.reg [⟨some 13, none, .calv (.c (.fn (.func f0) [] [])) []⟩, ⟨some 3, none, .mov (.t 13)⟩] [0, 3]) (.seq (.reg [⟨some 15, none, .mov (.t 0)⟩, ⟨some 16, none, .calv (.c (.fn (.func f1) [] [])) [.t 15]⟩, ⟨some 14, none, .mov (.t 16)⟩, ⟨some 17, none, .ext (.t 14) 0⟩, ⟨some 18, none, .ext (.t 14) 1⟩, ⟨some 4, none, .mov (.t 17)⟩, ⟨some 5, none, .mov (.t 18)⟩] [0, 3, 4, 5]) (.seq (.reg [⟨some 20, none, .mov (.t 0)⟩, ⟨some 21, none, .calv (.c (.fn (.func f2) [] [])) [.t 20]⟩, ⟨some 19, none, .mov (.t 21)⟩, ⟨some 22, none, .ext (.t 19) 0⟩, ⟨some 23, none, .ext (.t 19) 1⟩, ⟨some 6, none, .mov (.t 22)⟩, ⟨some 7, none, .mov (.t 23)⟩] [0, 3, 4, 5, 6, 7]) (.seq (.reg [⟨some 25, none, .mov (.t 0)⟩, ⟨some 26, none, .calv (.c (.fn (.func f3) [] [])) [.t 25]⟩, ⟨some 24, none, .mov (.t 26)⟩, ⟨some 27, none, .ext (.t 24) 0⟩, ⟨some 28, none, .ext (.t 24) 1⟩, ⟨some 8, none, .mov (.t 27)⟩, ⟨some 9, none, .mov (.t 28)⟩] [0, 3, 4, 5, 6, 7, 8, 9]) (.seq (.reg [⟨some 30, none, .mov (.t 0)⟩, ⟨some 31, none, .calv (.c (.fn (.func f4) [] [])) [.t 30]⟩, ⟨some 29, none, .mov (.t 31)⟩, ⟨some 32, none, .ext (.t 29) 0⟩, ⟨some 33, none, .ext (.t 29) 1⟩, ⟨some 10, none, .mov (.t 32)⟩, ⟨some 11, none, .mov (.t 33)⟩] [3, 4, 5, 6, 7, 8, 9, 10, 11]) (.seq (.reg [⟨some 34, none, .mov (.t 4)⟩, ⟨some 35, none, .mov (.t 6)⟩, ⟨some 36, none, .calv (.c (.fn (.func f5) [] [])) [.t 34, .t 35]⟩, ⟨some 12, none, .mov (.t 36)⟩] [3, 5, 7, 8, 9, 10, 11, 12]) (.seq (.reg [⟨some 37, none, .mov (.t 3)⟩, ⟨some 38, none, .mov (.t 37)⟩, ⟨some 39, some (38, true), .mov (.t 12)⟩, ⟨some 40, none, .pick (.t 38) (.t 39) (.c (.b false))⟩, ⟨some 41, none, .mov (.t 40)⟩, ⟨some 42, some (41, true), .mov (.t 5)⟩, ⟨some 43, some (41, true), .mov (.t 7)⟩, ⟨some 44, some (41, true), .bin .eql (.t 42) (.t 43)⟩, ⟨some 45, none, .pick (.t 41) (.t 44) (.c (.b false))⟩, ⟨some 46, none, .mov (.t 45)⟩, ⟨some 47, some (46, true), .mov (.t 8)⟩, ⟨some 48, some (46, true), .mov (.t 10)⟩, ⟨some 49, some (46, true), .eqb 0 false (.t 47) (.t 48)⟩, ⟨some 50, none, .pick (.t 46) (.t 49) (.c (.b false))⟩, ⟨some 51, none, .mov (.t 50)⟩, ⟨some 52, some (51, true), .mov (.t 9)⟩, ⟨some 53, some (51, true), .mov (.t 11)⟩, ⟨some 54, some (51, true), .bin .eql (.t 52) (.t 53)⟩, ⟨some 55, none, .pick (.t 51) (.t 54) (.c (.b false))⟩, ⟨some 2, none, .mov (.t 55)⟩] [2]) (.ret))))))))
abbrev Low_potbanklaw03_BungRules (P : Program) (f f0 f1 f2 f3 f4 f5 : Nat) : Prop := lowF P f = some (56, [.tmp 2], (ic_potbanklaw03_BungRules f0 f1 f2 f3 f4 f5).erase)
def ic_potbanklaw03_BungBreaks (f0 f1 f2 f3 f4 f5 : Nat) : IC := .seq (.reg [⟨some 2, none, .box (.t 0)⟩, ⟨some 3, none, .box (.t 1)⟩, ⟨some 4, none, .mov (.c (.b false))⟩] [2, 3]) (.seq (.reg [⟨some 11, none, .calv (.c (.fn (.func f0) [] [])) []⟩, ⟨some 5, none, .mov (.t 11)⟩] [2, 3, 5]) (.seq (.reg [⟨some 13, none, .ld (some 3) (.t 2)⟩, ⟨some 14, none, .calv (.c (.fn (.func f1) [] [])) [.t 13]⟩, ⟨some 12, none, .mov (.t 14)⟩, ⟨some 15, none, .ext (.t 12) 0⟩, ⟨some 16, none, .ext (.t 12) 1⟩, ⟨some 6, none, .alloc [.i .i64 (0), .i .i64 (0), .nsl]⟩, ⟨none, none, .st 3 (.t 6) (.t 15)⟩, ⟨some 7, none, .mov (.t 16)⟩] [2, 3, 5, 6, 7]) (.seq (.reg [⟨some 18, none, .ld (some 3) (.t 2)⟩, ⟨some 19, none, .calv (.c (.fn (.func f2) [] [])) [.t 18]⟩, ⟨some 17, none, .mov (.t 19)⟩, ⟨some 20, none, .ext (.t 17) 0⟩, ⟨some 21, none, .ext (.t 17) 1⟩, ⟨some 8, none, .alloc [.i .i64 (0), .i .i64 (0), .nsl]⟩, ⟨none, none, .st 3 (.t 8) (.t 20)⟩, ⟨some 9, none, .mov (.t 21)⟩] [2, 3, 5, 6, 7, 8, 9]) (.seq (.reg [⟨some 22, none, .fad 2 (.t 6)⟩, ⟨some 23, none, .ld none (.t 22)⟩, ⟨some 24, none, .fad 2 (.t 8)⟩, ⟨some 25, none, .ld none (.t 24)⟩, ⟨some 26, none, .calv (.c (.fn (.func f3) [] [])) [.t 23, .t 25]⟩, ⟨some 10, none, .mov (.t 26)⟩] [2, 3, 5, 6, 7, 8, 9, 10]) (.seq (.drg [(0, ⟨some 27, none, .mov (.t 5)⟩), (0, ⟨some 28, none, .mov (.t 27)⟩), (0, ⟨some 29, some (28, true), .mov (.t 10)⟩), (0, ⟨some 30, none, .pick (.t 28) (.t 29) (.c (.b false))⟩), (0, ⟨some 31, none, .mov (.t 30)⟩), (0, ⟨some 32, some (31, true), .fad 0 (.t 6)⟩), (0, ⟨some 33, some (31, true), .ld none (.t 32)⟩), (0, ⟨some 34, some (31, true), .fad 0 (.t 8)⟩), (0, ⟨some 35, some (31, true), .ld none (.t 34)⟩), (0, ⟨some 36, some (31, true), .bin .eql (.t 33) (.t 35)⟩), (0, ⟨some 37, none, .pick (.t 31) (.t 36) (.c (.b false))⟩), (0, ⟨some 38, none, .mov (.t 37)⟩), (0, ⟨some 39, some (38, true), .fad 1 (.t 6)⟩), (0, ⟨some 40, some (38, true), .ld none (.t 39)⟩), (0, ⟨some 41, some (38, true), .fad 1 (.t 8)⟩), (0, ⟨some 42, some (38, true), .ld none (.t 41)⟩), (0, ⟨some 43, some (38, true), .bin .eql (.t 40) (.t 42)⟩), (0, ⟨some 44, none, .pick (.t 38) (.t 43) (.c (.b false))⟩), (0, ⟨some 45, none, .mov (.t 44)⟩), (0, ⟨some 46, some (45, true), .mov (.t 7)⟩), (0, ⟨some 47, some (45, true), .mov (.t 9)⟩), (0, ⟨some 48, some (45, true), .bin .eql (.t 46) (.t 47)⟩), (0, ⟨some 49, none, .pick (.t 45) (.t 48) (.c (.b false))⟩), (0, ⟨some 50, none, .mov (.t 49)⟩), (0, ⟨some 51, some (50, true), .ld (some 3) (.t 2)⟩), (0, ⟨some 52, some (50, true), .ld (some 3) (.t 3)⟩), (0, ⟨some 53, some (50, true), .calv (.c (.fn (.func f4) [] [])) [.t 51, .t 52]⟩), (0, ⟨some 54, some (50, true), .ld (some 3) (.t 2)⟩), (0, ⟨some 55, some (50, true), .ld (some 3) (.t 3)⟩), (0, ⟨some 56, some (50, true), .calv (.c (.fn (.func f5) [] [])) [.t 54, .t 55]⟩), (0, ⟨some 57, some (50, true), .bin .eql (.t 53) (.t 56)⟩), (0, ⟨some 58, none, .pick (.t 50) (.t 57) (.c (.b false))⟩), (0, ⟨some 4, none, .mov (.t 58)⟩)] 29 [4]) (.ret))))))
abbrev Low_potbanklaw03_BungBreaks (P : Program) (f f0 f1 f2 f3 f4 f5 : Nat) : Prop := lowF P f = some (59, [.tmp 4], (ic_potbanklaw03_BungBreaks f0 f1 f2 f3 f4 f5).erase)

def L_BungRules (P : Program) (f : Nat) : Prop := ∀ (l : List Sag), Snd P f [.fsl (l.map Sag.c)] [] (.b true) []
theorem ok_BungRules (hm : P.follows .mixedOrders = true) {f f0 f1 f2 f3 f4 f5 : Nat} (low : Low_potbanklaw03_BungRules P f f0 f1 f2 f3 f4 f5) (h0 : C_sane P f0) (h1 : C_Rule P f1) (h2 : C_Rule P f2) (h3 : C_CanStand P f3) (h4 : C_CanStand P f4) (h5 : C_Same P f5) : L_BungRules P f := by
  intro l
  have e1 : ((if listB l then ruleS l (ixS l.length) else []).length : Nat) ≤ 1000000 := by
    split
    · rename_i h; have := list_len h; rw [ruleS_length, ixS_length]; omega
    · simp
  have d1 := h5 _ (if listB l then ruleS l (ixS l.length) else []) e1
  rw [decide_eq_true rfl, apply_ite (List.map intC)] at d1
  simp only [List.map_nil] at d1
  refine snd_ic hm low (by simp) ?_
  unfold ic_potbanklaw03_BungRules
  simp -dsimp -implicitDefEqProofs only [qq, Nat.reduceBEq, reduceIte, Nat.reduceAdd, Nat.reduceSub, Nat.reduceLeDiff, Nat.reduceLT, Nat.reduceMul, Nat.reduceEqDiff, Int.reduceEq, Int.reduceBEq, Int.reduceBNe, Int.reduceLT, Int.reduceLE, Int.reduceGT, Int.reduceGE, Int.reduceNeg, Int.reduceAdd, Int.reduceSub, reduceCtorEq, List.reduceReplicate, ← List.map_take, ← List.map_drop]
  refine callI_pure h0 rfl rfl ?_
  simp -dsimp -implicitDefEqProofs only [qq, Nat.reduceBEq, reduceIte, Nat.reduceAdd, Nat.reduceSub, Nat.reduceLeDiff, Nat.reduceLT, Nat.reduceMul, Nat.reduceEqDiff, Int.reduceEq, Int.reduceBEq, Int.reduceBNe, Int.reduceLT, Int.reduceLE, Int.reduceGT, Int.reduceGE, Int.reduceNeg, Int.reduceAdd, Int.reduceSub, reduceCtorEq, List.reduceReplicate, ← List.map_take, ← List.map_drop]
  refine callI_pure (h1 l) rfl rfl ?_
  simp -dsimp -implicitDefEqProofs only [qq, Nat.reduceBEq, reduceIte, Nat.reduceAdd, Nat.reduceSub, Nat.reduceLeDiff, Nat.reduceLT, Nat.reduceMul, Nat.reduceEqDiff, Int.reduceEq, Int.reduceBEq, Int.reduceBNe, Int.reduceLT, Int.reduceLE, Int.reduceGT, Int.reduceGE, Int.reduceNeg, Int.reduceAdd, Int.reduceSub, reduceCtorEq, List.reduceReplicate, ← List.map_take, ← List.map_drop]
  refine callI_pure (h2 l) rfl rfl ?_
  simp -dsimp -implicitDefEqProofs only [qq, Nat.reduceBEq, reduceIte, Nat.reduceAdd, Nat.reduceSub, Nat.reduceLeDiff, Nat.reduceLT, Nat.reduceMul, Nat.reduceEqDiff, Int.reduceEq, Int.reduceBEq, Int.reduceBNe, Int.reduceLT, Int.reduceLE, Int.reduceGT, Int.reduceGE, Int.reduceNeg, Int.reduceAdd, Int.reduceSub, reduceCtorEq, List.reduceReplicate, ← List.map_take, ← List.map_drop]
  refine callI_pure (h3 l) rfl rfl ?_
  simp -dsimp -implicitDefEqProofs only [qq, Nat.reduceBEq, reduceIte, Nat.reduceAdd, Nat.reduceSub, Nat.reduceLeDiff, Nat.reduceLT, Nat.reduceMul, Nat.reduceEqDiff, Int.reduceEq, Int.reduceBEq, Int.reduceBNe, Int.reduceLT, Int.reduceLE, Int.reduceGT, Int.reduceGE, Int.reduceNeg, Int.reduceAdd, Int.reduceSub, reduceCtorEq, List.reduceReplicate, ← List.map_take, ← List.map_drop]
  refine callI_pure (h4 l) rfl rfl ?_
  simp -dsimp -implicitDefEqProofs only [qq, Nat.reduceBEq, reduceIte, Nat.reduceAdd, Nat.reduceSub, Nat.reduceLeDiff, Nat.reduceLT, Nat.reduceMul, Nat.reduceEqDiff, Int.reduceEq, Int.reduceBEq, Int.reduceBNe, Int.reduceLT, Int.reduceLE, Int.reduceGT, Int.reduceGE, Int.reduceNeg, Int.reduceAdd, Int.reduceSub, reduceCtorEq, List.reduceReplicate, ← List.map_take, ← List.map_drop]
  refine callI_pure d1 rfl rfl ?_
  simp -dsimp -implicitDefEqProofs only [qq, Nat.reduceBEq, reduceIte, Nat.reduceAdd, Nat.reduceSub, Nat.reduceLeDiff, Nat.reduceLT, Nat.reduceMul, Nat.reduceEqDiff, Int.reduceEq, Int.reduceBEq, Int.reduceBNe, Int.reduceLT, Int.reduceLE, Int.reduceGT, Int.reduceGE, Int.reduceNeg, Int.reduceAdd, Int.reduceSub, reduceCtorEq, List.reduceReplicate, ← List.map_take, ← List.map_drop]
  exact Ends.plain rfl rfl rfl

def L_BungBreaks (P : Program) (f : Nat) : Prop := ∀ (w : Rg) (l : List Sag) (c b : Int) (ws : List Int), Snd P f [.agg (bungC w l), .agg (brkC c b ws)] [] (.b true) []
theorem ok_BungBreaks (hm : P.follows .mixedOrders = true) {f f0 f1 f2 f3 f4 f5 : Nat} (low : Low_potbanklaw03_BungBreaks P f f0 f1 f2 f3 f4 f5) (h0 : C_sane P f0) (h1 : C_Breaks P f1) (h2 : C_Breaks P f2) (h3 : C_Same P f3) (h4 : C_CheckBreak P f4) (h5 : C_CheckBreak P f5) : L_BungBreaks P f := by
  intro w l c b ws
  obtain ⟨y1, y2, y3, hy, hy3⟩ : ∃ (y1 y2 : Int) (y3 : List Int), (if bungB w l then brkV l else V.agg (brkC 0 0 [])) = .agg [.i .i64 y1, .i .i64 y2, .fsl (y3.map intC)] ∧ y3.length ≤ 1000000 := by
    split
    · rename_i h
      have := list_len (bung_list h)
      unfold brkV
      split
      · exact ⟨_, _, _, rfl, by simp; omega⟩
      · exact ⟨_, _, _, rfl, by simp⟩
    · exact ⟨_, _, _, rfl, by simp⟩
  have d1 := h3 y3 y3 hy3
  rw [decide_eq_true rfl] at d1
  have c1 := h1 w l
  have c2 := h2 w l
  rw [hy] at c1 c2
  unfold brkC
  refine snd_ic hm low (by simp) ?_
  unfold ic_potbanklaw03_BungBreaks
  simp -dsimp -implicitDefEqProofs only [qq, Nat.reduceBEq, reduceIte, Nat.reduceAdd, Nat.reduceSub, Nat.reduceLeDiff, Nat.reduceLT, Nat.reduceMul, Nat.reduceEqDiff, Int.reduceEq, Int.reduceBEq, Int.reduceBNe, Int.reduceLT, Int.reduceLE, Int.reduceGT, Int.reduceGE, Int.reduceNeg, Int.reduceAdd, Int.reduceSub, reduceCtorEq, List.reduceReplicate, ← List.map_take, ← List.map_drop]
  refine callI_pure h0 rfl rfl ?_
  simp -dsimp -implicitDefEqProofs only [qq, Nat.reduceBEq, reduceIte, Nat.reduceAdd, Nat.reduceSub, Nat.reduceLeDiff, Nat.reduceLT, Nat.reduceMul, Nat.reduceEqDiff, Int.reduceEq, Int.reduceBEq, Int.reduceBNe, Int.reduceLT, Int.reduceLE, Int.reduceGT, Int.reduceGE, Int.reduceNeg, Int.reduceAdd, Int.reduceSub, reduceCtorEq, List.reduceReplicate, ← List.map_take, ← List.map_drop]
  refine callI_pure c1 rfl rfl ?_
  simp -dsimp -implicitDefEqProofs only [qq, Nat.reduceBEq, reduceIte, Nat.reduceAdd, Nat.reduceSub, Nat.reduceLeDiff, Nat.reduceLT, Nat.reduceMul, Nat.reduceEqDiff, Int.reduceEq, Int.reduceBEq, Int.reduceBNe, Int.reduceLT, Int.reduceLE, Int.reduceGT, Int.reduceGE, Int.reduceNeg, Int.reduceAdd, Int.reduceSub, reduceCtorEq, List.reduceReplicate, ← List.map_take, ← List.map_drop]
  refine callI_pure c2 rfl rfl ?_
  simp -dsimp -implicitDefEqProofs only [qq, Nat.reduceBEq, reduceIte, Nat.reduceAdd, Nat.reduceSub, Nat.reduceLeDiff, Nat.reduceLT, Nat.reduceMul, Nat.reduceEqDiff, Int.reduceEq, Int.reduceBEq, Int.reduceBNe, Int.reduceLT, Int.reduceLE, Int.reduceGT, Int.reduceGE, Int.reduceNeg, Int.reduceAdd, Int.reduceSub, reduceCtorEq, List.reduceReplicate, ← List.map_take, ← List.map_drop]
  refine callI_pure d1 rfl rfl ?_
  simp -dsimp -implicitDefEqProofs only [qq, Nat.reduceBEq, reduceIte, Nat.reduceAdd, Nat.reduceSub, Nat.reduceLeDiff, Nat.reduceLT, Nat.reduceMul, Nat.reduceEqDiff, Int.reduceEq, Int.reduceBEq, Int.reduceBNe, Int.reduceLT, Int.reduceLE, Int.reduceGT, Int.reduceGE, Int.reduceNeg, Int.reduceAdd, Int.reduceSub, reduceCtorEq, List.reduceReplicate, ← List.map_take, ← List.map_drop]
  refine callI_pure (h4 w l c b ws) rfl rfl ?_
  simp -dsimp -implicitDefEqProofs only [qq, Nat.reduceBEq, reduceIte, Nat.reduceAdd, Nat.reduceSub, Nat.reduceLeDiff, Nat.reduceLT, Nat.reduceMul, Nat.reduceEqDiff, Int.reduceEq, Int.reduceBEq, Int.reduceBNe, Int.reduceLT, Int.reduceLE, Int.reduceGT, Int.reduceGE, Int.reduceNeg, Int.reduceAdd, Int.reduceSub, reduceCtorEq, List.reduceReplicate, ← List.map_take, ← List.map_drop]
  refine callI_pure (h5 w l c b ws) rfl rfl ?_
  simp -dsimp -implicitDefEqProofs only [qq, Nat.reduceBEq, reduceIte, Nat.reduceAdd, Nat.reduceSub, Nat.reduceLeDiff, Nat.reduceLT, Nat.reduceMul, Nat.reduceEqDiff, Int.reduceEq, Int.reduceBEq, Int.reduceBNe, Int.reduceLT, Int.reduceLE, Int.reduceGT, Int.reduceGE, Int.reduceNeg, Int.reduceAdd, Int.reduceSub, reduceCtorEq, List.reduceReplicate, ← List.map_take, ← List.map_drop]
  exact Ends.plain rfl rfl rfl
end Go.Sh.C3
end
section
namespace Go.Sh
open Go.Proofs Go.Sort Go.Shelf Go.RowKit Go.Lib
variable {P : Program} {ρ : Ren}
theorem sortsI_of (L : SlLaysF.n6 P ρ) (hf : isFn P (ρ.f 6)) : SortsI P (ρ.f 6) :=
  ⟨hf, fun p cap fv w => AnyF.slices_SortFunc_none { L with } p cap fv w, fun enc h1 cf hO g cb blk off cap d w eg hcmp hH hblk hsz hT => Any.slices_SortFunc_total L enc h1 cf hO g cb blk off cap d w eg hcmp hH hblk hsz hT⟩
end Go.Sh
end
section
namespace Go.Proofs
open Go.Shelf
def Try.sortInt_ren : Go.Shelf.Ren := ⟨fun | 6 => 133 | 15 => 148 | 14 => 147 | 28 => 158 | 29 => 159 | 20 => 150 | 21 => 151 | 22 => 152 | 23 => 153 | 24 => 154 | 25 => 155 | 26 => 156 | 27 => 157 | 46 => 160 | 47 => 161 | 48 => 162 | 49 => 163 | 50 => 164 | 57 => 165 | n => n, fun | 22 => 38 | 24 => 3 | 25 => 49 | 3 => 3 | 39 => 172 | 0 => 0 | 53 => 183 | 55 => 185 | 4 => 4 | 46 => 176 | 45 => 175 | 50 => 180 | 5 => 5 | 9 => 9 | 66 => 186 | 70 => 190 | 76 => 192 | 77 => 193 | n => n, fun | n => n⟩
theorem Try.sortInt : Go.Proofs.SlLaysF.n6 Try.prog Try.sortInt_ren := {
  mixed := by kernel_rfl
  f6 := ⟨Try.f133.name, by decide, Try.func133.trans (congrArg some (by kernel_rfl))⟩
  f14 := ⟨Try.f147.name, by decide, Try.func147.trans (congrArg some (by kernel_rfl))⟩
  f15 := Try.func148.trans (congrArg some (by kernel_rfl))
  f20 := ⟨Try.f150.name, by decide, Try.func150.trans (congrArg some (by kernel_rfl))⟩
  f21 := ⟨Try.f151.name, by decide, Try.func151.trans (congrArg some (by kernel_rfl))⟩
  f22 := ⟨Try.f152.name, by decide, Try.func152.trans (congrArg some (by kernel_rfl))⟩
  f23 := ⟨Try.f153.name, by decide, Try.func153.trans (congrArg some (by kernel_rfl))⟩
  f24 := ⟨Try.f154.name, by decide, Try.func154.trans (congrArg some (by kernel_rfl))⟩
  f25 := ⟨Try.f155.name, by decide, Try.func155.trans (congrArg some (by kernel_rfl))⟩
  f26 := ⟨Try.f156.name, by decide, Try.func156.trans (congrArg some (by kernel_rfl))⟩
  f27 := ⟨Try.f157.name, by decide, Try.func157.trans (congrArg some (by kernel_rfl))⟩
  f28 := Try.func158.trans (congrArg some (by kernel_rfl))
  f29 := Try.func159.trans (congrArg some (by kernel_rfl))
  f46 := ⟨Try.f160.name, by decide, Try.func160.trans (congrArg some (by kernel_rfl))⟩
  f47 := Try.func161.trans (congrArg some (by kernel_rfl))
  f48 := Try.func162.trans (congrArg some (by kernel_rfl))
  f49 := ⟨Try.f163.name, by decide, Try.func163.trans (congrArg some (by kernel_rfl))⟩
  f50 := ⟨Try.f164.name, by decide, Try.func164.trans (congrArg some (by kernel_rfl))⟩
  f57 := ⟨Try.f165.name, by decide, Try.func165.trans (congrArg some (by kernel_rfl))⟩
  t0 := Try.underlying0
  a0 := Try.isAgg0
  z0 := Try.sizeOf0
  v0 := Try.zeroValue0
  t3 := Try.underlying3
  a3 := Try.isAgg3
  z3 := Try.sizeOf3
  v3 := Try.zeroValue3
  t4 := Try.underlying4
  a4 := Try.isAgg4
  z4 := Try.sizeOf4
  v4 := Try.zeroValue4
  t5 := Try.underlying5
  a5 := Try.isAgg5
  z5 := Try.sizeOf5
  v5 := Try.zeroValue5
  t9 := Try.underlying9
  a9 := Try.isAgg9
  z9 := Try.sizeOf9
  v9 := Try.zeroValue9
  t22 := Try.underlying38
  a22 := Try.isAgg38
  z22 := Try.sizeOf38
  v22 := Try.zeroValue38
  a24 := Try.isAgg3
  z24 := Try.sizeOf3
  t25 := Try.underlying49
  a25 := Try.isAgg49
  z25 := Try.sizeOf49
  v25 := Try.zeroValue49
  t39 := Try.underlying172
  a39 := Try.isAgg172
  z39 := Try.sizeOf172
  v39 := Try.zeroValue172
  t45 := Try.underlying175
  a45 := Try.isAgg175
  z45 := Try.sizeOf175
  v45 := Try.zeroValue175
  t46 := Try.underlying176
  a46 := Try.isAgg176
  z46 := Try.sizeOf176
  v46 := Try.zeroValue176
  t50 := Try.underlying180
  a50 := Try.isAgg180
  z50 := Try.sizeOf180
  v50 := Try.zeroValue180
  t53 := Try.underlying183
  a53 := Try.isAgg183
  z53 := Try.sizeOf183
  v53 := Try.zeroValue183
  t55 := Try.underlying185
  a55 := Try.isAgg185
  z55 := Try.sizeOf185
  v55 := Try.zeroValue185
  t66 := Try.underlying186
  a66 := Try.isAgg186
  z66 := Try.sizeOf186
  v66 := Try.zeroValue186
  t70 := Try.underlying190
  a70 := Try.isAgg190
  z70 := Try.sizeOf190
  v70 := Try.zeroValue190
  t76 := Try.underlying192
  a76 := Try.isAgg192
  z76 := Try.sizeOf192
  v76 := Try.zeroValue192
  t77 := Try.underlying193
  a77 := Try.isAgg193
  z77 := Try.sizeOf193
  v77 := Try.zeroValue193 }
end Go.Proofs
end
section
namespace Go.Sh.C3
open Go.Sh Go.Proofs
set_option maxRecDepth 100000
set_option linter.unusedVariables false
theorem mixed : Try.prog.follows .mixedOrders = true := by kernel_rfl
theorem low_7 : lowF Try.prog 7 = some (56, [.tmp 2], (ic_potbanklaw03_BungRules 19 41 42 43 44 40).erase) := by kernel_rfl
theorem low_19 : lowF Try.prog 19 = some (146, [.tmp 0], (ic_potbanklaw03_sane 75 59 32 24 26 53 20 39 22 40).erase) := by kernel_rfl
theorem low_75 : lowF Try.prog 75 = some (14, [.tmp 0], (ic_potbanklaw03_example).erase) := by kernel_rfl
theorem c_C_example_75 : C_example Try.prog 75 := ok_example mixed low_75
theorem low_59 : lowF Try.prog 59 = some (53, [.cell 6 (some 3), .tmp 7], (ic_bung_Set 110 94 111 112).erase) := by kernel_rfl
theorem low_110 : lowF Try.prog 110 = some (5, [.tmp 2], (ic_bung_isWad 139).erase) := by kernel_rfl
theorem low_139 : lowF Try.prog 139 = some (24, [.tmp 6], (ic_bung_isRange).erase) := by kernel_rfl
theorem c_C_isRange_139 : C_isRange Try.prog 139 := ok_isRange mixed low_139
theorem c_C_isWad_110 : C_isWad Try.prog 110 := ok_isWad mixed low_110 c_C_isRange_139
theorem low_94 : lowF Try.prog 94 = some (29, [.tmp 2], (ic_bung_isList 100).erase) := by kernel_rfl
theorem low_100 : lowF Try.prog 100 = some (26, [.tmp 2], (ic_bung_isSaggar 111 139).erase) := by kernel_rfl
theorem low_111 : lowF Try.prog 111 = some (15, [.tmp 6], (ic_bung_within).erase) := by kernel_rfl
theorem c_C_within_111 : C_within Try.prog 111 := ok_within mixed low_111
theorem c_C_isSaggar_100 : C_isSaggar Try.prog 100 := ok_isSaggar mixed low_100 c_C_within_111 c_C_isRange_139
theorem c_C_isList_94 : C_isList Try.prog 94 := ok_isList mixed low_94 c_C_isSaggar_100
theorem low_112 : lowF Try.prog 112 = some (23, [.tmp 4], (ic_bung_stacked).erase) := by kernel_rfl
theorem c_C_stacked_112 : C_stacked Try.prog 112 := ok_stacked mixed low_112
theorem c_C_Set_59 : C_Set Try.prog 59 := ok_Set mixed low_59 c_C_isWad_110 c_C_isList_94 c_C_within_111 c_C_stacked_112
theorem low_32 : lowF Try.prog 32 = some (10, [.tmp 2, .tmp 3], (ic_bung_Loads 80 88).erase) := by kernel_rfl
theorem low_80 : lowF Try.prog 80 = some (17, [.tmp 2], (ic_bung_isBung 110 94).erase) := by kernel_rfl
theorem c_C_isBung_80 : C_isBung Try.prog 80 := ok_isBung mixed low_80 c_C_isWad_110 c_C_isList_94
theorem low_88 : lowF Try.prog 88 = some (18, [.tmp 2], (ic_bung_loads 130).erase) := by kernel_rfl
theorem low_130 : lowF Try.prog 130 = some (4, [.tmp 2], (ic_bung_down 145).erase) := by kernel_rfl
theorem low_145 : lowF Try.prog 145 = some (25, [], (ic_bung_down_1 129).erase) := by kernel_rfl
theorem low_129 : lowF Try.prog 129 = some (26, [.cell 2 (some 2)], (ic_bung_sum).erase) := by kernel_rfl
theorem c_C_sum_129 : C_sum Try.prog 129 := ok_sum mixed low_129
theorem c_C_down_130 : C_down Try.prog 130 := ok_down mixed low_130 low_145 c_C_sum_129
theorem c_C_loads_88 : C_loads Try.prog 88 := ok_loads mixed low_88 c_C_down_130
theorem c_C_Loads_32 : C_Loads Try.prog 32 := ok_Loads mixed low_32 c_C_isBung_80 c_C_loads_88
theorem low_24 : lowF Try.prog 24 = some (11, [.tmp 2, .tmp 3], (ic_bung_Stands 80 82 81).erase) := by kernel_rfl
theorem low_82 : lowF Try.prog 82 = some (26, [.tmp 2], (ic_bung_courses 88 128).erase) := by kernel_rfl
theorem low_128 : lowF Try.prog 128 = some (17, [.tmp 4], (ic_bung_answer).erase) := by kernel_rfl
theorem c_C_answer_128 : C_answer Try.prog 128 := ok_answer mixed low_128
theorem c_C_courses_82 : C_courses Try.prog 82 := ok_courses mixed low_82 c_C_loads_88 c_C_answer_128
theorem low_81 : lowF Try.prog 81 = some (9, [.tmp 2], (ic_bung_all 127).erase) := by kernel_rfl
theorem low_127 : lowF Try.prog 127 = some (9, [.tmp 4], (ic_slices_Contains_Sint_int 144).erase) := by kernel_rfl
theorem low_144 : lowF Try.prog 144 = some (19, [.tmp 4], (ic_slices_Index_Sint_int).erase) := by kernel_rfl
theorem c_C_Index_144 : C_Index Try.prog 144 := ok_Index mixed low_144
theorem c_C_Contains_127 : C_Contains Try.prog 127 := ok_Contains mixed low_127 c_C_Index_144
theorem c_C_all_81 : C_all Try.prog 81 := ok_all mixed low_81 c_C_Contains_127
theorem c_C_Stands_24 : C_Stands Try.prog 24 := ok_Stands mixed low_24 c_C_isBung_80 c_C_courses_82 c_C_all_81
theorem low_26 : lowF Try.prog 26 = some (9, [.tmp 2, .tmp 3], (ic_bung_Lean 80 84).erase) := by kernel_rfl
theorem low_84 : lowF Try.prog 84 = some (41, [.tmp 2], (ic_bung_lean).erase) := by kernel_rfl
theorem c_C_lean_84 : C_lean Try.prog 84 := ok_lean mixed low_84
theorem c_C_Lean_26 : C_Lean Try.prog 26 := ok_Lean mixed low_26 c_C_isBung_80 c_C_lean_84
theorem low_53 : lowF Try.prog 53 = some (55, [.cell 2 (some 3), .tmp 3], (ic_bung_Breaks 80 82).erase) := by kernel_rfl
theorem c_C_Breaks_53 : C_Breaks Try.prog 53 := ok_Breaks mixed low_53 c_C_isBung_80 c_C_courses_82
theorem low_20 : lowF Try.prog 20 = some (45, [.tmp 6, .tmp 7], (ic_bung_Fewest 76 77).erase) := by kernel_rfl
theorem low_76 : lowF Try.prog 76 = some (19, [.tmp 6], (ic_bung_asked 110 94 85).erase) := by kernel_rfl
theorem low_85 : lowF Try.prog 85 = some (11, [.tmp 2], (ic_bung_isSpot 111).erase) := by kernel_rfl
theorem c_C_isSpot_85 : C_isSpot Try.prog 85 := ok_isSpot mixed low_85 c_C_within_111
theorem c_C_asked_76 : C_asked Try.prog 76 := ok_asked mixed low_76 c_C_isWad_110 c_C_isList_94 c_C_isSpot_85
theorem low_77 : lowF Try.prog 77 = some (69, [.tmp 8], (ic_bung_packer_pack 124 125 126 77).erase) := by kernel_rfl
theorem low_124 : lowF Try.prog 124 = some (8, [.tmp 2], (ic_slices_Clone_SSint_Sint).erase) := by kernel_rfl
theorem c_C_CloneR_124 : C_CloneR Try.prog 124 := ok_CloneR mixed low_124
theorem low_125 : lowF Try.prog 125 = some (8, [.tmp 2], (ic_slices_Clone_Sint_int).erase) := by kernel_rfl
theorem c_C_CloneI_125 : C_CloneI Try.prog 125 := ok_CloneI mixed low_125
theorem low_126 : lowF Try.prog 126 = some (36, [.tmp 4], (ic_bung_packer_known 107).erase) := by kernel_rfl
theorem low_107 : lowF Try.prog 107 = some (19, [.tmp 4], (ic_bung_packer_do 95 112 86).erase) := by kernel_rfl
theorem low_95 : lowF Try.prog 95 = some (14, [.tmp 4], (ic_bung_rule 132 125 134 133).erase) := by kernel_rfl
theorem isFn_134 : isFn Try.prog 134 := ⟨_, Try.func134, by kernel_rfl, by kernel_rfl⟩
theorem low_132 : lowF Try.prog 132 = some (17, [.tmp 3], (ic_bung_rule_1).erase) := by kernel_rfl
theorem c_C_strong_132 : C_strong Try.prog 132 := ok_strong mixed low_132
theorem low_134 : lowF Try.prog 134 = some (27, [.tmp 6], (ic_bung_rule_2 136 135).erase) := by kernel_rfl
theorem low_136 : lowF Try.prog 136 = some (20, [.tmp 4], (ic_cmp_Compare_int 149).erase) := by kernel_rfl
theorem low_149 : lowF Try.prog 149 = some (6, [.tmp 2], (ic_cmp_isNaN_int).erase) := by kernel_rfl
theorem c_C_isNaN_149 : C_isNaN Try.prog 149 := ok_isNaN mixed low_149
theorem c_C_Compare_136 : C_Compare Try.prog 136 := ok_Compare mixed low_136 c_C_isNaN_149
theorem low_135 : lowF Try.prog 135 = some (18, [.tmp 2], (ic_cmp_Or_int).erase) := by kernel_rfl
theorem c_C_Or_135 : C_Or Try.prog 135 := ok_Or mixed low_135
theorem c_C_order_134_132 : C_order Try.prog 134 132 := ok_order mixed low_134 c_C_Compare_136 c_C_Or_135 c_C_strong_132
theorem isFn_133 : isFn Try.prog 133 := ⟨_, Try.func133, by kernel_rfl, by kernel_rfl⟩
theorem c_C_rule_95 : C_rule Try.prog 95 := ok_rule mixed low_95 isFn_134 c_C_strong_132 c_C_CloneI_125 c_C_order_134_132 (sortsI_of Try.sortInt isFn_133)
theorem low_86 : lowF Try.prog 86 = some (40, [.tmp 4], (ic_bung_fits 83 82 81 84).erase) := by kernel_rfl
theorem low_83 : lowF Try.prog 83 = some (29, [.cell 2 (some 2)], (ic_bung_height 129).erase) := by kernel_rfl
theorem c_C_height_83 : C_height Try.prog 83 := ok_height mixed low_83 c_C_sum_129
theorem c_C_fits_86 : C_fits Try.prog 86 := ok_fits mixed low_86 c_C_height_83 c_C_courses_82 c_C_all_81 c_C_lean_84
theorem c_C_do_107 : C_do Try.prog 107 := ok_do mixed low_107 c_C_rule_95 c_C_stacked_112 c_C_fits_86
theorem c_C_known_126 : C_known Try.prog 126 := ok_known' mixed low_126 c_C_do_107
theorem c_C_pack_77 : C_pack Try.prog 77 := ok_pack mixed low_77 c_C_CloneR_124 c_C_CloneI_125 c_C_known_126
theorem c_C_Fewest_20 : C_Fewest Try.prog 20 := ok_Fewest mixed low_20 c_C_asked_76 c_C_pack_77
theorem low_39 : lowF Try.prog 39 = some (31, [.tmp 4], (ic_potbankref03_SameRanges).erase) := by kernel_rfl
theorem c_C_SameRanges_39 : C_SameRanges Try.prog 39 := ok_SameRanges mixed low_39
theorem low_22 : lowF Try.prog 22 = some (31, [.tmp 4], (ic_potbankref03_SameParts 40).erase) := by kernel_rfl
theorem low_40 : lowF Try.prog 40 = some (26, [.tmp 4], (ic_potbankref01_Same).erase) := by kernel_rfl
theorem c_C_Same_40 : C_Same Try.prog 40 := ok_Same mixed low_40
theorem c_C_SameParts_22 : C_SameParts Try.prog 22 := ok_SameParts mixed low_22 c_C_Same_40
theorem c_C_sane_19 : C_sane Try.prog 19 := ok_sane mixed low_19 c_C_example_75 c_C_Set_59 c_C_Loads_32 c_C_Stands_24 c_C_Lean_26 c_C_Breaks_53 c_C_Fewest_20 c_C_SameRanges_39 c_C_SameParts_22 c_C_Same_40
theorem low_41 : lowF Try.prog 41 = some (11, [.tmp 2, .tmp 3], (ic_bung_Rule 94 96 95).erase) := by kernel_rfl
theorem low_96 : lowF Try.prog 96 = some (16, [.tmp 2], (ic_bung_indices).erase) := by kernel_rfl
theorem c_C_indices_96 : C_indices Try.prog 96 := ok_indices mixed low_96
theorem c_C_Rule_41 : C_Rule Try.prog 41 := ok_Rule mixed low_41 c_C_isList_94 c_C_indices_96 c_C_rule_95
theorem low_42 : lowF Try.prog 42 = some (9, [.tmp 2, .tmp 3], (ic_potbankref03_Rule 50 97).erase) := by kernel_rfl
theorem low_50 : lowF Try.prog 50 = some (30, [.tmp 2], (ic_potbankref03_CheckList 46 104).erase) := by kernel_rfl
theorem low_46 : lowF Try.prog 46 = some (31, [.tmp 2], (ic_potbankref03_CheckSaggar 101 102).erase) := by kernel_rfl
theorem low_101 : lowF Try.prog 101 = some (15, [.tmp 6], (ic_potbankref03_In).erase) := by kernel_rfl
theorem c_C_within_101 : C_within Try.prog 101 := ok_rIn mixed low_101
theorem low_102 : lowF Try.prog 102 = some (24, [.tmp 6], (ic_potbankref03_part).erase) := by kernel_rfl
theorem c_C_isRange_102 : C_isRange Try.prog 102 := ok_rpart mixed low_102
theorem c_C_CheckSaggar_46 : C_CheckSaggar Try.prog 46 := ok_rCheckSaggar mixed low_46 c_C_within_101 c_C_isRange_102
theorem low_104 : lowF Try.prog 104 = some (19, [.tmp 4], (ic_potbankref03_has).erase) := by kernel_rfl
theorem c_C_has_104 : C_has Try.prog 104 := ok_has mixed low_104
theorem c_C_CheckList_50 : C_CheckList Try.prog 50 := ok_rCheckList mixed low_50 c_C_CheckSaggar_46 c_C_has_104
theorem low_97 : lowF Try.prog 97 = some (45, [.tmp 2], (ic_potbankref03_rule 137).erase) := by kernel_rfl
theorem low_137 : lowF Try.prog 137 = some (36, [.tmp 4], (ic_potbankref03_lower).erase) := by kernel_rfl
theorem c_C_lower_137 : C_lower Try.prog 137 := ok_lower mixed low_137
theorem c_C_rrule_97 : C_rrule Try.prog 97 := ok_rrule mixed low_97 c_C_lower_137
theorem c_C_Rule_42 : C_Rule Try.prog 42 := ok_rRule mixed low_42 c_C_CheckList_50 c_C_rrule_97
theorem low_43 : lowF Try.prog 43 = some (11, [.tmp 2, .tmp 3], (ic_bung_CanStand 94 96 98).erase) := by kernel_rfl
theorem low_98 : lowF Try.prog 98 = some (11, [.tmp 4], (ic_bung_can 95 112 138).erase) := by kernel_rfl
theorem low_138 : lowF Try.prog 138 = some (7, [.tmp 2], (ic_bung_stands 82 81).erase) := by kernel_rfl
theorem c_C_stands_138 : C_stands Try.prog 138 := ok_stands mixed low_138 c_C_courses_82 c_C_all_81
theorem c_C_can_98 : C_can Try.prog 98 := ok_can mixed low_98 c_C_rule_95 c_C_stacked_112 c_C_stands_138
theorem c_C_CanStand_43 : C_CanStand Try.prog 43 := ok_CanStand mixed low_43 c_C_isList_94 c_C_indices_96 c_C_can_98
theorem low_44 : lowF Try.prog 44 = some (9, [.tmp 2, .tmp 3], (ic_potbankref03_CanStand 50 99).erase) := by kernel_rfl
theorem low_99 : lowF Try.prog 99 = some (9, [.tmp 2], (ic_potbankref03_canStand 97 115 91).erase) := by kernel_rfl
theorem low_115 : lowF Try.prog 115 = some (24, [.tmp 4], (ic_potbankref03_some).erase) := by kernel_rfl
theorem c_C_stacked_115 : C_stacked Try.prog 115 := ok_some mixed low_115
theorem low_91 : lowF Try.prog 91 = some (20, [.tmp 2], (ic_potbankref03_stands 90).erase) := by kernel_rfl
theorem low_90 : lowF Try.prog 90 = some (27, [.tmp 4], (ic_potbankref03_answer 89).erase) := by kernel_rfl
theorem low_89 : lowF Try.prog 89 = some (36, [.cell 4 (some 2)], (ic_potbankref03_load).erase) := by kernel_rfl
theorem c_C_rload_89 : C_rload Try.prog 89 := ok_rload mixed low_89
theorem c_C_ranswer_90 : C_ranswer Try.prog 90 := ok_ranswer mixed low_90 c_C_rload_89
theorem c_C_rstands_91 : C_rstands Try.prog 91 := ok_rstands mixed low_91 c_C_ranswer_90
theorem c_C_rcanStand_99 : C_rcanStand Try.prog 99 := ok_rcanStand mixed low_99 c_C_rrule_97 c_C_stacked_115 c_C_rstands_91
theorem c_C_CanStand_44 : C_CanStand Try.prog 44 := ok_rCanStand mixed low_44 c_C_CheckList_50 c_C_rcanStand_99
theorem c_L_BungRules_7 : L_BungRules Try.prog 7 := ok_BungRules mixed low_7 c_C_sane_19 c_C_Rule_41 c_C_Rule_42 c_C_CanStand_43 c_C_CanStand_44 c_C_Same_40
theorem isFn_7 : isFn Try.prog 7 := ⟨_, Try.func7, by kernel_rfl, by kernel_rfl⟩
theorem low_9 : lowF Try.prog 9 = some (59, [.tmp 4], (ic_potbanklaw03_BungBreaks 19 53 54 40 55 56).erase) := by kernel_rfl
theorem low_54 : lowF Try.prog 54 = some (55, [.cell 2 (some 3), .tmp 3], (ic_potbankref03_Breaks 48 90).erase) := by kernel_rfl
theorem low_48 : lowF Try.prog 48 = some (19, [.tmp 2], (ic_potbankref03_Check 103 50).erase) := by kernel_rfl
theorem low_103 : lowF Try.prog 103 = some (5, [.tmp 2], (ic_potbankref03_isWad 102).erase) := by kernel_rfl
theorem c_C_isWad_103 : C_isWad Try.prog 103 := ok_risWad mixed low_103 c_C_isRange_102
theorem c_C_Check_48 : C_Check Try.prog 48 := ok_rCheck mixed low_48 c_C_isWad_103 c_C_CheckList_50
theorem c_C_Breaks_54 : C_Breaks Try.prog 54 := ok_rBreaks mixed low_54 c_C_Check_48 c_C_ranswer_90
theorem low_55 : lowF Try.prog 55 = some (15, [.tmp 4], (ic_bung_CheckBreak 80 105).erase) := by kernel_rfl
theorem low_105 : lowF Try.prog 105 = some (75, [.tmp 4], (ic_bung_isBreak 111).erase) := by kernel_rfl
theorem c_C_isBreak_105 : C_isBreak Try.prog 105 := ok_isBreak mixed low_105 c_C_within_111
theorem c_C_CheckBreak_55 : C_CheckBreak Try.prog 55 := ok_CheckBreak mixed low_55 c_C_isBung_80 c_C_isBreak_105
theorem low_56 : lowF Try.prog 56 = some (91, [.tmp 4], (ic_potbankref03_CheckBreak 48 101).erase) := by kernel_rfl
theorem c_C_CheckBreak_56 : C_CheckBreak Try.prog 56 := ok_rCheckBreak mixed low_56 c_C_Check_48 c_C_within_101
theorem c_L_BungBreaks_9 : L_BungBreaks Try.prog 9 := ok_BungBreaks mixed low_9 c_C_sane_19 c_C_Breaks_53 c_C_Breaks_54 c_C_Same_40 c_C_CheckBreak_55 c_C_CheckBreak_56
theorem isFn_9 : isFn Try.prog 9 := ⟨_, Try.func9, by kernel_rfl, by kernel_rfl⟩
end Go.Sh.C3
end
section
namespace Go.Sh
open Go.RowKit Go.ChangeShapes Go.WideShapes
set_option linter.unusedVariables false
/-- Arguments, all at once: what lies below the old size has not turned. -/
theorem below_trods {H : Type} {enc : TypeId × Value → H} {P : Program} (hl : laidOutB P = true) {W W' : World} (hb : Below W.heap.size W W') :
    ∀ {ts : List TypeId} {vs : List Value} {ds : List (DataW H)} {ps : List MemPlace}, (∀ t ∈ ts, P.readableRec t = true ∧ t < P.types.size) → DataW.TrodAll enc P W 0 (fun _ => true) true ts vs ds ps → (∀ x ∈ ps, x.block < W.heap.size) →
      DataW.TrodAll enc P W' 0 (fun b => decide (b < W.heap.size)) true ts vs ds ps
  | [], _, _, _, _, h, _ => by
    obtain ⟨rfl, rfl, rfl⟩ := trodAll_nil h
    exact trodAll_mk0
  | t :: ts, _, _, _, hr, h, hp => by
    obtain ⟨v, vs, d, ds, p, q, rfl, rfl, rfl, h1, h2⟩ := trodAll_cons h
    exact ⟨p, q, Below.trod hl (hr t (by simp)).1 (hr t (by simp)).2 h1 hb (fun x hx => hp x (by simp [hx])), below_trods hl hb (fun u hu => hr u (by simp [hu])) h2 (fun x hx => hp x (by simp [hx])), rfl⟩
/-- THE FRAME: a law that returned true and left what lay below alone. -/
theorem post_true {H : Type} {enc : TypeId × Value → H} {P : Program} {f : Func} {s : ChangeSpec} {apart fresh hands : Bool} {tb : TypeId} {W W' : World} {args : Array Value} {ds gs : List (DataW H)} {before : List MemPlace}
    (hl : laidOutB P = true) (hr : ∀ t ∈ f.params.toList, P.readableRec t = true ∧ t < P.types.size) (hres : f.resultTypes = #[tb]) (htb : P.underlying tb = some .bool) (hvars : s.vars = [])
    (hW : DataW.Whole enc P f.params.toList s.vars apart W args.toList ds gs before) (hfr : (s.fn H (ds ++ gs)).results = [.lit (.bool true)]) (hfa : (s.fn H (ds ++ gs)).args = ds) (hfv : (s.fn H (ds ++ gs)).vars = [])
    (hb : Below W.heap.size W W') : s.post enc P f apart fresh hands false W args (.bool true) W' := by
  have hlt := hW.lt
  have hW0 := hW
  obtain ⟨p, q, hA, hV, rfl, hfz, hnd⟩ := hW
  rw [hvars] at hV
  obtain ⟨rfl, rfl⟩ := trodVars_none hV
  refine ⟨ds, [], p ++ [], [], p, [], hW0, ?_, ?_, ?_, hb.frame _, nofun⟩
  · rw [hfr, hres]
    exact trodAll_mk1 (shut_bool htb true)
  · rw [hfa]
    exact below_trods hl hb hr hA (fun x hx => hlt x (by simpa using hx))
  · rw [hfv, hvars]
    simp [DataW.TrodVars]
section
variable {H : Type} {enc : TypeId × Value → H} {P : Program} {w : World} {base : Nat} {spare : Nat → Bool} {held : Bool}
theorem ds_len1 {t : TypeId} {args : Array Value} {ds : List (DataW H)} {ps : List MemPlace} (h : DataW.TrodAll enc P w base spare held [t] args.toList ds ps) : ∃ d, ds = [d] := by
  obtain ⟨v0, vs, d, ds, p, q, _, rfl, _, _, h2⟩ := trodAll_cons h
  obtain ⟨_, rfl, _⟩ := trodAll_nil h2
  exact ⟨d, rfl⟩
theorem ds_len2 {t t' : TypeId} {args : Array Value} {ds : List (DataW H)} {ps : List MemPlace} (h : DataW.TrodAll enc P w base spare held [t, t'] args.toList ds ps) : ∃ d d', ds = [d, d'] := by
  obtain ⟨v0, vs, d, ds, p, q, _, rfl, _, _, h2⟩ := trodAll_cons h
  obtain ⟨v1, vs, d1, ds, p, q, _, rfl, _, _, h3⟩ := trodAll_cons h2
  obtain ⟨_, rfl, _⟩ := trodAll_nil h3
  exact ⟨d, d1, rfl⟩
theorem ds_len3 {t t' t'' : TypeId} {args : Array Value} {ds : List (DataW H)} {ps : List MemPlace} (h : DataW.TrodAll enc P w base spare held [t, t', t''] args.toList ds ps) : ∃ d d' d'', ds = [d, d', d''] := by
  obtain ⟨v0, vs, d, ds, p, q, _, rfl, _, _, h2⟩ := trodAll_cons h
  obtain ⟨v1, vs, d1, ds, p, q, _, rfl, _, _, h3⟩ := trodAll_cons h2
  obtain ⟨v2, vs, d2, ds, p, q, _, rfl, _, _, h4⟩ := trodAll_cons h3
  obtain ⟨_, rfl, _⟩ := trodAll_nil h4
  exact ⟨d, d1, d2, rfl⟩
theorem ds_len4 {t t' t'' t3 : TypeId} {args : Array Value} {ds : List (DataW H)} {ps : List MemPlace} (h : DataW.TrodAll enc P w base spare held [t, t', t'', t3] args.toList ds ps) : ∃ d d' d'' d3, ds = [d, d', d'', d3] := by
  obtain ⟨v0, vs, d, ds, p, q, _, rfl, _, _, h2⟩ := trodAll_cons h
  obtain ⟨v1, vs, d1, ds, p, q, _, rfl, _, _, h3⟩ := trodAll_cons h2
  obtain ⟨v2, vs, d2, ds, p, q, _, rfl, _, _, h4⟩ := trodAll_cons h3
  obtain ⟨v3, vs, d3, ds, p, q, _, rfl, _, _, h5⟩ := trodAll_cons h4
  obtain ⟨_, rfl, _⟩ := trodAll_nil h5
  exact ⟨d, d1, d2, d3, rfl⟩
end
end Go.Sh
end
section

end
