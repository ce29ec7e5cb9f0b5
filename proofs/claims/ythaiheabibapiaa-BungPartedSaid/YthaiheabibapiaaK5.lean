/- The calculus over shadows, and contracts: B5D, B5F, B4C, B5G, ShSp, TryShelfP, S3BungParted. -/
import Derived.Test.YthaiheabibapiaaK4
import Derived.Shelf.SlSortCmp.NoneTotal
import Derived.Shelf.SlLaysF
import Derived.Shelf.SlGeneric
import Derived.Ground.SlsfProg
import Derived.Test.YthaiheabibapiaaProg
set_option linter.all false
section
namespace Go.Sh.C3
open Go.Sh
set_option maxRecDepth 10000
set_option linter.unusedVariables false
set_option linter.unusedSimpArgs false
variable {P : Program}
def ic_bung_seats (f0 f1 f2 f3 : Nat) : IC := .seq (.reg [⟨some 6, none, .mov (.c (.nsl))⟩, ⟨some 7, none, .mov (.c (.b false))⟩] [0, 1, 2]) (.seq (.reg [⟨some 13, none, .mov (.t 2)⟩, ⟨some 14, none, .len false (.t 13)⟩, ⟨some 8, none, .mov (.t 14)⟩] [0, 1, 2, 8]) (.seq (.seq (.reg [⟨some 15, none, .mov (.t 8)⟩, ⟨some 16, none, .mov (.t 0)⟩, ⟨some 17, none, .len false (.t 16)⟩, ⟨some 18, none, .bin .eql (.t 15) (.t 17)⟩] [0, 1, 2, 8, 18]) (.cond (.t 18) (.seq (.reg [⟨some 19, none, .mov (.t 2)⟩, ⟨some 6, none, .mov (.t 19)⟩, ⟨some 7, none, .mov (.c (.b true))⟩] [6, 7]) (.ret)) (.skip))) (.seq (.seq (.reg [⟨some 20, none, .mov (.t 1)⟩, ⟨some 21, none, .len false (.t 20)⟩, ⟨some 22, none, .mov (.c (.i .i64 (0)))⟩] [0, 1, 2, 8, 20, 21, 22]) (.block 0 (.loop (.seq (.reg [⟨some 23, none, .bin .lss (.t 22) (.t 21)⟩] [0, 1, 2, 8, 20, 21, 22, 23]) (.seq (.cond (.t 23) (.skip) (.exit 0)) (.seq (.block 1 (.seq (.reg [⟨some 24, none, .mov (.t 22)⟩, ⟨some 25, none, .ixs 2 (.t 20) (.t 22)⟩, ⟨some 26, none, .ld (some 2) (.t 25)⟩, ⟨some 10, none, .alloc [.i .i64 (0), .i .i64 (0)]⟩, ⟨some 9, none, .mov (.t 24)⟩, ⟨none, none, .st 2 (.t 10) (.t 26)⟩] [0, 1, 2, 8, 9, 10, 20, 21, 22]) (.seq (.seq (.drg [(0, ⟨some 27, none, .mov (.t 2)⟩), (0, ⟨some 28, none, .mov (.t 9)⟩), (0, ⟨some 29, none, .calv (.c (.fn (.func f0) [] [])) [.t 27, .t 28]⟩), (0, ⟨some 30, none, .mov (.t 29)⟩), (0, ⟨some 31, some (30, false), .mov (.t 0)⟩), (0, ⟨some 32, some (30, false), .mov (.t 8)⟩), (0, ⟨some 33, some (30, false), .ixs 3 (.t 31) (.t 32)⟩), (0, ⟨some 34, some (30, false), .ld (some 3) (.t 33)⟩), (0, ⟨some 35, some (30, false), .ld (some 2) (.t 10)⟩), (0, ⟨some 36, some (30, false), .calv (.c (.fn (.func f1) [] [])) [.t 34, .t 35]⟩), (0, ⟨some 37, some (30, false), .bin .neq (.t 36) (.c (.i .i64 (1)))⟩), (0, ⟨some 38, none, .pick (.t 30) (.c (.b true)) (.t 37)⟩)] 9 [0, 1, 2, 8, 9, 20, 21, 22, 38]) (.cond (.t 38) (.exit 1) (.skip))) (.seq (.reg [⟨some 40, none, .mov (.t 0)⟩, ⟨some 41, none, .mov (.t 1)⟩, ⟨some 42, none, .mov (.t 2)⟩, ⟨some 43, none, .calv (.c (.fn (.func f2) [] [])) [.t 42]⟩, ⟨some 44, none, .mov (.t 9)⟩, ⟨some 45, none, .bsl false 1 1 [.i .i64 (0)] [(0, (.t 44))]⟩, ⟨some 46, none, .app 1 8 (.t 43) (.t 45)⟩, ⟨some 47, none, .calv (.c (.fn (.func f3) [] [])) [.t 40, .t 41, .t 46]⟩, ⟨some 39, none, .mov (.t 47)⟩, ⟨some 48, none, .ext (.t 39) 0⟩, ⟨some 49, none, .ext (.t 39) 1⟩, ⟨some 11, none, .mov (.t 48)⟩, ⟨some 12, none, .mov (.t 49)⟩] [0, 1, 2, 8, 11, 12, 20, 21, 22]) (.seq (.reg [⟨some 50, none, .mov (.t 12)⟩] [0, 1, 2, 8, 11, 20, 21, 22, 50]) (.cond (.t 50) (.seq (.reg [⟨some 51, none, .mov (.t 11)⟩, ⟨some 6, none, .mov (.t 51)⟩, ⟨some 7, none, .mov (.c (.b true))⟩] [6, 7]) (.ret)) (.skip))))))) (.reg [⟨some 52, none, .bin .add (.t 22) (.c (.i .i64 (1)))⟩, ⟨some 22, none, .mov (.t 52)⟩] [0, 1, 2, 8, 20, 21, 22]))))))) (.seq (.reg [⟨some 6, none, .mov (.c (.nsl))⟩, ⟨some 7, none, .mov (.c (.b false))⟩] [6, 7]) (.ret)))))
abbrev Low_bung_seats (P : Program) (f f0 f1 f2 f3 : Nat) : Prop := lowF P f = some (53, [.tmp 6, .tmp 7], (ic_bung_seats f0 f1 f2 f3).erase)
def ic_bung_Seat (f0 f1 f2 : Nat) : IC := .seq (.reg [⟨some 4, none, .mov (.c (.nsl))⟩, ⟨some 5, none, .mov (.c (.i .i64 (0)))⟩] [0, 1]) (.seq (.seq (.reg [⟨some 12, none, .mov (.t 0)⟩, ⟨some 13, none, .len false (.t 12)⟩, ⟨some 14, none, .mov (.c (.i .i64 (0)))⟩] [0, 1, 12, 13, 14]) (.block 0 (.loop (.seq (.reg [⟨some 15, none, .bin .lss (.t 14) (.t 13)⟩] [0, 1, 12, 13, 14, 15]) (.seq (.cond (.t 15) (.skip) (.exit 0)) (.seq (.block 1 (.seq (.reg [⟨some 16, none, .ixs 3 (.t 12) (.t 14)⟩, ⟨some 17, none, .ld (some 3) (.t 16)⟩, ⟨some 7, none, .alloc [.i .i64 (0), .i .i64 (0), .nsl]⟩, ⟨none, none, .st 3 (.t 7) (.t 17)⟩] [0, 1, 7, 12, 13, 14]) (.seq (.reg [⟨some 18, none, .ld (some 3) (.t 7)⟩, ⟨some 19, none, .calv (.c (.fn (.func f0) [] [])) [.t 18]⟩, ⟨some 20, none, .un .not (.t 19)⟩] [0, 1, 12, 13, 14, 20]) (.cond (.t 20) (.seq (.reg [⟨some 4, none, .mov (.c (.nsl))⟩, ⟨some 5, none, .mov (.c (.i .i64 (31)))⟩] [4, 5]) (.ret)) (.skip))))) (.reg [⟨some 21, none, .bin .add (.t 14) (.c (.i .i64 (1)))⟩, ⟨some 14, none, .mov (.t 21)⟩] [0, 1, 12, 13, 14]))))))) (.seq (.seq (.reg [⟨some 22, none, .mov (.t 1)⟩, ⟨some 23, none, .len false (.t 22)⟩, ⟨some 24, none, .mov (.c (.i .i64 (0)))⟩] [0, 1, 22, 23, 24]) (.block 2 (.loop (.seq (.reg [⟨some 25, none, .bin .lss (.t 24) (.t 23)⟩] [0, 1, 22, 23, 24, 25]) (.seq (.cond (.t 25) (.skip) (.exit 2)) (.seq (.block 3 (.seq (.reg [⟨some 26, none, .ixs 2 (.t 22) (.t 24)⟩, ⟨some 27, none, .ld (some 2) (.t 26)⟩, ⟨some 9, none, .alloc [.i .i64 (0), .i .i64 (0)]⟩, ⟨none, none, .st 2 (.t 9) (.t 27)⟩] [0, 1, 9, 22, 23, 24]) (.seq (.reg [⟨some 28, none, .ld (some 2) (.t 9)⟩, ⟨some 29, none, .calv (.c (.fn (.func f1) [] [])) [.t 28]⟩, ⟨some 30, none, .un .not (.t 29)⟩] [0, 1, 22, 23, 24, 30]) (.cond (.t 30) (.seq (.reg [⟨some 4, none, .mov (.c (.nsl))⟩, ⟨some 5, none, .mov (.c (.i .i64 (33)))⟩] [4, 5]) (.ret)) (.skip))))) (.reg [⟨some 31, none, .bin .add (.t 24) (.c (.i .i64 (1)))⟩, ⟨some 24, none, .mov (.t 31)⟩] [0, 1, 22, 23, 24]))))))) (.seq (.seq (.reg [⟨some 32, none, .mov (.t 0)⟩, ⟨some 33, none, .len false (.t 32)⟩, ⟨some 34, none, .mov (.t 1)⟩, ⟨some 35, none, .len false (.t 34)⟩, ⟨some 36, none, .mm true (.t 33) (.t 35)⟩, ⟨some 37, none, .bin .gtr (.t 36) (.c (.i .i64 (9)))⟩] [0, 1, 37]) (.cond (.t 37) (.seq (.reg [⟨some 4, none, .mov (.c (.nsl))⟩, ⟨some 5, none, .mov (.c (.i .i64 (36)))⟩] [4, 5]) (.ret)) (.skip))) (.seq (.reg [⟨some 39, none, .mov (.t 0)⟩, ⟨some 40, none, .mov (.t 1)⟩, ⟨some 41, none, .calv (.c (.fn (.func f2) [] [])) [.t 39, .t 40, .c (.nsl)]⟩, ⟨some 38, none, .mov (.t 41)⟩, ⟨some 42, none, .ext (.t 38) 0⟩, ⟨some 43, none, .ext (.t 38) 1⟩, ⟨some 10, none, .mov (.t 42)⟩, ⟨some 11, none, .mov (.t 43)⟩] [10, 11]) (.seq (.seq (.reg [⟨some 44, none, .mov (.t 11)⟩, ⟨some 45, none, .un .not (.t 44)⟩] [10, 45]) (.cond (.t 45) (.seq (.reg [⟨some 4, none, .mov (.c (.nsl))⟩, ⟨some 5, none, .mov (.c (.i .i64 (3)))⟩] [4, 5]) (.ret)) (.skip))) (.seq (.reg [⟨some 46, none, .mov (.t 10)⟩, ⟨some 4, none, .mov (.t 46)⟩, ⟨some 5, none, .mov (.c (.i .i64 (0)))⟩] [4, 5]) (.ret)))))))
abbrev Low_bung_Seat (P : Program) (f f0 f1 f2 : Nat) : Prop := lowF P f = some (47, [.tmp 4, .tmp 5], (ic_bung_Seat f0 f1 f2).erase)
def ic_potbankref03_seated (f0 f1 : Nat) : IC := .seq (.reg [⟨some 6, none, .mov (.c (.nsl))⟩, ⟨some 7, none, .mov (.c (.b false))⟩] [0, 1, 2]) (.seq (.reg [⟨some 12, none, .mov (.t 1)⟩, ⟨some 13, none, .len false (.t 12)⟩, ⟨some 8, none, .mov (.t 13)⟩] [0, 1, 2, 8]) (.seq (.seq (.reg [⟨some 14, none, .mov (.t 8)⟩, ⟨some 15, none, .mov (.t 0)⟩, ⟨some 16, none, .len false (.t 15)⟩, ⟨some 17, none, .bin .eql (.t 14) (.t 16)⟩] [0, 1, 2, 8, 17]) (.cond (.t 17) (.seq (.reg [⟨some 18, none, .mov (.t 1)⟩, ⟨some 6, none, .mov (.t 18)⟩, ⟨some 7, none, .mov (.c (.b true))⟩] [6, 7]) (.ret)) (.skip))) (.seq (.seq (.reg [⟨some 9, none, .mov (.c (.i .i64 (0)))⟩] [0, 1, 2, 8, 9]) (.block 0 (.loop (.seq (.seq (.reg [⟨some 19, none, .mov (.t 9)⟩, ⟨some 20, none, .mov (.t 2)⟩, ⟨some 21, none, .bin .lss (.t 19) (.t 20)⟩] [0, 1, 2, 8, 9, 21]) (.cond (.t 21) (.skip) (.exit 0))) (.seq (.block 1 (.seq (.seq (.reg [⟨some 24, none, .mov (.t 0)⟩, ⟨some 25, none, .mov (.t 8)⟩, ⟨some 26, none, .ixs 1 (.t 24) (.t 25)⟩, ⟨some 27, none, .ld none (.t 26)⟩, ⟨some 28, none, .mov (.t 9)⟩, ⟨some 29, none, .ixs 1 (.t 27) (.t 28)⟩, ⟨some 30, none, .ld none (.t 29)⟩, ⟨some 31, none, .un .not (.t 30)⟩, ⟨some 32, none, .mov (.t 31)⟩, ⟨some 33, some (32, false), .mov (.t 1)⟩, ⟨some 34, some (32, false), .mov (.t 9)⟩, ⟨some 35, some (32, false), .calv (.c (.fn (.func f0) [] [])) [.t 33, .t 34]⟩, ⟨some 36, none, .pick (.t 32) (.c (.b true)) (.t 35)⟩] [0, 1, 2, 8, 9, 36]) (.cond (.t 36) (.exit 1) (.skip))) (.seq (.reg [⟨some 38, none, .mov (.t 0)⟩, ⟨some 39, none, .bsl false 1 0 [.i .i64 (0)] []⟩, ⟨some 40, none, .mov (.t 1)⟩, ⟨some 41, none, .app 1 8 (.t 39) (.t 40)⟩, ⟨some 42, none, .mov (.t 9)⟩, ⟨some 43, none, .bsl false 1 1 [.i .i64 (0)] [(0, (.t 42))]⟩, ⟨some 44, none, .app 1 8 (.t 41) (.t 43)⟩, ⟨some 45, none, .mov (.t 2)⟩, ⟨some 46, none, .calv (.c (.fn (.func f1) [] [])) [.t 38, .t 44, .t 45]⟩, ⟨some 37, none, .mov (.t 46)⟩, ⟨some 47, none, .ext (.t 37) 0⟩, ⟨some 48, none, .ext (.t 37) 1⟩, ⟨some 10, none, .mov (.t 47)⟩, ⟨some 11, none, .mov (.t 48)⟩] [0, 1, 2, 8, 9, 10, 11]) (.seq (.reg [⟨some 49, none, .mov (.t 11)⟩] [0, 1, 2, 8, 9, 10, 49]) (.cond (.t 49) (.seq (.reg [⟨some 50, none, .mov (.t 10)⟩, ⟨some 6, none, .mov (.t 50)⟩, ⟨some 7, none, .mov (.c (.b true))⟩] [6, 7]) (.ret)) (.skip)))))) (.reg [⟨some 22, none, .mov (.t 9)⟩, ⟨some 23, none, .bin .add (.t 22) (.c (.i .i64 (1)))⟩, ⟨some 9, none, .mov (.t 23)⟩] [0, 1, 2, 8, 9])))))) (.seq (.reg [⟨some 6, none, .mov (.c (.nsl))⟩, ⟨some 7, none, .mov (.c (.b false))⟩] [6, 7]) (.ret)))))
abbrev Low_potbankref03_seated (P : Program) (f f0 f1 : Nat) : Prop := lowF P f = some (51, [.tmp 6, .tmp 7], (ic_potbankref03_seated f0 f1).erase)
def ic_potbankref03_Seat (f0 f1 f2 f3 : Nat) : IC := .seq (.reg [⟨some 4, none, .mov (.c (.nsl))⟩, ⟨some 5, none, .mov (.c (.i .i64 (0)))⟩] [0, 1]) (.seq (.seq (.reg [⟨some 6, none, .mov (.c (.i .i64 (0)))⟩] [0, 1, 6]) (.block 0 (.loop (.seq (.seq (.reg [⟨some 14, none, .mov (.t 6)⟩, ⟨some 15, none, .mov (.t 0)⟩, ⟨some 16, none, .len false (.t 15)⟩, ⟨some 17, none, .bin .lss (.t 14) (.t 16)⟩] [0, 1, 6, 17]) (.cond (.t 17) (.skip) (.exit 0))) (.seq (.block 1 (.seq (.reg [⟨some 20, none, .mov (.t 0)⟩, ⟨some 21, none, .mov (.t 6)⟩, ⟨some 22, none, .ixs 3 (.t 20) (.t 21)⟩, ⟨some 23, none, .ld (some 3) (.t 22)⟩, ⟨some 24, none, .calv (.c (.fn (.func f0) [] [])) [.t 23]⟩, ⟨some 25, none, .bin .neq (.t 24) (.c (.i .i64 (0)))⟩] [0, 1, 6, 25]) (.cond (.t 25) (.seq (.reg [⟨some 4, none, .mov (.c (.nsl))⟩, ⟨some 5, none, .mov (.c (.i .i64 (31)))⟩] [4, 5]) (.ret)) (.skip)))) (.reg [⟨some 18, none, .mov (.t 6)⟩, ⟨some 19, none, .bin .add (.t 18) (.c (.i .i64 (1)))⟩, ⟨some 6, none, .mov (.t 19)⟩] [0, 1, 6])))))) (.seq (.seq (.reg [⟨some 7, none, .mov (.c (.i .i64 (0)))⟩] [0, 1, 7]) (.block 2 (.loop (.seq (.seq (.reg [⟨some 26, none, .mov (.t 7)⟩, ⟨some 27, none, .mov (.t 1)⟩, ⟨some 28, none, .len false (.t 27)⟩, ⟨some 29, none, .bin .lss (.t 26) (.t 28)⟩] [0, 1, 7, 29]) (.cond (.t 29) (.skip) (.exit 2))) (.seq (.block 3 (.seq (.reg [⟨some 32, none, .mov (.t 1)⟩, ⟨some 33, none, .mov (.t 7)⟩, ⟨some 34, none, .ixs 2 (.t 32) (.t 33)⟩, ⟨some 35, none, .ld (some 2) (.t 34)⟩, ⟨some 36, none, .calv (.c (.fn (.func f1) [] [])) [.t 35]⟩, ⟨some 37, none, .bin .neq (.t 36) (.c (.i .i64 (0)))⟩] [0, 1, 7, 37]) (.cond (.t 37) (.seq (.reg [⟨some 4, none, .mov (.c (.nsl))⟩, ⟨some 5, none, .mov (.c (.i .i64 (33)))⟩] [4, 5]) (.ret)) (.skip)))) (.reg [⟨some 30, none, .mov (.t 7)⟩, ⟨some 31, none, .bin .add (.t 30) (.c (.i .i64 (1)))⟩, ⟨some 7, none, .mov (.t 31)⟩] [0, 1, 7])))))) (.seq (.seq (.reg [⟨some 38, none, .mov (.t 0)⟩, ⟨some 39, none, .len false (.t 38)⟩, ⟨some 40, none, .bin .gtr (.t 39) (.c (.i .i64 (9)))⟩, ⟨some 41, none, .mov (.t 40)⟩, ⟨some 42, some (41, false), .mov (.t 1)⟩, ⟨some 43, some (41, false), .len false (.t 42)⟩, ⟨some 44, some (41, false), .bin .gtr (.t 43) (.c (.i .i64 (9)))⟩, ⟨some 45, none, .pick (.t 41) (.c (.b true)) (.t 44)⟩] [0, 1, 45]) (.cond (.t 45) (.seq (.reg [⟨some 4, none, .mov (.c (.nsl))⟩, ⟨some 5, none, .mov (.c (.i .i64 (36)))⟩] [4, 5]) (.ret)) (.skip))) (.seq (.reg [⟨some 8, none, .mov (.c (.nsl))⟩] [0, 1, 8]) (.seq (.seq (.reg [⟨some 9, none, .mov (.c (.i .i64 (0)))⟩] [0, 1, 8, 9]) (.block 4 (.loop (.seq (.seq (.reg [⟨some 46, none, .mov (.t 9)⟩, ⟨some 47, none, .mov (.t 0)⟩, ⟨some 48, none, .len false (.t 47)⟩, ⟨some 49, none, .bin .lss (.t 46) (.t 48)⟩] [0, 1, 8, 9, 49]) (.cond (.t 49) (.skip) (.exit 4))) (.seq (.block 5 (.seq (.reg [⟨some 10, none, .mov (.c (.nsl))⟩] [0, 1, 8, 9, 10]) (.seq (.seq (.reg [⟨some 11, none, .mov (.c (.i .i64 (0)))⟩] [0, 1, 8, 9, 10, 11]) (.block 6 (.loop (.seq (.seq (.reg [⟨some 52, none, .mov (.t 11)⟩, ⟨some 53, none, .mov (.t 1)⟩, ⟨some 54, none, .len false (.t 53)⟩, ⟨some 55, none, .bin .lss (.t 52) (.t 54)⟩] [0, 1, 8, 9, 10, 11, 55]) (.cond (.t 55) (.skip) (.exit 6))) (.seq (.block 7 (.drg [(0, ⟨some 58, none, .mov (.t 10)⟩), (0, ⟨some 59, none, .mov (.t 0)⟩), (0, ⟨some 60, none, .mov (.t 9)⟩), (0, ⟨some 61, none, .ixs 3 (.t 59) (.t 60)⟩), (0, ⟨some 62, none, .ld (some 3) (.t 61)⟩), (0, ⟨some 63, none, .mov (.t 1)⟩), (0, ⟨some 64, none, .mov (.t 11)⟩), (0, ⟨some 65, none, .ixs 2 (.t 63) (.t 64)⟩), (0, ⟨some 66, none, .ld (some 2) (.t 65)⟩), (0, ⟨some 67, none, .calv (.c (.fn (.func f2) [] [])) [.t 62, .t 66]⟩), (0, ⟨some 68, none, .bin .eql (.t 67) (.c (.i .i64 (1)))⟩), (1, ⟨some 69, none, .bsl false 1 1 [.b false] [(0, (.t 68))]⟩), (1, ⟨some 70, none, .app 1 1 (.t 58) (.t 69)⟩), (0, ⟨some 10, none, .mov (.t 70)⟩)] 12 [0, 1, 8, 9, 10, 11])) (.reg [⟨some 56, none, .mov (.t 11)⟩, ⟨some 57, none, .bin .add (.t 56) (.c (.i .i64 (1)))⟩, ⟨some 11, none, .mov (.t 57)⟩] [0, 1, 8, 9, 10, 11])))))) (.reg [⟨some 71, none, .mov (.t 8)⟩, ⟨some 72, none, .mov (.t 10)⟩, ⟨some 73, none, .bsl false 1 1 [.nsl] [(0, (.t 72))]⟩, ⟨some 74, none, .app 1 24 (.t 71) (.t 73)⟩, ⟨some 8, none, .mov (.t 74)⟩] [0, 1, 8, 9])))) (.reg [⟨some 50, none, .mov (.t 9)⟩, ⟨some 51, none, .bin .add (.t 50) (.c (.i .i64 (1)))⟩, ⟨some 9, none, .mov (.t 51)⟩] [0, 1, 8, 9])))))) (.seq (.reg [⟨some 76, none, .mov (.t 8)⟩, ⟨some 77, none, .mov (.t 1)⟩, ⟨some 78, none, .len false (.t 77)⟩, ⟨some 79, none, .calv (.c (.fn (.func f3) [] [])) [.t 76, .c (.nsl), .t 78]⟩, ⟨some 75, none, .mov (.t 79)⟩, ⟨some 80, none, .ext (.t 75) 0⟩, ⟨some 81, none, .ext (.t 75) 1⟩, ⟨some 12, none, .mov (.t 80)⟩, ⟨some 13, none, .mov (.t 81)⟩] [12, 13]) (.seq (.seq (.reg [⟨some 82, none, .mov (.t 13)⟩, ⟨some 83, none, .un .not (.t 82)⟩] [12, 83]) (.cond (.t 83) (.seq (.reg [⟨some 4, none, .mov (.c (.nsl))⟩, ⟨some 5, none, .mov (.c (.i .i64 (3)))⟩] [4, 5]) (.ret)) (.skip))) (.seq (.reg [⟨some 84, none, .mov (.t 12)⟩, ⟨some 4, none, .mov (.t 84)⟩, ⟨some 5, none, .mov (.c (.i .i64 (0)))⟩] [4, 5]) (.ret)))))))))
abbrev Low_potbankref03_Seat (P : Program) (f f0 f1 f2 f3 : Nat) : Prop := lowF P f = some (85, [.tmp 4, .tmp 5], (ic_potbankref03_Seat f0 f1 f2 f3).erase)
def ic_potbankref01_Has : IC := .seq (.reg [⟨some 4, none, .mov (.c (.b false))⟩] [0, 1]) (.seq (.seq (.reg [⟨some 5, none, .mov (.c (.i .i64 (0)))⟩] [0, 1, 5]) (.block 0 (.loop (.seq (.seq (.reg [⟨some 6, none, .mov (.t 5)⟩, ⟨some 7, none, .mov (.t 0)⟩, ⟨some 8, none, .len false (.t 7)⟩, ⟨some 9, none, .bin .lss (.t 6) (.t 8)⟩] [0, 1, 5, 9]) (.cond (.t 9) (.skip) (.exit 0))) (.seq (.block 1 (.seq (.reg [⟨some 12, none, .mov (.t 0)⟩, ⟨some 13, none, .mov (.t 5)⟩, ⟨some 14, none, .ixs 1 (.t 12) (.t 13)⟩, ⟨some 15, none, .ld none (.t 14)⟩, ⟨some 16, none, .mov (.t 1)⟩, ⟨some 17, none, .bin .eql (.t 15) (.t 16)⟩] [0, 1, 5, 17]) (.cond (.t 17) (.seq (.reg [⟨some 4, none, .mov (.c (.b true))⟩] [4]) (.ret)) (.skip)))) (.reg [⟨some 10, none, .mov (.t 5)⟩, ⟨some 11, none, .bin .add (.t 10) (.c (.i .i64 (1)))⟩, ⟨some 5, none, .mov (.t 11)⟩] [0, 1, 5])))))) (.seq (.reg [⟨some 4, none, .mov (.c (.b false))⟩] [4]) (.ret)))
abbrev Low_potbankref01_Has (P : Program) (f : Nat) : Prop := lowF P f = some (18, [.tmp 4], (ic_potbankref01_Has).erase)

abbrev Bg := Rg × List Sag
abbrev bgC (b : Bg) : List V := bungC b.1 b.2
/-- The first spots for those from the (n - r)-th on, none of them taken. -/
def seatS (fit : Nat → Nat → Bool) (n ns : Nat) : Nat → List Int → Option (List Int)
  | 0, out => some out
  | r + 1, out => (List.range ns).findSome? fun (k : Nat) => if (decide ((k : Int) ∈ out) || !fit (n - (r + 1)) k) = true then none else seatS fit n ns r (out ++ [(k : Int)])
def fitB (l : List Bg) (s : List Spt) (i k : Nat) : Bool := match l[i]?, s[k]? with | some b, some x => fitsS b.1 b.2 x == 1 | _, _ => false
theorem seatS_none {fit : Nat → Nat → Bool} {n ns r : Nat} {out : List Int} (h : ∀ j, j < ns → (if (decide ((j : Int) ∈ out) || !fit (n - (r + 1)) j) = true then none else seatS fit n ns r (out ++ [(j : Int)])) = none) : seatS fit n ns (r + 1) out = none := by
  rw [seatS, List.findSome?_eq_none_iff]
  exact fun j hj => h j (by simpa using hj)
theorem seatS_some {fit : Nat → Nat → Bool} {n ns r k : Nat} {out b : List Int} (hk : k < ns) (h : ∀ j, j < k → (if (decide ((j : Int) ∈ out) || !fit (n - (r + 1)) j) = true then none else seatS fit n ns r (out ++ [(j : Int)])) = none)
    (hf : (if (decide ((k : Int) ∈ out) || !fit (n - (r + 1)) k) = true then none else seatS fit n ns r (out ++ [(k : Int)])) = some b) : seatS fit n ns (r + 1) out = some b := by
  rw [seatS]
  exact findSome_range hk h hf
theorem seatS_len {fit : Nat → Nat → Bool} {n ns : Nat} : ∀ {r : Nat} {out b : List Int}, seatS fit n ns r out = some b → b.length = out.length + r
  | 0, out, b, h => by cases h; rfl
  | r + 1, out, b, h => by
    rw [seatS] at h
    obtain ⟨k, _, hk⟩ := List.exists_of_findSome?_eq_some h
    split at hk
    · cases hk
    · have := seatS_len hk; simp at this; omega
def seatV (o : Option (List Int)) : V := .tup [.fsl ((o.getD []).map intC), .b o.isSome]

def C_seats (P : Program) (f : Nat) : Prop := ∀ (r : Nat) (l : List Bg) (s : List Spt) (out : List Int), (∀ b ∈ l, bungB b.1 b.2 = true) → l.length ≤ 9 → s.length ≤ 9 → out.length + r = l.length → Snd P f [.fsl (l.map bgC), .fsl (s.map Spt.c), .fsl (out.map intC)] [] (seatV (seatS (fitB l s) l.length s.length r out)) []
theorem ok_seats (hm : P.follows .mixedOrders = true) {f f0 f1 f2 : Nat} (low : Low_bung_seats P f f0 f1 f2 f) (h0 : C_Contains P f0) (h1 : C_fits P f1) (h2 : C_CloneI P f2) : C_seats P f := by
  intro r
  induction r with
  | zero =>
    intro l s out hv hl hs ho
    have hc : ((out.length : Int) == (l.length : Int)) = true := by simp; omega
    refine snd_ic hm low (by simp) ?_
    unfold ic_bung_seats
    simp -dsimp -implicitDefEqProofs only [qq, Nat.reduceBEq, reduceIte, Nat.reduceAdd, Nat.reduceSub, Nat.reduceLeDiff, Nat.reduceLT, Nat.reduceMul, Nat.reduceEqDiff, Int.reduceEq, Int.reduceBEq, Int.reduceBNe, Int.reduceLT, Int.reduceLE, Int.reduceGT, Int.reduceGE, Int.reduceNeg, Int.reduceAdd, Int.reduceSub, reduceCtorEq, List.reduceReplicate, ← List.map_take, ← List.map_drop]
    simp -dsimp -implicitDefEqProofs only [hc, qq, Nat.reduceBEq, reduceIte, Nat.reduceAdd, Nat.reduceSub, Nat.reduceLeDiff, Nat.reduceLT, Nat.reduceMul, Nat.reduceEqDiff, Int.reduceEq, Int.reduceBEq, Int.reduceBNe, Int.reduceLT, Int.reduceLE, Int.reduceGT, Int.reduceGE, Int.reduceNeg, Int.reduceAdd, Int.reduceSub, reduceCtorEq, List.reduceReplicate, ← List.map_take, ← List.map_drop]
    exact Ends.ret rfl (frz_keep2 rfl rfl)
  | succ r ih =>
    intro l s out hv hl hs ho
    have hc : ((out.length : Int) == (l.length : Int)) = false := by simp; omega
    obtain ⟨b, hb, hbm, _, _⟩ := next_of (show out.length < l.length by omega)
    have hat : l.length - (r + 1) = out.length := by omega
    refine snd_ic hm low (by simp) ?_
    unfold ic_bung_seats
    simp -dsimp -implicitDefEqProofs only [qq, Nat.reduceBEq, reduceIte, Nat.reduceAdd, Nat.reduceSub, Nat.reduceLeDiff, Nat.reduceLT, Nat.reduceMul, Nat.reduceEqDiff, Int.reduceEq, Int.reduceBEq, Int.reduceBNe, Int.reduceLT, Int.reduceLE, Int.reduceGT, Int.reduceGE, Int.reduceNeg, Int.reduceAdd, Int.reduceSub, reduceCtorEq, List.reduceReplicate, ← List.map_take, ← List.map_drop]
    simp -dsimp -implicitDefEqProofs only [hc, qq, Nat.reduceBEq, reduceIte, Nat.reduceAdd, Nat.reduceSub, Nat.reduceLeDiff, Nat.reduceLT, Nat.reduceMul, Nat.reduceEqDiff, Int.reduceEq, Int.reduceBEq, Int.reduceBNe, Int.reduceLT, Int.reduceLE, Int.reduceGT, Int.reduceGE, Int.reduceNeg, Int.reduceAdd, Int.reduceSub, reduceCtorEq, List.reduceReplicate, ← List.map_take, ← List.map_drop]
    refine loopI_st (fun k : Nat => s.length - k) (fun k E H => k ≤ s.length ∧ E = [(0, .fsl (l.map bgC)), (1, .fsl (s.map Spt.c)), (2, .fsl (out.map intC)), (8, .i .i64 out.length), (20, .fsl (s.map Spt.c)), (21, .i .i64 s.length), (22, .i .i64 k)] ∧
      ∀ j, j < k → (if (decide ((j : Int) ∈ out) || !fitB l s (l.length - (r + 1)) j) = true then none else seatS (fitB l s) l.length s.length r (out ++ [(j : Int)])) = none) 0 ⟨by omega, rfl, fun j hj => by omega⟩ ?_
    rintro k _ H ⟨hk, rfl, hno⟩
    rcases Nat.lt_or_ge k s.length with hkl | hkl
    · have hc : decide ((k : Int) < (s.length : Int)) = true := by simpa using hkl
      obtain ⟨x, hx, hxm, _, _⟩ := next_of hkl
      have hwk : IntKind.i64.wrap ((k : Int) + 1) = ((k + 1 : Nat) : Int) := wrap_succ (by omega)
      have hfb : fitB l s (l.length - (r + 1)) k = (fitsS b.1 b.2 x == 1) := by rw [hat]; simp only [fitB, hb, hx]
      have next : (if (decide ((k : Int) ∈ out) || !fitB l s (l.length - (r + 1)) k) = true then none else seatS (fitB l s) l.length s.length r (out ++ [(k : Int)])) = none → ∀ j, j < k + 1 → (if (decide ((j : Int) ∈ out) || !fitB l s (l.length - (r + 1)) j) = true then none else seatS (fitB l s) l.length s.length r (out ++ [(j : Int)])) = none := fun h j hj => by
        rcases Nat.lt_succ_iff_lt_or_eq.1 hj with g | rfl
        · exact hno j g
        · exact h
      simp -dsimp -implicitDefEqProofs only [hc, hx, Spt.c, qq, Nat.reduceBEq, reduceIte, Nat.reduceAdd, Nat.reduceSub, Nat.reduceLeDiff, Nat.reduceLT, Nat.reduceMul, Nat.reduceEqDiff, Int.reduceEq, Int.reduceBEq, Int.reduceBNe, Int.reduceLT, Int.reduceLE, Int.reduceGT, Int.reduceGE, Int.reduceNeg, Int.reduceAdd, Int.reduceSub, reduceCtorEq, List.reduceReplicate, ← List.map_take, ← List.map_drop]
      refine callI_pure (h0 out k (by omega)) rfl rfl ?_
      cases hin : decide ((k : Int) ∈ out)
      case true =>
        simp -dsimp -implicitDefEqProofs only [hwk, qq, Nat.reduceBEq, reduceIte, Nat.reduceAdd, Nat.reduceSub, Nat.reduceLeDiff, Nat.reduceLT, Nat.reduceMul, Nat.reduceEqDiff, Int.reduceEq, Int.reduceBEq, Int.reduceBNe, Int.reduceLT, Int.reduceLE, Int.reduceGT, Int.reduceGE, Int.reduceNeg, Int.reduceAdd, Int.reduceSub, reduceCtorEq, List.reduceReplicate, ← List.map_take, ← List.map_drop]
        exact ⟨k + 1, by omega, by omega, rfl, next (by rw [hin]; rfl)⟩
      simp -dsimp -implicitDefEqProofs only [hb, bgC, bungC, Rg.c, qq, Nat.reduceBEq, reduceIte, Nat.reduceAdd, Nat.reduceSub, Nat.reduceLeDiff, Nat.reduceLT, Nat.reduceMul, Nat.reduceEqDiff, Int.reduceEq, Int.reduceBEq, Int.reduceBNe, Int.reduceLT, Int.reduceLE, Int.reduceGT, Int.reduceGE, Int.reduceNeg, Int.reduceAdd, Int.reduceSub, reduceCtorEq, List.reduceReplicate, ← List.map_take, ← List.map_drop]
      refine callI_pure (h1 b.1 b.2 x (hv b hbm)) rfl rfl ?_
      cases hf : (fitsS b.1 b.2 x == 1)
      case false =>
        have hf2 : (fitsS b.1 b.2 x != 1) = true := by rw [bne, hf]; rfl
        simp -dsimp -implicitDefEqProofs only [hf2, hwk, qq, Nat.reduceBEq, reduceIte, Nat.reduceAdd, Nat.reduceSub, Nat.reduceLeDiff, Nat.reduceLT, Nat.reduceMul, Nat.reduceEqDiff, Int.reduceEq, Int.reduceBEq, Int.reduceBNe, Int.reduceLT, Int.reduceLE, Int.reduceGT, Int.reduceGE, Int.reduceNeg, Int.reduceAdd, Int.reduceSub, reduceCtorEq, List.reduceReplicate, ← List.map_take, ← List.map_drop]
        exact ⟨k + 1, by omega, by omega, rfl, next (by rw [hfb, hf]; simp)⟩
      have hf2 : (fitsS b.1 b.2 x != 1) = false := by rw [bne, hf]; rfl
      simp -dsimp -implicitDefEqProofs only [hf2, qq, Nat.reduceBEq, reduceIte, Nat.reduceAdd, Nat.reduceSub, Nat.reduceLeDiff, Nat.reduceLT, Nat.reduceMul, Nat.reduceEqDiff, Int.reduceEq, Int.reduceBEq, Int.reduceBNe, Int.reduceLT, Int.reduceLE, Int.reduceGT, Int.reduceGE, Int.reduceNeg, Int.reduceAdd, Int.reduceSub, reduceCtorEq, List.reduceReplicate, ← List.map_take, ← List.map_drop]
      refine callI_x (h2 _ out (by omega)) fun v Hn hn => ?_
      simp -dsimp -implicitDefEqProofs only [qq, Nat.reduceBEq, reduceIte, Nat.reduceAdd, Nat.reduceSub, Nat.reduceLeDiff, Nat.reduceLT, Nat.reduceMul, Nat.reduceEqDiff, Int.reduceEq, Int.reduceBEq, Int.reduceBNe, Int.reduceLT, Int.reduceLE, Int.reduceGT, Int.reduceGE, Int.reduceNeg, Int.reduceAdd, Int.reduceSub, reduceCtorEq, List.reduceReplicate, ← List.map_take, ← List.map_drop]
      refine app_own (ys := [[.i .i64 k]]) (hn.own.app _) (by decide) (by decide) (by simp [Sh.shown, gapp]) (by simp [V.one]) (by simp; omega) fun v2 H2 ho2 ha2 hf2 => ?_
      obtain ⟨p2, c2, e2, rfl, hp2⟩ := ho2.pos (by simp)
      simp -dsimp -implicitDefEqProofs only [qq, Nat.reduceBEq, reduceIte, Nat.reduceAdd, Nat.reduceSub, Nat.reduceLeDiff, Nat.reduceLT, Nat.reduceMul, Nat.reduceEqDiff, Int.reduceEq, Int.reduceBEq, Int.reduceBNe, Int.reduceLT, Int.reduceLE, Int.reduceGT, Int.reduceGE, Int.reduceNeg, Int.reduceAdd, Int.reduceSub, reduceCtorEq, List.reduceReplicate, ← List.map_take, ← List.map_drop]
      refine callI_give (fun i => i == p2) (.cons (.keep _) (.cons (.keep _) (.cons (give_lit (rows := (out ++ [(k : Int)]).map intC) (by simp) (by rw [hp2]; simp) (by simp) (bel_ints _)) .nil))) ?_
      refine callI_pure (ih l s (out ++ [(k : Int)]) hv hl hs (by simp; omega)) rfl rfl ?_
      have hstep : (if (decide ((k : Int) ∈ out) || !fitB l s (l.length - (r + 1)) k) = true then none else seatS (fitB l s) l.length s.length r (out ++ [(k : Int)])) = seatS (fitB l s) l.length s.length r (out ++ [(k : Int)]) := by rw [hin, hfb, hf]; rfl
      cases hr : seatS (fitB l s) l.length s.length r (out ++ [(k : Int)]) with
      | none =>
        simp -dsimp -implicitDefEqProofs only [seatV, Option.isSome, hwk, qq, Nat.reduceBEq, reduceIte, Nat.reduceAdd, Nat.reduceSub, Nat.reduceLeDiff, Nat.reduceLT, Nat.reduceMul, Nat.reduceEqDiff, Int.reduceEq, Int.reduceBEq, Int.reduceBNe, Int.reduceLT, Int.reduceLE, Int.reduceGT, Int.reduceGE, Int.reduceNeg, Int.reduceAdd, Int.reduceSub, reduceCtorEq, List.reduceReplicate, ← List.map_take, ← List.map_drop]
        exact ⟨k + 1, by omega, by omega, rfl, next (by rw [hstep, hr])⟩
      | some res =>
        simp -dsimp -implicitDefEqProofs only [seatV, Option.isSome, qq, Nat.reduceBEq, reduceIte, Nat.reduceAdd, Nat.reduceSub, Nat.reduceLeDiff, Nat.reduceLT, Nat.reduceMul, Nat.reduceEqDiff, Int.reduceEq, Int.reduceBEq, Int.reduceBNe, Int.reduceLT, Int.reduceLE, Int.reduceGT, Int.reduceGE, Int.reduceNeg, Int.reduceAdd, Int.reduceSub, reduceCtorEq, List.reduceReplicate, ← List.map_take, ← List.map_drop]
        rw [seatS_some hkl hno (by rw [hstep, hr])]
        exact Ends.ret rfl (frz_keep2 rfl rfl)
    · have hc : decide ((k : Int) < (s.length : Int)) = false := by simp; omega
      simp -dsimp -implicitDefEqProofs only [hc, qq, Nat.reduceBEq, reduceIte, Nat.reduceAdd, Nat.reduceSub, Nat.reduceLeDiff, Nat.reduceLT, Nat.reduceMul, Nat.reduceEqDiff, Int.reduceEq, Int.reduceBEq, Int.reduceBNe, Int.reduceLT, Int.reduceLE, Int.reduceGT, Int.reduceGE, Int.reduceNeg, Int.reduceAdd, Int.reduceSub, reduceCtorEq, List.reduceReplicate, ← List.map_take, ← List.map_drop]
      rw [seatS_none fun j hj => hno j (by omega)]
      exact Ends.ret rfl (frz2 .nil (.keep _ rfl))

def seatE (l : List Bg) (s : List Spt) : Int := if l.all (fun b => bungB b.1 b.2) then (if s.all spotB then (if 9 < l.length ∨ 9 < s.length then 36 else if (seatS (fitB l s) l.length s.length l.length []).isSome then 0 else 3) else 33) else 31
def seatR (l : List Bg) (s : List Spt) : List Int := if seatE l s = 0 then (seatS (fitB l s) l.length s.length l.length []).getD [] else []
def C_Seat (P : Program) (f : Nat) : Prop := ∀ (l : List Bg) (s : List Spt), l.length ≤ 1000000000000000 → s.length ≤ 1000000000000000 → Snd P f [.fsl (l.map bgC), .fsl (s.map Spt.c)] [] (.tup [.fsl ((seatR l s).map intC), .i .i64 (seatE l s)]) []
theorem ok_Seat (hm : P.follows .mixedOrders = true) {f f0 f1 f2 : Nat} (low : Low_bung_Seat P f f0 f1 f2) (h0 : C_isBung P f0) (h1 : C_isSpot P f1) (h2 : C_seats P f2) : C_Seat P f := by
  intro l s hl hs
  have none_ : ∀ (H : List Blk) (e : Int), e ≠ 0 → seatE l s = e → Frz 0 H (resV [.nsl, .i .i64 e]) (.tup [.fsl ((seatR l s).map intC), .i .i64 (seatE l s)]) := fun H e h0 h1 => by
    have : seatR l s = [] := by rw [seatR, if_neg (by rw [h1]; exact h0)]
    rw [h1, this]; exact frz2 .nil (.keep _ rfl)
  refine snd_ic hm low (by simp) ?_
  unfold ic_bung_Seat
  simp -dsimp -implicitDefEqProofs only [qq, Nat.reduceBEq, reduceIte, Nat.reduceAdd, Nat.reduceSub, Nat.reduceLeDiff, Nat.reduceLT, Nat.reduceMul, Nat.reduceEqDiff, Int.reduceEq, Int.reduceBEq, Int.reduceBNe, Int.reduceLT, Int.reduceLE, Int.reduceGT, Int.reduceGE, Int.reduceNeg, Int.reduceAdd, Int.reduceSub, reduceCtorEq, List.reduceReplicate, ← List.map_take, ← List.map_drop]
  refine loopI_st (fun k : Nat => l.length - k) (fun k E H => k ≤ l.length ∧ E = [(0, .fsl (l.map bgC)), (1, .fsl (s.map Spt.c)), (12, .fsl (l.map bgC)), (13, .i .i64 l.length), (14, .i .i64 k)] ∧ ∀ b ∈ l.take k, bungB b.1 b.2 = true) 0 ⟨by omega, rfl, by simp⟩ ?_
  rintro k _ H ⟨hk, rfl, hb⟩
  rcases Nat.lt_or_ge k l.length with hkl | hkl
  · have hc : decide ((k : Int) < (l.length : Int)) = true := by simpa using hkl
    obtain ⟨x, hx, hxm, htk, _⟩ := next_of hkl
    have hwk : IntKind.i64.wrap ((k : Int) + 1) = ((k + 1 : Nat) : Int) := wrap_succ (by omega)
    simp -dsimp -implicitDefEqProofs only [hc, hx, bgC, bungC, Rg.c, qq, Nat.reduceBEq, reduceIte, Nat.reduceAdd, Nat.reduceSub, Nat.reduceLeDiff, Nat.reduceLT, Nat.reduceMul, Nat.reduceEqDiff, Int.reduceEq, Int.reduceBEq, Int.reduceBNe, Int.reduceLT, Int.reduceLE, Int.reduceGT, Int.reduceGE, Int.reduceNeg, Int.reduceAdd, Int.reduceSub, reduceCtorEq, List.reduceReplicate, ← List.map_take, ← List.map_drop]
    refine callI_pure (h0 x.1 x.2) rfl rfl ?_
    cases hbx : bungB x.1 x.2
    · simp -dsimp -implicitDefEqProofs only [qq, Nat.reduceBEq, reduceIte, Nat.reduceAdd, Nat.reduceSub, Nat.reduceLeDiff, Nat.reduceLT, Nat.reduceMul, Nat.reduceEqDiff, Int.reduceEq, Int.reduceBEq, Int.reduceBNe, Int.reduceLT, Int.reduceLE, Int.reduceGT, Int.reduceGE, Int.reduceNeg, Int.reduceAdd, Int.reduceSub, reduceCtorEq, List.reduceReplicate, ← List.map_take, ← List.map_drop]
      have : l.all (fun b => bungB b.1 b.2) = false := by simp only [List.all_eq_false]; exact ⟨x, hxm, by rw [hbx]; simp⟩
      exact Ends.ret rfl (none_ _ 31 (by decide) (by rw [seatE, this]; rfl))
    · simp -dsimp -implicitDefEqProofs only [hwk, qq, Nat.reduceBEq, reduceIte, Nat.reduceAdd, Nat.reduceSub, Nat.reduceLeDiff, Nat.reduceLT, Nat.reduceMul, Nat.reduceEqDiff, Int.reduceEq, Int.reduceBEq, Int.reduceBNe, Int.reduceLT, Int.reduceLE, Int.reduceGT, Int.reduceGE, Int.reduceNeg, Int.reduceAdd, Int.reduceSub, reduceCtorEq, List.reduceReplicate, ← List.map_take, ← List.map_drop]
      refine ⟨k + 1, by omega, by omega, rfl, fun b hb' => ?_⟩
      rw [htk] at hb'
      rcases List.mem_append.1 hb' with g | g
      · exact hb b g
      · simp at g; rw [g]; exact hbx
  have hc : decide ((k : Int) < (l.length : Int)) = false := by simp; omega
  rw [List.take_of_length_le hkl] at hb
  have hall : l.all (fun b => bungB b.1 b.2) = true := by simpa using hb
  simp -dsimp -implicitDefEqProofs only [hc, qq, Nat.reduceBEq, reduceIte, Nat.reduceAdd, Nat.reduceSub, Nat.reduceLeDiff, Nat.reduceLT, Nat.reduceMul, Nat.reduceEqDiff, Int.reduceEq, Int.reduceBEq, Int.reduceBNe, Int.reduceLT, Int.reduceLE, Int.reduceGT, Int.reduceGE, Int.reduceNeg, Int.reduceAdd, Int.reduceSub, reduceCtorEq, List.reduceReplicate, ← List.map_take, ← List.map_drop]
  clear hc hkl hk
  refine loopI_st (fun k : Nat => s.length - k) (fun k E H => k ≤ s.length ∧ E = [(0, .fsl (l.map bgC)), (1, .fsl (s.map Spt.c)), (22, .fsl (s.map Spt.c)), (23, .i .i64 s.length), (24, .i .i64 k)] ∧ ∀ b ∈ s.take k, spotB b = true) 0 ⟨by omega, rfl, by simp⟩ ?_
  rintro k _ H ⟨hk, rfl, hsb⟩
  rcases Nat.lt_or_ge k s.length with hkl | hkl
  · have hc : decide ((k : Int) < (s.length : Int)) = true := by simpa using hkl
    obtain ⟨x, hx, hxm, htk, _⟩ := next_of hkl
    have hwk : IntKind.i64.wrap ((k : Int) + 1) = ((k + 1 : Nat) : Int) := wrap_succ (by omega)
    simp -dsimp -implicitDefEqProofs only [hc, hx, Spt.c, qq, Nat.reduceBEq, reduceIte, Nat.reduceAdd, Nat.reduceSub, Nat.reduceLeDiff, Nat.reduceLT, Nat.reduceMul, Nat.reduceEqDiff, Int.reduceEq, Int.reduceBEq, Int.reduceBNe, Int.reduceLT, Int.reduceLE, Int.reduceGT, Int.reduceGE, Int.reduceNeg, Int.reduceAdd, Int.reduceSub, reduceCtorEq, List.reduceReplicate, ← List.map_take, ← List.map_drop]
    refine callI_pure (h1 x) rfl rfl ?_
    cases hbx : spotB x
    · simp -dsimp -implicitDefEqProofs only [qq, Nat.reduceBEq, reduceIte, Nat.reduceAdd, Nat.reduceSub, Nat.reduceLeDiff, Nat.reduceLT, Nat.reduceMul, Nat.reduceEqDiff, Int.reduceEq, Int.reduceBEq, Int.reduceBNe, Int.reduceLT, Int.reduceLE, Int.reduceGT, Int.reduceGE, Int.reduceNeg, Int.reduceAdd, Int.reduceSub, reduceCtorEq, List.reduceReplicate, ← List.map_take, ← List.map_drop]
      have : s.all spotB = false := by simp only [List.all_eq_false]; exact ⟨x, hxm, by rw [hbx]; simp⟩
      exact Ends.ret rfl (none_ _ 33 (by decide) (by rw [seatE, hall, this]; rfl))
    · simp -dsimp -implicitDefEqProofs only [hwk, qq, Nat.reduceBEq, reduceIte, Nat.reduceAdd, Nat.reduceSub, Nat.reduceLeDiff, Nat.reduceLT, Nat.reduceMul, Nat.reduceEqDiff, Int.reduceEq, Int.reduceBEq, Int.reduceBNe, Int.reduceLT, Int.reduceLE, Int.reduceGT, Int.reduceGE, Int.reduceNeg, Int.reduceAdd, Int.reduceSub, reduceCtorEq, List.reduceReplicate, ← List.map_take, ← List.map_drop]
      refine ⟨k + 1, by omega, by omega, rfl, fun b hb' => ?_⟩
      rw [htk] at hb'
      rcases List.mem_append.1 hb' with g | g
      · exact hsb b g
      · simp at g; rw [g]; exact hbx
  have hc : decide ((k : Int) < (s.length : Int)) = false := by simp; omega
  rw [List.take_of_length_le hkl] at hsb
  have hsall : s.all spotB = true := by simpa using hsb
  simp -dsimp -implicitDefEqProofs only [hc, qq, Nat.reduceBEq, reduceIte, Nat.reduceAdd, Nat.reduceSub, Nat.reduceLeDiff, Nat.reduceLT, Nat.reduceMul, Nat.reduceEqDiff, Int.reduceEq, Int.reduceBEq, Int.reduceBNe, Int.reduceLT, Int.reduceLE, Int.reduceGT, Int.reduceGE, Int.reduceNeg, Int.reduceAdd, Int.reduceSub, reduceCtorEq, List.reduceReplicate, ← List.map_take, ← List.map_drop]
  refine brG_of (fun h9 => ?_) (fun h9 => ?_) <;> simp -dsimp -implicitDefEqProofs only [qq, Nat.reduceBEq, reduceIte, Nat.reduceAdd, Nat.reduceSub, Nat.reduceLeDiff, Nat.reduceLT, Nat.reduceMul, Nat.reduceEqDiff, Int.reduceEq, Int.reduceBEq, Int.reduceBNe, Int.reduceLT, Int.reduceLE, Int.reduceGT, Int.reduceGE, Int.reduceNeg, Int.reduceAdd, Int.reduceSub, reduceCtorEq, List.reduceReplicate, ← List.map_take, ← List.map_drop]
  · have h9' : 9 < l.length ∨ 9 < s.length := by have := of_decide_eq_true h9; omega
    exact Ends.ret rfl (none_ _ 36 (by decide) (by rw [seatE, hall, hsall, if_pos rfl, if_pos rfl, if_pos h9']))
  have h9' : ¬ (9 < l.length ∨ 9 < s.length) := by have := of_decide_eq_false h9; omega
  refine callI_give (fun _ => false) (.cons (.keep _) (.cons (.keep _) (.cons .nil .nil))) ?_
  rw [killB_no]
  refine callI_pure (h2 l.length l s [] (fun b hb' => hb b hb') (by omega) (by omega) (by simp)) rfl rfl ?_
  cases hr : seatS (fitB l s) l.length s.length l.length [] with
  | none =>
    simp -dsimp -implicitDefEqProofs only [seatV, Option.isSome, qq, Nat.reduceBEq, reduceIte, Nat.reduceAdd, Nat.reduceSub, Nat.reduceLeDiff, Nat.reduceLT, Nat.reduceMul, Nat.reduceEqDiff, Int.reduceEq, Int.reduceBEq, Int.reduceBNe, Int.reduceLT, Int.reduceLE, Int.reduceGT, Int.reduceGE, Int.reduceNeg, Int.reduceAdd, Int.reduceSub, reduceCtorEq, List.reduceReplicate, ← List.map_take, ← List.map_drop]
    exact Ends.ret rfl (none_ _ 3 (by decide) (by rw [seatE, hall, hsall, if_pos rfl, if_pos rfl, if_neg h9', hr]; rfl))
  | some res =>
    simp -dsimp -implicitDefEqProofs only [seatV, Option.isSome, qq, Nat.reduceBEq, reduceIte, Nat.reduceAdd, Nat.reduceSub, Nat.reduceLeDiff, Nat.reduceLT, Nat.reduceMul, Nat.reduceEqDiff, Int.reduceEq, Int.reduceBEq, Int.reduceBNe, Int.reduceLT, Int.reduceLE, Int.reduceGT, Int.reduceGE, Int.reduceNeg, Int.reduceAdd, Int.reduceSub, reduceCtorEq, List.reduceReplicate, ← List.map_take, ← List.map_drop]
    have hE : seatE l s = 0 := by rw [seatE, hall, hsall, if_pos rfl, if_pos rfl, if_neg h9', hr]; rfl
    have hR : seatR l s = res := by rw [seatR, if_pos hE, hr]; rfl
    rw [hE, hR]
    exact Ends.ret rfl (frz_keep2 rfl rfl)

def C_Has (P : Program) (f : Nat) : Prop := ∀ (l : List Int) (n : Int), l.length ≤ 1000000000000000 → Snd P f [.fsl (l.map intC), .i .i64 n] [] (.b (decide (n ∈ l))) []
theorem ok_Has (hm : P.follows .mixedOrders = true) {f : Nat} (low : Low_potbankref01_Has P f) : C_Has P f := by
  intro l n hl
  refine snd_ic hm low (by simp) ?_
  unfold ic_potbankref01_Has
  simp -dsimp -implicitDefEqProofs only [qq, Nat.reduceBEq, reduceIte, Nat.reduceAdd, Nat.reduceSub, Nat.reduceLeDiff, Nat.reduceLT, Nat.reduceMul, Nat.reduceEqDiff, Int.reduceEq, Int.reduceBEq, Int.reduceBNe, Int.reduceLT, Int.reduceLE, Int.reduceGT, Int.reduceGE, Int.reduceNeg, Int.reduceAdd, Int.reduceSub, reduceCtorEq, List.reduceReplicate, ← List.map_take, ← List.map_drop]
  refine loopI_st (fun k : Nat => l.length - k) (fun k E H => k ≤ l.length ∧ E = [(0, .fsl (l.map intC)), (1, .i .i64 n), (5, .i .i64 k)] ∧ (∀ x ∈ l.take k, x ≠ n)) 0 ⟨by omega, rfl, by simp⟩ ?_
  rintro k _ H ⟨hk, rfl, hn⟩
  rcases Nat.lt_or_ge k l.length with hkl | hkl
  · have hc : decide ((k : Int) < (l.length : Int)) = true := by simpa using hkl
    obtain ⟨x, hx, hxm, htk, _⟩ := next_of hkl
    have hwk : IntKind.i64.wrap ((k : Int) + 1) = ((k + 1 : Nat) : Int) := wrap_succ (by omega)
    simp -dsimp -implicitDefEqProofs only [hc, hx, intC, qq, Nat.reduceBEq, reduceIte, Nat.reduceAdd, Nat.reduceSub, Nat.reduceLeDiff, Nat.reduceLT, Nat.reduceMul, Nat.reduceEqDiff, Int.reduceEq, Int.reduceBEq, Int.reduceBNe, Int.reduceLT, Int.reduceLE, Int.reduceGT, Int.reduceGE, Int.reduceNeg, Int.reduceAdd, Int.reduceSub, reduceCtorEq, List.reduceReplicate, ← List.map_take, ← List.map_drop]
    refine brG_of (fun he => ?_) (fun he => ?_)
    · simp -dsimp -implicitDefEqProofs only [qq, Nat.reduceBEq, reduceIte, Nat.reduceAdd, Nat.reduceSub, Nat.reduceLeDiff, Nat.reduceLT, Nat.reduceMul, Nat.reduceEqDiff, Int.reduceEq, Int.reduceBEq, Int.reduceBNe, Int.reduceLT, Int.reduceLE, Int.reduceGT, Int.reduceGE, Int.reduceNeg, Int.reduceAdd, Int.reduceSub, reduceCtorEq, List.reduceReplicate, ← List.map_take, ← List.map_drop]
      refine Ends.plain rfl rfl ?_
      have : n ∈ l := by simp at he; rw [← he]; exact hxm
      simp [resV, this]
    · simp -dsimp -implicitDefEqProofs only [hwk, qq, Nat.reduceBEq, reduceIte, Nat.reduceAdd, Nat.reduceSub, Nat.reduceLeDiff, Nat.reduceLT, Nat.reduceMul, Nat.reduceEqDiff, Int.reduceEq, Int.reduceBEq, Int.reduceBNe, Int.reduceLT, Int.reduceLE, Int.reduceGT, Int.reduceGE, Int.reduceNeg, Int.reduceAdd, Int.reduceSub, reduceCtorEq, List.reduceReplicate, ← List.map_take, ← List.map_drop]
      refine ⟨k + 1, by omega, by omega, rfl, fun y hy => ?_⟩
      rw [htk] at hy
      rcases List.mem_append.1 hy with h | h
      · exact hn y h
      · simp at h; subst h; simpa using he
  · have hc : decide ((k : Int) < (l.length : Int)) = false := by simp; omega
    rw [List.take_of_length_le hkl] at hn
    simp -dsimp -implicitDefEqProofs only [hc, qq, Nat.reduceBEq, reduceIte, Nat.reduceAdd, Nat.reduceSub, Nat.reduceLeDiff, Nat.reduceLT, Nat.reduceMul, Nat.reduceEqDiff, Int.reduceEq, Int.reduceBEq, Int.reduceBNe, Int.reduceLT, Int.reduceLE, Int.reduceGT, Int.reduceGE, Int.reduceNeg, Int.reduceAdd, Int.reduceSub, reduceCtorEq, List.reduceReplicate, ← List.map_take, ← List.map_drop]
    exact Ends.plain rfl rfl (by have : n ∉ l := fun h => hn n h rfl; simp [resV, this])

abbrev boC (b : Bool) : List V := [.b b]
abbrev browC (l : List Bool) : List V := [.fsl (l.map boC)]
def matB (R : List (List Bool)) (i k : Nat) : Bool := ((R[i]?).getD [])[k]?.getD false
def C_seated (P : Program) (f : Nat) : Prop := ∀ (r : Nat) (R : List (List Bool)) (ns : Nat) (out : List Int), (∀ row ∈ R, row.length = ns) → R.length ≤ 9 → ns ≤ 9 → out.length + r = R.length → Snd P f [.fsl (R.map browC), .fsl (out.map intC), .i .i64 ns] [] (seatV (seatS (matB R) R.length ns r out)) []
theorem ok_seated (hm : P.follows .mixedOrders = true) {f f0 : Nat} (low : Low_potbankref03_seated P f f0 f) (h0 : C_Has P f0) : C_seated P f := by
  intro r
  induction r with
  | zero =>
    intro R ns out hR hl hs ho
    have hc : ((out.length : Int) == (R.length : Int)) = true := by simp; omega
    refine snd_ic hm low (by simp) ?_
    unfold ic_potbankref03_seated
    simp -dsimp -implicitDefEqProofs only [qq, Nat.reduceBEq, reduceIte, Nat.reduceAdd, Nat.reduceSub, Nat.reduceLeDiff, Nat.reduceLT, Nat.reduceMul, Nat.reduceEqDiff, Int.reduceEq, Int.reduceBEq, Int.reduceBNe, Int.reduceLT, Int.reduceLE, Int.reduceGT, Int.reduceGE, Int.reduceNeg, Int.reduceAdd, Int.reduceSub, reduceCtorEq, List.reduceReplicate, ← List.map_take, ← List.map_drop]
    simp -dsimp -implicitDefEqProofs only [hc, qq, Nat.reduceBEq, reduceIte, Nat.reduceAdd, Nat.reduceSub, Nat.reduceLeDiff, Nat.reduceLT, Nat.reduceMul, Nat.reduceEqDiff, Int.reduceEq, Int.reduceBEq, Int.reduceBNe, Int.reduceLT, Int.reduceLE, Int.reduceGT, Int.reduceGE, Int.reduceNeg, Int.reduceAdd, Int.reduceSub, reduceCtorEq, List.reduceReplicate, ← List.map_take, ← List.map_drop]
    exact Ends.ret rfl (frz_keep2 rfl rfl)
  | succ r ih =>
    intro R ns out hR hl hs ho
    have hc : ((out.length : Int) == (R.length : Int)) = false := by simp; omega
    obtain ⟨row, hrow, hrm, _, _⟩ := next_of (show out.length < R.length by omega)
    have hrl := hR row hrm
    have hat : R.length - (r + 1) = out.length := by omega
    refine snd_ic hm low (by simp) ?_
    unfold ic_potbankref03_seated
    simp -dsimp -implicitDefEqProofs only [qq, Nat.reduceBEq, reduceIte, Nat.reduceAdd, Nat.reduceSub, Nat.reduceLeDiff, Nat.reduceLT, Nat.reduceMul, Nat.reduceEqDiff, Int.reduceEq, Int.reduceBEq, Int.reduceBNe, Int.reduceLT, Int.reduceLE, Int.reduceGT, Int.reduceGE, Int.reduceNeg, Int.reduceAdd, Int.reduceSub, reduceCtorEq, List.reduceReplicate, ← List.map_take, ← List.map_drop]
    simp -dsimp -implicitDefEqProofs only [hc, qq, Nat.reduceBEq, reduceIte, Nat.reduceAdd, Nat.reduceSub, Nat.reduceLeDiff, Nat.reduceLT, Nat.reduceMul, Nat.reduceEqDiff, Int.reduceEq, Int.reduceBEq, Int.reduceBNe, Int.reduceLT, Int.reduceLE, Int.reduceGT, Int.reduceGE, Int.reduceNeg, Int.reduceAdd, Int.reduceSub, reduceCtorEq, List.reduceReplicate, ← List.map_take, ← List.map_drop]
    refine loopI_st (fun k : Nat => ns - k) (fun k E H => k ≤ ns ∧ E = [(0, .fsl (R.map browC)), (1, .fsl (out.map intC)), (2, .i .i64 ns), (8, .i .i64 out.length), (9, .i .i64 k)] ∧
      ∀ j, j < k → (if (decide ((j : Int) ∈ out) || !matB R (R.length - (r + 1)) j) = true then none else seatS (matB R) R.length ns r (out ++ [(j : Int)])) = none) 0 ⟨by omega, rfl, fun j hj => by omega⟩ ?_
    rintro k _ H ⟨hk, rfl, hno⟩
    rcases Nat.lt_or_ge k ns with hkl | hkl
    · have hc : decide ((k : Int) < (ns : Int)) = true := by simpa using hkl
      obtain ⟨b, hb, _, _, _⟩ := next_of (show k < row.length by omega)
      have hwk : IntKind.i64.wrap ((k : Int) + 1) = ((k + 1 : Nat) : Int) := wrap_succ (by omega)
      have hfb : matB R (R.length - (r + 1)) k = b := by rw [hat]; simp only [matB, hrow, Option.getD_some, hb]
      have next : (if (decide ((k : Int) ∈ out) || !matB R (R.length - (r + 1)) k) = true then none else seatS (matB R) R.length ns r (out ++ [(k : Int)])) = none → ∀ j, j < k + 1 → (if (decide ((j : Int) ∈ out) || !matB R (R.length - (r + 1)) j) = true then none else seatS (matB R) R.length ns r (out ++ [(j : Int)])) = none := fun h j hj => by
        rcases Nat.lt_succ_iff_lt_or_eq.1 hj with g | rfl
        · exact hno j g
        · exact h
      cases b
      case false =>
        simp -dsimp -implicitDefEqProofs only [hc, hrow, hb, hwk, qq, Nat.reduceBEq, reduceIte, Nat.reduceAdd, Nat.reduceSub, Nat.reduceLeDiff, Nat.reduceLT, Nat.reduceMul, Nat.reduceEqDiff, Int.reduceEq, Int.reduceBEq, Int.reduceBNe, Int.reduceLT, Int.reduceLE, Int.reduceGT, Int.reduceGE, Int.reduceNeg, Int.reduceAdd, Int.reduceSub, reduceCtorEq, List.reduceReplicate, ← List.map_take, ← List.map_drop]
        exact ⟨k + 1, by omega, by omega, rfl, next (by rw [hfb]; simp)⟩
      simp -dsimp -implicitDefEqProofs only [hc, hrow, hb, hwk, qq, Nat.reduceBEq, reduceIte, Nat.reduceAdd, Nat.reduceSub, Nat.reduceLeDiff, Nat.reduceLT, Nat.reduceMul, Nat.reduceEqDiff, Int.reduceEq, Int.reduceBEq, Int.reduceBNe, Int.reduceLT, Int.reduceLE, Int.reduceGT, Int.reduceGE, Int.reduceNeg, Int.reduceAdd, Int.reduceSub, reduceCtorEq, List.reduceReplicate, ← List.map_take, ← List.map_drop]
      refine callI_pure (h0 out k (by omega)) rfl rfl ?_
      cases hin : decide ((k : Int) ∈ out)
      case true =>
        simp -dsimp -implicitDefEqProofs only [hwk, qq, Nat.reduceBEq, reduceIte, Nat.reduceAdd, Nat.reduceSub, Nat.reduceLeDiff, Nat.reduceLT, Nat.reduceMul, Nat.reduceEqDiff, Int.reduceEq, Int.reduceBEq, Int.reduceBNe, Int.reduceLT, Int.reduceLE, Int.reduceGT, Int.reduceGE, Int.reduceNeg, Int.reduceAdd, Int.reduceSub, reduceCtorEq, List.reduceReplicate, ← List.map_take, ← List.map_drop]
        exact ⟨k + 1, by omega, by omega, rfl, next (by rw [hin]; rfl)⟩
      simp -dsimp -implicitDefEqProofs only [qq, Nat.reduceBEq, reduceIte, Nat.reduceAdd, Nat.reduceSub, Nat.reduceLeDiff, Nat.reduceLT, Nat.reduceMul, Nat.reduceEqDiff, Int.reduceEq, Int.reduceBEq, Int.reduceBNe, Int.reduceLT, Int.reduceLE, Int.reduceGT, Int.reduceGE, Int.reduceNeg, Int.reduceAdd, Int.reduceSub, reduceCtorEq, List.reduceReplicate, ← List.map_take, ← List.map_drop]
      refine app_emp (ys := out.map intC) (by decide) (by decide) rfl (fun r hr => by obtain ⟨x, _, rfl⟩ := List.mem_map.1 hr; exact ⟨rfl, rfl⟩) (by simp; omega) fun v Hn hn => ?_
      simp -dsimp -implicitDefEqProofs only [qq, Nat.reduceBEq, reduceIte, Nat.reduceAdd, Nat.reduceSub, Nat.reduceLeDiff, Nat.reduceLT, Nat.reduceMul, Nat.reduceEqDiff, Int.reduceEq, Int.reduceBEq, Int.reduceBNe, Int.reduceLT, Int.reduceLE, Int.reduceGT, Int.reduceGE, Int.reduceNeg, Int.reduceAdd, Int.reduceSub, reduceCtorEq, List.reduceReplicate, ← List.map_take, ← List.map_drop]
      refine app_own (ys := [[.i .i64 k]]) (hn.own.app _) (by decide) (by decide) (by simp [Sh.shown, gapp]) (by simp [V.one]) (by simp; omega) fun v2 H2 ho2 ha2 hf2 => ?_
      obtain ⟨p2, c2, e2, rfl, hp2⟩ := ho2.pos (by simp)
      simp -dsimp -implicitDefEqProofs only [qq, Nat.reduceBEq, reduceIte, Nat.reduceAdd, Nat.reduceSub, Nat.reduceLeDiff, Nat.reduceLT, Nat.reduceMul, Nat.reduceEqDiff, Int.reduceEq, Int.reduceBEq, Int.reduceBNe, Int.reduceLT, Int.reduceLE, Int.reduceGT, Int.reduceGE, Int.reduceNeg, Int.reduceAdd, Int.reduceSub, reduceCtorEq, List.reduceReplicate, ← List.map_take, ← List.map_drop]
      refine callI_give (fun i => i == p2) (.cons (.keep _) (.cons (give_lit (rows := (out ++ [(k : Int)]).map intC) (by simp) (by rw [hp2]; simp) (by simp) (bel_ints _)) (.same _))) ?_
      refine callI_pure (ih R ns (out ++ [(k : Int)]) hR hl hs (by simp; omega)) rfl rfl ?_
      have hstep : (if (decide ((k : Int) ∈ out) || !matB R (R.length - (r + 1)) k) = true then none else seatS (matB R) R.length ns r (out ++ [(k : Int)])) = seatS (matB R) R.length ns r (out ++ [(k : Int)]) := by rw [hin, hfb]; rfl
      cases hr : seatS (matB R) R.length ns r (out ++ [(k : Int)]) with
      | none =>
        simp -dsimp -implicitDefEqProofs only [seatV, Option.isSome, hwk, qq, Nat.reduceBEq, reduceIte, Nat.reduceAdd, Nat.reduceSub, Nat.reduceLeDiff, Nat.reduceLT, Nat.reduceMul, Nat.reduceEqDiff, Int.reduceEq, Int.reduceBEq, Int.reduceBNe, Int.reduceLT, Int.reduceLE, Int.reduceGT, Int.reduceGE, Int.reduceNeg, Int.reduceAdd, Int.reduceSub, reduceCtorEq, List.reduceReplicate, ← List.map_take, ← List.map_drop]
        exact ⟨k + 1, by omega, by omega, rfl, next (by rw [hstep, hr])⟩
      | some res =>
        simp -dsimp -implicitDefEqProofs only [seatV, Option.isSome, qq, Nat.reduceBEq, reduceIte, Nat.reduceAdd, Nat.reduceSub, Nat.reduceLeDiff, Nat.reduceLT, Nat.reduceMul, Nat.reduceEqDiff, Int.reduceEq, Int.reduceBEq, Int.reduceBNe, Int.reduceLT, Int.reduceLE, Int.reduceGT, Int.reduceGE, Int.reduceNeg, Int.reduceAdd, Int.reduceSub, reduceCtorEq, List.reduceReplicate, ← List.map_take, ← List.map_drop]
        rw [seatS_some hkl hno (by rw [hstep, hr])]
        exact Ends.ret rfl (frz_keep2 rfl rfl)
    · have hc : decide ((k : Int) < (ns : Int)) = false := by simp; omega
      simp -dsimp -implicitDefEqProofs only [hc, qq, Nat.reduceBEq, reduceIte, Nat.reduceAdd, Nat.reduceSub, Nat.reduceLeDiff, Nat.reduceLT, Nat.reduceMul, Nat.reduceEqDiff, Int.reduceEq, Int.reduceBEq, Int.reduceBNe, Int.reduceLT, Int.reduceLE, Int.reduceGT, Int.reduceGE, Int.reduceNeg, Int.reduceAdd, Int.reduceSub, reduceCtorEq, List.reduceReplicate, ← List.map_take, ← List.map_drop]
      rw [seatS_none fun j hj => hno j (by omega)]
      exact Ends.ret rfl (frz2 .nil (.keep _ rfl))

theorem seatS_congr {f g : Nat → Nat → Bool} {n ns : Nat} (h : ∀ i k, i < n → k < ns → f i k = g i k) : ∀ (r : Nat) (out : List Int), r ≤ n → seatS f n ns r out = seatS g n ns r out
  | 0, out, _ => rfl
  | r + 1, out, hr => by
    rw [seatS, seatS]
    have : ∀ k ∈ List.range ns, (if (decide ((k : Int) ∈ out) || !f (n - (r + 1)) k) = true then none else seatS f n ns r (out ++ [(k : Int)])) = (if (decide ((k : Int) ∈ out) || !g (n - (r + 1)) k) = true then none else seatS g n ns r (out ++ [(k : Int)])) := fun k hk => by
      rw [h (n - (r + 1)) k (by omega) (by simpa using hk), seatS_congr h r _ (by omega)]
    generalize List.range ns = L at this
    induction L with
    | nil => rfl
    | cons a L ih =>
      rw [List.findSome?_cons, List.findSome?_cons, this a (by simp), ih fun k hk => this k (by simp [hk])]

def rowF (l : List Bg) (s : List Spt) (i : Nat) : List Bool := (List.range s.length).map fun k => fitB l s i k
theorem ok_rSeat (hm : P.follows .mixedOrders = true) {f f0 f1 f2 f3 : Nat} (low : Low_potbankref03_Seat P f f0 f1 f2 f3) (h0 : C_Check P f0) (h1 : C_CheckSpot P f1) (h2 : C_fits P f2) (h3 : C_seated P f3) : C_Seat P f := by
  intro l s hl hs
  have none_ : ∀ (H : List Blk) (e : Int), e ≠ 0 → seatE l s = e → Frz 0 H (resV [.nsl, .i .i64 e]) (.tup [.fsl ((seatR l s).map intC), .i .i64 (seatE l s)]) := fun H e h0 h1 => by
    have : seatR l s = [] := by rw [seatR, if_neg (by rw [h1]; exact h0)]
    rw [h1, this]; exact frz2 .nil (.keep _ rfl)
  refine snd_ic hm low (by simp) ?_
  unfold ic_potbankref03_Seat
  simp -dsimp -implicitDefEqProofs only [qq, Nat.reduceBEq, reduceIte, Nat.reduceAdd, Nat.reduceSub, Nat.reduceLeDiff, Nat.reduceLT, Nat.reduceMul, Nat.reduceEqDiff, Int.reduceEq, Int.reduceBEq, Int.reduceBNe, Int.reduceLT, Int.reduceLE, Int.reduceGT, Int.reduceGE, Int.reduceNeg, Int.reduceAdd, Int.reduceSub, reduceCtorEq, List.reduceReplicate, ← List.map_take, ← List.map_drop]
  refine loopI_st (fun k : Nat => l.length - k) (fun k E H => k ≤ l.length ∧ E = [(0, .fsl (l.map bgC)), (1, .fsl (s.map Spt.c)), (6, .i .i64 k)] ∧ ∀ b ∈ l.take k, bungB b.1 b.2 = true) 0 ⟨by omega, rfl, by simp⟩ ?_
  rintro k _ H ⟨hk, rfl, hb⟩
  rcases Nat.lt_or_ge k l.length with hkl | hkl
  · have hc : decide ((k : Int) < (l.length : Int)) = true := by simpa using hkl
    obtain ⟨x, hx, hxm, htk, _⟩ := next_of hkl
    have hwk : IntKind.i64.wrap ((k : Int) + 1) = ((k + 1 : Nat) : Int) := wrap_succ (by omega)
    simp -dsimp -implicitDefEqProofs only [hc, hx, bgC, bungC, Rg.c, qq, Nat.reduceBEq, reduceIte, Nat.reduceAdd, Nat.reduceSub, Nat.reduceLeDiff, Nat.reduceLT, Nat.reduceMul, Nat.reduceEqDiff, Int.reduceEq, Int.reduceBEq, Int.reduceBNe, Int.reduceLT, Int.reduceLE, Int.reduceGT, Int.reduceGE, Int.reduceNeg, Int.reduceAdd, Int.reduceSub, reduceCtorEq, List.reduceReplicate, ← List.map_take, ← List.map_drop]
    refine callI_pure (h0 x.1 x.2) rfl rfl ?_
    cases hbx : bungB x.1 x.2
    · simp -dsimp -implicitDefEqProofs only [qq, Nat.reduceBEq, reduceIte, Nat.reduceAdd, Nat.reduceSub, Nat.reduceLeDiff, Nat.reduceLT, Nat.reduceMul, Nat.reduceEqDiff, Int.reduceEq, Int.reduceBEq, Int.reduceBNe, Int.reduceLT, Int.reduceLE, Int.reduceGT, Int.reduceGE, Int.reduceNeg, Int.reduceAdd, Int.reduceSub, reduceCtorEq, List.reduceReplicate, ← List.map_take, ← List.map_drop]
      have : l.all (fun b => bungB b.1 b.2) = false := by simp only [List.all_eq_false]; exact ⟨x, hxm, by rw [hbx]; simp⟩
      exact Ends.ret rfl (none_ _ 31 (by decide) (by rw [seatE, this]; rfl))
    · simp -dsimp -implicitDefEqProofs only [hwk, qq, Nat.reduceBEq, reduceIte, Nat.reduceAdd, Nat.reduceSub, Nat.reduceLeDiff, Nat.reduceLT, Nat.reduceMul, Nat.reduceEqDiff, Int.reduceEq, Int.reduceBEq, Int.reduceBNe, Int.reduceLT, Int.reduceLE, Int.reduceGT, Int.reduceGE, Int.reduceNeg, Int.reduceAdd, Int.reduceSub, reduceCtorEq, List.reduceReplicate, ← List.map_take, ← List.map_drop]
      refine ⟨k + 1, by omega, by omega, rfl, fun b hb' => ?_⟩
      rw [htk] at hb'
      rcases List.mem_append.1 hb' with g | g
      · exact hb b g
      · simp at g; rw [g]; exact hbx
  have hc : decide ((k : Int) < (l.length : Int)) = false := by simp; omega
  rw [List.take_of_length_le hkl] at hb
  have hall : l.all (fun b => bungB b.1 b.2) = true := by simpa using hb
  simp -dsimp -implicitDefEqProofs only [hc, qq, Nat.reduceBEq, reduceIte, Nat.reduceAdd, Nat.reduceSub, Nat.reduceLeDiff, Nat.reduceLT, Nat.reduceMul, Nat.reduceEqDiff, Int.reduceEq, Int.reduceBEq, Int.reduceBNe, Int.reduceLT, Int.reduceLE, Int.reduceGT, Int.reduceGE, Int.reduceNeg, Int.reduceAdd, Int.reduceSub, reduceCtorEq, List.reduceReplicate, ← List.map_take, ← List.map_drop]
  clear hc hkl hk
  refine loopI_st (fun k : Nat => s.length - k) (fun k E H => k ≤ s.length ∧ E = [(0, .fsl (l.map bgC)), (1, .fsl (s.map Spt.c)), (7, .i .i64 k)] ∧ ∀ b ∈ s.take k, spotB b = true) 0 ⟨by omega, rfl, by simp⟩ ?_
  rintro k _ H ⟨hk, rfl, hsb⟩
  rcases Nat.lt_or_ge k s.length with hkl | hkl
  · have hc : decide ((k : Int) < (s.length : Int)) = true := by simpa using hkl
    obtain ⟨x, hx, hxm, htk, _⟩ := next_of hkl
    have hwk : IntKind.i64.wrap ((k : Int) + 1) = ((k + 1 : Nat) : Int) := wrap_succ (by omega)
    simp -dsimp -implicitDefEqProofs only [hc, hx, Spt.c, qq, Nat.reduceBEq, reduceIte, Nat.reduceAdd, Nat.reduceSub, Nat.reduceLeDiff, Nat.reduceLT, Nat.reduceMul, Nat.reduceEqDiff, Int.reduceEq, Int.reduceBEq, Int.reduceBNe, Int.reduceLT, Int.reduceLE, Int.reduceGT, Int.reduceGE, Int.reduceNeg, Int.reduceAdd, Int.reduceSub, reduceCtorEq, List.reduceReplicate, ← List.map_take, ← List.map_drop]
    refine callI_pure (h1 x) rfl rfl ?_
    cases hbx : spotB x
    · simp -dsimp -implicitDefEqProofs only [qq, Nat.reduceBEq, reduceIte, Nat.reduceAdd, Nat.reduceSub, Nat.reduceLeDiff, Nat.reduceLT, Nat.reduceMul, Nat.reduceEqDiff, Int.reduceEq, Int.reduceBEq, Int.reduceBNe, Int.reduceLT, Int.reduceLE, Int.reduceGT, Int.reduceGE, Int.reduceNeg, Int.reduceAdd, Int.reduceSub, reduceCtorEq, List.reduceReplicate, ← List.map_take, ← List.map_drop]
      have : s.all spotB = false := by simp only [List.all_eq_false]; exact ⟨x, hxm, by rw [hbx]; simp⟩
      exact Ends.ret rfl (none_ _ 33 (by decide) (by rw [seatE, hall, this]; rfl))
    · simp -dsimp -implicitDefEqProofs only [hwk, qq, Nat.reduceBEq, reduceIte, Nat.reduceAdd, Nat.reduceSub, Nat.reduceLeDiff, Nat.reduceLT, Nat.reduceMul, Nat.reduceEqDiff, Int.reduceEq, Int.reduceBEq, Int.reduceBNe, Int.reduceLT, Int.reduceLE, Int.reduceGT, Int.reduceGE, Int.reduceNeg, Int.reduceAdd, Int.reduceSub, reduceCtorEq, List.reduceReplicate, ← List.map_take, ← List.map_drop]
      refine ⟨k + 1, by omega, by omega, rfl, fun b hb' => ?_⟩
      rw [htk] at hb'
      rcases List.mem_append.1 hb' with g | g
      · exact hsb b g
      · simp at g; rw [g]; exact hbx
  have hc : decide ((k : Int) < (s.length : Int)) = false := by simp; omega
  rw [List.take_of_length_le hkl] at hsb
  have hsall : s.all spotB = true := by simpa using hsb
  have bad : 9 < l.length ∨ 9 < s.length → seatE l s = 36 := fun h => by rw [seatE, hall, hsall, if_pos rfl, if_pos rfl, if_pos h]
  rcases Nat.lt_or_ge 9 l.length with h9 | h9
  · have q1 : decide ((l.length : Int) > 9) = true := by simp; omega
    simp -dsimp -implicitDefEqProofs only [hc, q1, qq, Nat.reduceBEq, reduceIte, Nat.reduceAdd, Nat.reduceSub, Nat.reduceLeDiff, Nat.reduceLT, Nat.reduceMul, Nat.reduceEqDiff, Int.reduceEq, Int.reduceBEq, Int.reduceBNe, Int.reduceLT, Int.reduceLE, Int.reduceGT, Int.reduceGE, Int.reduceNeg, Int.reduceAdd, Int.reduceSub, reduceCtorEq, List.reduceReplicate, ← List.map_take, ← List.map_drop]
    exact Ends.ret rfl (none_ _ 36 (by decide) (bad (.inl h9)))
  have q1 : decide ((l.length : Int) > 9) = false := by simp; omega
  rcases Nat.lt_or_ge 9 s.length with h9s | h9s
  · have q2 : decide ((s.length : Int) > 9) = true := by simp; omega
    simp -dsimp -implicitDefEqProofs only [hc, q1, q2, qq, Nat.reduceBEq, reduceIte, Nat.reduceAdd, Nat.reduceSub, Nat.reduceLeDiff, Nat.reduceLT, Nat.reduceMul, Nat.reduceEqDiff, Int.reduceEq, Int.reduceBEq, Int.reduceBNe, Int.reduceLT, Int.reduceLE, Int.reduceGT, Int.reduceGE, Int.reduceNeg, Int.reduceAdd, Int.reduceSub, reduceCtorEq, List.reduceReplicate, ← List.map_take, ← List.map_drop]
    exact Ends.ret rfl (none_ _ 36 (by decide) (bad (.inr h9s)))
  have q2 : decide ((s.length : Int) > 9) = false := by simp; omega
  simp -dsimp -implicitDefEqProofs only [hc, q1, q2, qq, Nat.reduceBEq, reduceIte, Nat.reduceAdd, Nat.reduceSub, Nat.reduceLeDiff, Nat.reduceLT, Nat.reduceMul, Nat.reduceEqDiff, Int.reduceEq, Int.reduceBEq, Int.reduceBNe, Int.reduceLT, Int.reduceLE, Int.reduceGT, Int.reduceGE, Int.reduceNeg, Int.reduceAdd, Int.reduceSub, reduceCtorEq, List.reduceReplicate, ← List.map_take, ← List.map_drop]
  clear hc hkl hk
  refine loopI_sh (fun k : Nat => l.length - k) (fun k E H => k ≤ l.length ∧ ∃ v, E = [(0, .fsl (l.map bgC)), (1, .fsl (s.map Spt.c)), (8, v), (9, .i .i64 k)] ∧ OwnS H 1 (((List.range k).map (rowF l s)).map browC) v) 0 (.refl _ _) ⟨by omega, _, rfl, .nil _ _⟩ ?_
  rintro k _ H ⟨hk, v, rfl, ho⟩
  rcases Nat.lt_or_ge k l.length with hkl | hkl
  · have hc : decide ((k : Int) < (l.length : Int)) = true := by simpa using hkl
    obtain ⟨b, hbb, hbm, _, _⟩ := next_of hkl
    have hwk : IntKind.i64.wrap ((k : Int) + 1) = ((k + 1 : Nat) : Int) := wrap_succ (by omega)
    simp -dsimp -implicitDefEqProofs only [hc, qq, Nat.reduceBEq, reduceIte, Nat.reduceAdd, Nat.reduceSub, Nat.reduceLeDiff, Nat.reduceLT, Nat.reduceMul, Nat.reduceEqDiff, Int.reduceEq, Int.reduceBEq, Int.reduceBNe, Int.reduceLT, Int.reduceLE, Int.reduceGT, Int.reduceGE, Int.reduceNeg, Int.reduceAdd, Int.reduceSub, reduceCtorEq, List.reduceReplicate, ← List.map_take, ← List.map_drop]
    refine loopI_st (fun j : Nat => s.length - j) (fun j E H => j ≤ s.length ∧ ∃ v u, E = [(0, .fsl (l.map bgC)), (1, .fsl (s.map Spt.c)), (8, v), (9, .i .i64 k), (10, u), (11, .i .i64 j)] ∧ OwnS H 1 (((List.range k).map (rowF l s)).map browC) v ∧ OwnS H 1 (((rowF l s k).take j).map boC) u ∧ Dis u v) 0 ⟨by omega, v, .nsl, rfl, ho, .nil _ _, .nil _⟩ ?_
    clear ho
    rintro j _ H ⟨hj, v, u, rfl, ho, hu, hd⟩
    have hrl : (rowF l s k).length = s.length := by simp [rowF]
    rcases Nat.lt_or_ge j s.length with hjl | hjl
    · have hc : decide ((j : Int) < (s.length : Int)) = true := by simpa using hjl
      obtain ⟨x, hx, hxm, _, _⟩ := next_of hjl
      have hwj : IntKind.i64.wrap ((j : Int) + 1) = ((j + 1 : Nat) : Int) := wrap_succ (by omega)
      have hrj : (rowF l s k).take (j + 1) = (rowF l s k).take j ++ [fitsS b.1 b.2 x == 1] := by
        rw [List.take_add_one]
        congr 1
        simp [rowF, hjl, fitB, hbb]
        rw [(List.getElem?_eq_some_iff.1 hx).2]
      simp -dsimp -implicitDefEqProofs only [hc, hbb, hx, bgC, bungC, Rg.c, Spt.c, qq, Nat.reduceBEq, reduceIte, Nat.reduceAdd, Nat.reduceSub, Nat.reduceLeDiff, Nat.reduceLT, Nat.reduceMul, Nat.reduceEqDiff, Int.reduceEq, Int.reduceBEq, Int.reduceBNe, Int.reduceLT, Int.reduceLE, Int.reduceGT, Int.reduceGE, Int.reduceNeg, Int.reduceAdd, Int.reduceSub, reduceCtorEq, List.reduceReplicate, ← List.map_take, ← List.map_drop]
      refine callI_pure (h2 b.1 b.2 x (hb b hbm)) rfl rfl ?_
      simp -dsimp -implicitDefEqProofs only [qq, Nat.reduceBEq, reduceIte, Nat.reduceAdd, Nat.reduceSub, Nat.reduceLeDiff, Nat.reduceLT, Nat.reduceMul, Nat.reduceEqDiff, Int.reduceEq, Int.reduceBEq, Int.reduceBNe, Int.reduceLT, Int.reduceLE, Int.reduceGT, Int.reduceGE, Int.reduceNeg, Int.reduceAdd, Int.reduceSub, reduceCtorEq, List.reduceReplicate, ← List.map_take, ← List.map_drop]
      refine app_own2 (ys := [[.b (fitsS b.1 b.2 x == 1)]]) hu ho hd (by decide) (by decide) (by simp [Sh.shown, gapp]) (by simp [V.one]) (by simp; omega) fun u' H' hu' ho' hd' _ _ => ?_
      simp -dsimp -implicitDefEqProofs only [hwj, qq, Nat.reduceBEq, reduceIte, Nat.reduceAdd, Nat.reduceSub, Nat.reduceLeDiff, Nat.reduceLT, Nat.reduceMul, Nat.reduceEqDiff, Int.reduceEq, Int.reduceBEq, Int.reduceBNe, Int.reduceLT, Int.reduceLE, Int.reduceGT, Int.reduceGE, Int.reduceNeg, Int.reduceAdd, Int.reduceSub, reduceCtorEq, List.reduceReplicate, ← List.map_take, ← List.map_drop]
      exact ⟨j + 1, by omega, by omega, v, u', rfl, ho', by rw [hrj]; simpa using hu', hd'⟩
    · have hc : decide ((j : Int) < (s.length : Int)) = false := by simp; omega
      rw [List.take_of_length_le (by omega)] at hu
      have hu1 : u.cells = [u] ∧ u.one = true := by rcases hu with ⟨_, rfl⟩ | ⟨p, c, e, rfl, _⟩ <;> exact ⟨rfl, rfl⟩
      simp -dsimp -implicitDefEqProofs only [hc, hu1.1, hu1.2, qq, Nat.reduceBEq, reduceIte, Nat.reduceAdd, Nat.reduceSub, Nat.reduceLeDiff, Nat.reduceLT, Nat.reduceMul, Nat.reduceEqDiff, Int.reduceEq, Int.reduceBEq, Int.reduceBNe, Int.reduceLT, Int.reduceLE, Int.reduceGT, Int.reduceGE, Int.reduceNeg, Int.reduceAdd, Int.reduceSub, reduceCtorEq, List.reduceReplicate, ← List.map_take, ← List.map_drop]
      refine app_own2 (ys := [[u]]) ho hu hd.symm (by decide) (by decide) (by simp [Sh.shown, gapp]) (by rcases hu with ⟨_, rfl⟩ | ⟨p, c, e, rfl, _⟩ <;> simp [V.one]) (by simp; omega) fun v' H' hv' hu' hd' _ _ => ?_
      simp -dsimp -implicitDefEqProofs only [hwk, qq, Nat.reduceBEq, reduceIte, Nat.reduceAdd, Nat.reduceSub, Nat.reduceLeDiff, Nat.reduceLT, Nat.reduceMul, Nat.reduceEqDiff, Int.reduceEq, Int.reduceBEq, Int.reduceBNe, Int.reduceLT, Int.reduceLE, Int.reduceGT, Int.reduceGE, Int.reduceNeg, Int.reduceAdd, Int.reduceSub, reduceCtorEq, List.reduceReplicate, ← List.map_take, ← List.map_drop]
      obtain ⟨H2, hs2, hv2, _, _⟩ := shift_last hv' hu' hd' (by intro r hr; obtain ⟨x, _, rfl⟩ := List.mem_map.1 hr; rfl)
      refine ⟨k + 1, by omega, _, H2, hs2 _, by omega, v', rfl, ?_⟩
      rw [List.range_succ, List.map_append, List.map_append]
      exact hv2
  have hc : decide ((k : Int) < (l.length : Int)) = false := by simp; omega
  obtain rfl : k = l.length := by omega
  simp -dsimp -implicitDefEqProofs only [hc, qq, Nat.reduceBEq, reduceIte, Nat.reduceAdd, Nat.reduceSub, Nat.reduceLeDiff, Nat.reduceLT, Nat.reduceMul, Nat.reduceEqDiff, Int.reduceEq, Int.reduceBEq, Int.reduceBNe, Int.reduceLT, Int.reduceLE, Int.reduceGT, Int.reduceGE, Int.reduceNeg, Int.reduceAdd, Int.reduceSub, reduceCtorEq, List.reduceReplicate, ← List.map_take, ← List.map_drop]
  obtain ⟨kk, hg, _⟩ := ho.give (by intro r hr; obtain ⟨x, _, rfl⟩ := List.mem_map.1 hr; rfl)
  refine callI_give kk (.cons hg (.cons .nil (.same _))) ?_
  have hrl : ((List.range l.length).map (rowF l s)).length = l.length := by simp
  refine callI_pure (h3 l.length ((List.range l.length).map (rowF l s)) s.length [] (by simp [rowF]) (by omega) (by omega) (by simp)) rfl rfl ?_
  have hcg : seatS (matB ((List.range l.length).map (rowF l s))) ((List.range l.length).map (rowF l s)).length s.length l.length [] = seatS (fitB l s) l.length s.length l.length [] := by
    rw [hrl]
    refine seatS_congr (fun i k hi hk => ?_) _ _ (Nat.le_refl _)
    simp [matB, rowF, hi, hk]
  rw [hcg]
  cases hr : seatS (fitB l s) l.length s.length l.length [] with
  | none =>
    simp -dsimp -implicitDefEqProofs only [seatV, Option.isSome, qq, Nat.reduceBEq, reduceIte, Nat.reduceAdd, Nat.reduceSub, Nat.reduceLeDiff, Nat.reduceLT, Nat.reduceMul, Nat.reduceEqDiff, Int.reduceEq, Int.reduceBEq, Int.reduceBNe, Int.reduceLT, Int.reduceLE, Int.reduceGT, Int.reduceGE, Int.reduceNeg, Int.reduceAdd, Int.reduceSub, reduceCtorEq, List.reduceReplicate, ← List.map_take, ← List.map_drop]
    exact Ends.ret rfl (none_ _ 3 (by decide) (by rw [seatE, hall, hsall, if_pos rfl, if_pos rfl, if_neg (by omega), hr]; rfl))
  | some res =>
    simp -dsimp -implicitDefEqProofs only [seatV, Option.isSome, qq, Nat.reduceBEq, reduceIte, Nat.reduceAdd, Nat.reduceSub, Nat.reduceLeDiff, Nat.reduceLT, Nat.reduceMul, Nat.reduceEqDiff, Int.reduceEq, Int.reduceBEq, Int.reduceBNe, Int.reduceLT, Int.reduceLE, Int.reduceGT, Int.reduceGE, Int.reduceNeg, Int.reduceAdd, Int.reduceSub, reduceCtorEq, List.reduceReplicate, ← List.map_take, ← List.map_drop]
    have hE : seatE l s = 0 := by rw [seatE, hall, hsall, if_pos rfl, if_pos rfl, if_neg (by omega), hr]; rfl
    have hR : seatR l s = res := by rw [seatR, if_pos hE, hr]; rfl
    rw [hE, hR]
    exact Ends.ret rfl (frz_keep2 rfl rfl)
end Go.Sh.C3
end
section
namespace Go.Sh.C3
open Go.Sh
set_option maxRecDepth 10000
set_option linter.unusedVariables false
set_option linter.unusedSimpArgs false
variable {P : Program}
def ic_bung_areBungs (f0 : Nat) : IC := .seq (.reg [⟨some 4, none, .mov (.c (.b false))⟩] [0, 1]) (.seq (.reg [⟨some 11, none, .mkm⟩, ⟨some 5, none, .mov (.t 11)⟩] [0, 1, 5]) (.seq (.reg [⟨some 6, none, .mov (.c (.i .i64 (-1)))⟩] [0, 1, 5, 6]) (.seq (.seq (.reg [⟨some 12, none, .mov (.t 1)⟩, ⟨some 13, none, .len false (.t 12)⟩, ⟨some 14, none, .mov (.c (.i .i64 (0)))⟩] [0, 5, 6, 12, 13, 14]) (.block 0 (.loop (.seq (.reg [⟨some 15, none, .bin .lss (.t 14) (.t 13)⟩] [0, 5, 6, 12, 13, 14, 15]) (.seq (.cond (.t 15) (.skip) (.exit 0)) (.seq (.block 1 (.seq (.reg [⟨some 16, none, .ixs 1 (.t 12) (.t 14)⟩, ⟨some 17, none, .ld none (.t 16)⟩, ⟨some 8, none, .mov (.t 17)⟩] [0, 5, 6, 8, 12, 13, 14]) (.seq (.seq (.reg [⟨some 18, none, .mov (.t 8)⟩, ⟨some 19, none, .len false (.t 18)⟩, ⟨some 20, none, .bin .eql (.t 19) (.c (.i .i64 (0)))⟩, ⟨some 21, none, .mov (.t 20)⟩, ⟨some 22, some (21, false), .mov (.t 8)⟩, ⟨some 23, some (21, false), .ixs 1 (.t 22) (.c (.i .i64 (0)))⟩, ⟨some 24, some (21, false), .ld none (.t 23)⟩, ⟨some 25, some (21, false), .mov (.t 6)⟩, ⟨some 26, some (21, false), .bin .leq (.t 24) (.t 25)⟩, ⟨some 27, none, .pick (.t 21) (.c (.b true)) (.t 26)⟩] [0, 5, 8, 12, 13, 14, 27]) (.cond (.t 27) (.seq (.reg [⟨some 4, none, .mov (.c (.b false))⟩] [4]) (.ret)) (.skip))) (.seq (.reg [⟨some 28, none, .mov (.t 8)⟩, ⟨some 29, none, .ixs 1 (.t 28) (.c (.i .i64 (0)))⟩, ⟨some 30, none, .ld none (.t 29)⟩, ⟨some 6, none, .mov (.t 30)⟩] [0, 5, 6, 8, 12, 13, 14]) (.seq (.reg [⟨some 31, none, .mov (.t 8)⟩, ⟨some 32, none, .len false (.t 31)⟩, ⟨some 33, none, .mov (.c (.i .i64 (0)))⟩] [0, 5, 6, 8, 12, 13, 14, 31, 32, 33]) (.block 2 (.loop (.seq (.reg [⟨some 34, none, .bin .lss (.t 33) (.t 32)⟩] [0, 5, 6, 8, 12, 13, 14, 31, 32, 33, 34]) (.seq (.cond (.t 34) (.skip) (.exit 2)) (.seq (.block 3 (.seq (.reg [⟨some 35, none, .mov (.t 33)⟩, ⟨some 36, none, .ixs 1 (.t 31) (.t 33)⟩, ⟨some 37, none, .ld none (.t 36)⟩, ⟨some 9, none, .mov (.t 35)⟩, ⟨some 10, none, .mov (.t 37)⟩] [0, 5, 6, 8, 9, 10, 12, 13, 14, 31, 32, 33]) (.seq (.seq (.reg [⟨some 38, none, .mov (.t 10)⟩, ⟨some 39, none, .mov (.t 0)⟩, ⟨some 40, none, .bin .sub (.t 39) (.c (.i .i64 (1)))⟩, ⟨some 41, none, .calv (.c (.fn (.func f0) [] [])) [.t 38, .c (.i .i64 (0)), .t 40]⟩, ⟨some 42, none, .un .not (.t 41)⟩, ⟨some 43, none, .mov (.t 42)⟩, ⟨some 44, some (43, false), .mov (.t 5)⟩, ⟨some 45, some (43, false), .mov (.t 10)⟩, ⟨some 46, some (43, false), .lk 0 [] (.b false) false (.t 44) (.t 45)⟩, ⟨some 47, none, .pick (.t 43) (.c (.b true)) (.t 46)⟩, ⟨some 48, none, .mov (.t 47)⟩, ⟨some 49, some (48, false), .mov (.t 9)⟩, ⟨some 50, some (48, false), .bin .gtr (.t 49) (.c (.i .i64 (0)))⟩, ⟨some 51, some (48, false), .mov (.t 50)⟩, ⟨some 52, some (51, true), .mov (.t 8)⟩, ⟨some 53, some (51, true), .mov (.t 9)⟩, ⟨some 54, some (51, true), .bin .sub (.t 53) (.c (.i .i64 (1)))⟩, ⟨some 55, some (51, true), .ixs 1 (.t 52) (.t 54)⟩, ⟨some 56, some (51, true), .ld none (.t 55)⟩, ⟨some 57, some (51, true), .mov (.t 10)⟩, ⟨some 58, some (51, true), .bin .geq (.t 56) (.t 57)⟩, ⟨some 59, some (48, false), .pick (.t 51) (.t 58) (.c (.b false))⟩, ⟨some 60, none, .pick (.t 48) (.c (.b true)) (.t 59)⟩] [0, 5, 6, 8, 10, 12, 13, 14, 31, 32, 33, 60]) (.cond (.t 60) (.seq (.reg [⟨some 4, none, .mov (.c (.b false))⟩] [4]) (.ret)) (.skip))) (.reg [⟨some 61, none, .mov (.t 5)⟩, ⟨some 62, none, .mov (.t 10)⟩, ⟨none, none, .mup 0 [] (.t 61) (.t 62) (.c (.b true))⟩] [0, 5, 6, 8, 12, 13, 14, 31, 32, 33])))) (.reg [⟨some 63, none, .bin .add (.t 33) (.c (.i .i64 (1)))⟩, ⟨some 33, none, .mov (.t 63)⟩] [0, 5, 6, 8, 12, 13, 14, 31, 32, 33]))))))))))) (.reg [⟨some 64, none, .bin .add (.t 14) (.c (.i .i64 (1)))⟩, ⟨some 14, none, .mov (.t 64)⟩] [0, 5, 6, 12, 13, 14]))))))) (.seq (.reg [⟨some 65, none, .mov (.t 5)⟩, ⟨some 66, none, .lenm (.t 65)⟩, ⟨some 67, none, .mov (.t 0)⟩, ⟨some 68, none, .bin .eql (.t 66) (.t 67)⟩, ⟨some 4, none, .mov (.t 68)⟩] [4]) (.ret)))))
abbrev Low_bung_areBungs (P : Program) (f f0 : Nat) : Prop := lowF P f = some (69, [.tmp 4], (ic_bung_areBungs f0).erase)
def ic_potbankref03_AreParts (f0 f1 : Nat) : IC := .seq (.reg [⟨some 4, none, .mov (.c (.b false))⟩] [0, 1]) (.seq (.reg [⟨some 5, none, .mov (.c (.nsl))⟩] [0, 1, 5]) (.seq (.seq (.reg [⟨some 6, none, .mov (.c (.i .i64 (0)))⟩] [0, 1, 5, 6]) (.block 0 (.loop (.seq (.seq (.reg [⟨some 9, none, .mov (.t 6)⟩, ⟨some 10, none, .mov (.t 0)⟩, ⟨some 11, none, .len false (.t 10)⟩, ⟨some 12, none, .bin .lss (.t 9) (.t 11)⟩] [0, 1, 5, 6, 12]) (.cond (.t 12) (.skip) (.exit 0))) (.seq (.block 1 (.seq (.seq (.drg [(0, ⟨some 15, none, .mov (.t 0)⟩), (0, ⟨some 16, none, .mov (.t 6)⟩), (0, ⟨some 17, none, .ixs 1 (.t 15) (.t 16)⟩), (0, ⟨some 18, none, .ld none (.t 17)⟩), (0, ⟨some 19, none, .len false (.t 18)⟩), (0, ⟨some 20, none, .bin .eql (.t 19) (.c (.i .i64 (0)))⟩), (0, ⟨some 21, none, .mov (.t 20)⟩), (0, ⟨some 22, some (21, false), .mov (.t 6)⟩), (0, ⟨some 23, some (21, false), .bin .gtr (.t 22) (.c (.i .i64 (0)))⟩), (0, ⟨some 24, some (21, false), .mov (.t 23)⟩), (0, ⟨some 25, some (24, true), .mov (.t 0)⟩), (0, ⟨some 26, some (24, true), .mov (.t 6)⟩), (0, ⟨some 27, some (24, true), .bin .sub (.t 26) (.c (.i .i64 (1)))⟩), (0, ⟨some 28, some (24, true), .ixs 1 (.t 25) (.t 27)⟩), (0, ⟨some 29, some (24, true), .ld none (.t 28)⟩), (0, ⟨some 30, some (24, true), .ixs 1 (.t 29) (.c (.i .i64 (0)))⟩), (0, ⟨some 31, some (24, true), .ld none (.t 30)⟩), (0, ⟨some 32, some (24, true), .mov (.t 0)⟩), (0, ⟨some 33, some (24, true), .mov (.t 6)⟩), (0, ⟨some 34, some (24, true), .ixs 1 (.t 32) (.t 33)⟩), (0, ⟨some 35, some (24, true), .ld none (.t 34)⟩), (0, ⟨some 36, some (24, true), .ixs 1 (.t 35) (.c (.i .i64 (0)))⟩), (0, ⟨some 37, some (24, true), .ld none (.t 36)⟩), (0, ⟨some 38, some (24, true), .bin .geq (.t 31) (.t 37)⟩), (0, ⟨some 39, some (21, false), .pick (.t 24) (.t 38) (.c (.b false))⟩), (0, ⟨some 40, none, .pick (.t 21) (.c (.b true)) (.t 39)⟩)] 23 [0, 1, 5, 6, 40]) (.cond (.t 40) (.seq (.reg [⟨some 4, none, .mov (.c (.b false))⟩] [4]) (.ret)) (.skip))) (.seq (.reg [⟨some 7, none, .mov (.c (.i .i64 (0)))⟩] [0, 1, 5, 6, 7]) (.block 2 (.loop (.seq (.seq (.reg [⟨some 41, none, .mov (.t 7)⟩, ⟨some 42, none, .mov (.t 0)⟩, ⟨some 43, none, .mov (.t 6)⟩, ⟨some 44, none, .ixs 1 (.t 42) (.t 43)⟩, ⟨some 45, none, .ld none (.t 44)⟩, ⟨some 46, none, .len false (.t 45)⟩, ⟨some 47, none, .bin .lss (.t 41) (.t 46)⟩] [0, 1, 5, 6, 7, 47]) (.cond (.t 47) (.skip) (.exit 2))) (.seq (.block 3 (.seq (.reg [⟨some 50, none, .mov (.t 0)⟩, ⟨some 51, none, .mov (.t 6)⟩, ⟨some 52, none, .ixs 1 (.t 50) (.t 51)⟩, ⟨some 53, none, .ld none (.t 52)⟩, ⟨some 54, none, .mov (.t 7)⟩, ⟨some 55, none, .ixs 1 (.t 53) (.t 54)⟩, ⟨some 56, none, .ld none (.t 55)⟩, ⟨some 8, none, .mov (.t 56)⟩] [0, 1, 5, 6, 7, 8]) (.seq (.seq (.reg [⟨some 57, none, .mov (.t 8)⟩, ⟨some 58, none, .mov (.t 1)⟩, ⟨some 59, none, .bin .sub (.t 58) (.c (.i .i64 (1)))⟩, ⟨some 60, none, .calv (.c (.fn (.func f0) [] [])) [.t 57, .c (.i .i64 (0)), .t 59]⟩, ⟨some 61, none, .un .not (.t 60)⟩, ⟨some 62, none, .mov (.t 61)⟩, ⟨some 63, some (62, false), .mov (.t 5)⟩, ⟨some 64, some (62, false), .mov (.t 8)⟩, ⟨some 65, some (62, false), .calv (.c (.fn (.func f1) [] [])) [.t 63, .t 64]⟩, ⟨some 66, none, .pick (.t 62) (.c (.b true)) (.t 65)⟩, ⟨some 67, none, .mov (.t 66)⟩, ⟨some 68, some (67, false), .mov (.t 7)⟩, ⟨some 69, some (67, false), .bin .gtr (.t 68) (.c (.i .i64 (0)))⟩, ⟨some 70, some (67, false), .mov (.t 69)⟩, ⟨some 71, some (70, true), .mov (.t 0)⟩, ⟨some 72, some (70, true), .mov (.t 6)⟩, ⟨some 73, some (70, true), .ixs 1 (.t 71) (.t 72)⟩, ⟨some 74, some (70, true), .ld none (.t 73)⟩, ⟨some 75, some (70, true), .mov (.t 7)⟩, ⟨some 76, some (70, true), .bin .sub (.t 75) (.c (.i .i64 (1)))⟩, ⟨some 77, some (70, true), .ixs 1 (.t 74) (.t 76)⟩, ⟨some 78, some (70, true), .ld none (.t 77)⟩, ⟨some 79, some (70, true), .mov (.t 8)⟩, ⟨some 80, some (70, true), .bin .geq (.t 78) (.t 79)⟩, ⟨some 81, some (67, false), .pick (.t 70) (.t 80) (.c (.b false))⟩, ⟨some 82, none, .pick (.t 67) (.c (.b true)) (.t 81)⟩] [0, 1, 5, 6, 7, 8, 82]) (.cond (.t 82) (.seq (.reg [⟨some 4, none, .mov (.c (.b false))⟩] [4]) (.ret)) (.skip))) (.reg [⟨some 83, none, .mov (.t 5)⟩, ⟨some 84, none, .mov (.t 8)⟩, ⟨some 85, none, .bsl false 1 1 [.i .i64 (0)] [(0, (.t 84))]⟩, ⟨some 86, none, .app 1 8 (.t 83) (.t 85)⟩, ⟨some 5, none, .mov (.t 86)⟩] [0, 1, 5, 6, 7])))) (.reg [⟨some 48, none, .mov (.t 7)⟩, ⟨some 49, none, .bin .add (.t 48) (.c (.i .i64 (1)))⟩, ⟨some 7, none, .mov (.t 49)⟩] [0, 1, 5, 6, 7])))))))) (.reg [⟨some 13, none, .mov (.t 6)⟩, ⟨some 14, none, .bin .add (.t 13) (.c (.i .i64 (1)))⟩, ⟨some 6, none, .mov (.t 14)⟩] [0, 1, 5, 6])))))) (.seq (.reg [⟨some 87, none, .mov (.t 5)⟩, ⟨some 88, none, .len false (.t 87)⟩, ⟨some 89, none, .mov (.t 1)⟩, ⟨some 90, none, .bin .eql (.t 88) (.t 89)⟩, ⟨some 4, none, .mov (.t 90)⟩] [4]) (.ret))))
abbrev Low_potbankref03_AreParts (P : Program) (f f0 f1 : Nat) : Prop := lowF P f = some (91, [.tmp 4], (ic_potbankref03_AreParts f0 f1).erase)

/-- What is so of bungs looked at so far. -/
structure PartK (n : Nat) (bs : List (List Int)) : Prop where
  ne : ∀ b ∈ bs, b ≠ []
  hd : (bs.map fun b => b.headD 0).Pairwise (· < ·)
  up : ∀ b ∈ bs, b.Pairwise (· < ·)
  ix : ∀ b ∈ bs, ∀ i ∈ b, 0 ≤ i ∧ i < n
  nd : bs.flatten.Nodup
def partsP (n : Nat) (bs : List (List Int)) : Prop := PartK n bs ∧ bs.flatten.length = n
noncomputable instance (n : Nat) (bs : List (List Int)) : Decidable (partsP n bs) := Classical.propDecidable _
noncomputable def partsB (n : Nat) (bs : List (List Int)) : Bool := decide (partsP n bs)
theorem PartK.nil (n : Nat) : PartK n [] := ⟨by simp, by simp, by simp, by simp, by simp⟩
theorem PartK.okIx {n : Nat} {bs : List (List Int)} (h : PartK n bs) : okIx n bs.flatten := fun i hi => by
  obtain ⟨b, hb, hi⟩ := List.mem_flatten.1 hi
  exact h.ix b hb i hi
theorem PartK.len {n : Nat} {bs : List (List Int)} (h : PartK n bs) : bs.flatten.length ≤ n := nodup_bound n _ h.nd h.okIx
theorem partK_of_append {n : Nat} {a b : List (List Int)} (h : PartK n (a ++ b)) : PartK n a := by
  refine ⟨fun x hx => h.ne x (by simp [hx]), ?_, fun x hx => h.up x (by simp [hx]), fun x hx => h.ix x (by simp [hx]), ?_⟩
  · have := h.hd; rw [List.map_append, List.pairwise_append] at this; exact this.1
  · have := h.nd; rw [List.flatten_append, List.nodup_append] at this; exact this.1
theorem partK_take {n k : Nat} {bs : List (List Int)} (h : PartK n bs) : PartK n (bs.take k) := by
  have := h; rw [← List.take_append_drop k bs] at this; exact partK_of_append this
theorem last_lt {l : List Int} (h : l.Pairwise (· < ·)) {x y : Int} (hl : l.getLast? = some y) (hxy : y < x) : ∀ a ∈ l, a < x := by
  obtain ⟨ys, rfl⟩ := List.getLast?_eq_some_iff.1 hl
  intro a ha
  rcases List.mem_append.1 ha with ha | ha
  · have := (List.pairwise_append.1 h).2.2 a ha y (by simp); omega
  · simp at ha; subst ha; exact hxy
/-- One index more in the last of the bungs looked at. -/
structure PartJ (n : Nat) (bs : List (List Int)) (b : List Int) : Prop where
  up : b.Pairwise (· < ·)
  ix : ∀ i ∈ b, 0 ≤ i ∧ i < n
  nd : (bs.flatten ++ b).Nodup
theorem PartJ.snoc {n : Nat} {bs : List (List Int)} {b : List Int} {i : Int} (h : PartJ n bs b) (hi : 0 ≤ i ∧ i < n) (hn : i ∉ bs.flatten ++ b) (hl : ∀ y, b.getLast? = some y → y < i) : PartJ n bs (b ++ [i]) := by
  refine ⟨?_, fun j hj => ?_, ?_⟩
  · rw [List.pairwise_append]
    refine ⟨h.up, by simp, fun a ha c hc => ?_⟩
    simp at hc; subst hc
    cases hb : b.getLast? with
    | none => rw [List.getLast?_eq_none_iff] at hb; subst hb; simp at ha
    | some y => exact last_lt h.up hb (hl y hb) a ha
  · rcases List.mem_append.1 hj with hj | hj
    · exact h.ix j hj
    · simp at hj; subst hj; exact hi
  · rw [← List.append_assoc, List.nodup_append]
    exact ⟨h.nd, by simp, fun a ha c hc e => by simp at hc; subst hc; subst e; exact hn ha⟩
theorem partK_snoc {n : Nat} {bs : List (List Int)} {b : List Int} (h : PartK n bs) (hne : b ≠ []) (hh : ∀ y, (bs.map fun b => b.headD 0).getLast? = some y → y < b.headD 0) (hj : PartJ n bs b) : PartK n (bs ++ [b]) := by
  refine ⟨fun x hx => ?_, ?_, fun x hx => ?_, fun x hx => ?_, by simpa using hj.nd⟩
  · rcases List.mem_append.1 hx with hx | hx
    · exact h.ne x hx
    · simp at hx; subst hx; exact hne
  · rw [List.map_append, List.pairwise_append]
    refine ⟨h.hd, by simp, fun a ha c hc => ?_⟩
    simp at hc; subst hc
    cases hb : (bs.map fun b => b.headD 0).getLast? with
    | none => rw [List.getLast?_eq_none_iff] at hb; rw [hb] at ha; simp at ha
    | some y => have := last_lt h.hd hb (hh y hb) a ha; simpa using this
  · rcases List.mem_append.1 hx with hx | hx
    · exact h.up x hx
    · simp at hx; subst hx; exact hj.up
  · rcases List.mem_append.1 hx with hx | hx
    · exact h.ix x hx
    · simp at hx; subst hx; exact hj.ix

theorem parts_no {n k : Nat} {bs : List (List Int)} (h : ¬ PartK n (bs.take (k + 1))) : partsB n bs = false := by
  unfold partsB
  rw [decide_eq_false_iff_not]
  exact fun hp => h (partK_take hp.1)
theorem rowAt_zero (l : List (List V)) : rowAt l 0 = l[0]? := rfl
theorem heads_last {bs : List (List Int)} {k : Nat} {y : Int} {p : List Int} (hp : bs[k]? = some (y :: p)) : ((bs.take (k + 1)).map fun b => b.headD 0).getLast? = some y := by
  obtain ⟨_, hx, _, htk, _⟩ := next_of (show k < bs.length from (List.getElem?_eq_some_iff.1 hp).1)
  rw [hp] at hx; cases hx
  rw [htk]; simp
def C_rparts (P : Program) (f : Nat) : Prop := ∀ (n : Nat) (bs : List (List Int)), n ≤ 1000 → bs.length ≤ 1000000000000000 → (∀ b ∈ bs, b.length ≤ 1000000000000000) → Snd P f [.fsl (bs.map rowC), .i .i64 n] [] (.b (partsB n bs)) []
set_option maxHeartbeats 2000000 in
theorem ok_AreParts (hm : P.follows .mixedOrders = true) {f f0 f1 : Nat} (low : Low_potbankref03_AreParts P f f0 f1) (h0 : C_within P f0) (h1 : C_Has P f1) : C_rparts P f := by
  intro n bs hn hl hbl
  have wn : IntKind.i64.wrap ((n : Int) - 1) = (n : Int) - 1 := wrap_id (by omega) (by omega)
  refine snd_ic hm low (by simp) ?_
  unfold ic_potbankref03_AreParts
  simp -dsimp -implicitDefEqProofs only [qq, Nat.reduceBEq, reduceIte, Nat.reduceAdd, Nat.reduceSub, Nat.reduceLeDiff, Nat.reduceLT, Nat.reduceMul, Nat.reduceEqDiff, Int.reduceEq, Int.reduceBEq, Int.reduceBNe, Int.reduceLT, Int.reduceLE, Int.reduceGT, Int.reduceGE, Int.reduceNeg, Int.reduceAdd, Int.reduceSub, reduceCtorEq, List.reduceReplicate, ← List.map_take, ← List.map_drop]
  refine loopI_st (fun k : Nat => bs.length - k) (fun k E H => k ≤ bs.length ∧ ∃ v, E = [(0, .fsl (bs.map rowC)), (1, .i .i64 n), (5, v), (6, .i .i64 k)] ∧ OwnS H 1 ((bs.take k).flatten.map intC) v ∧ PartK n (bs.take k)) 0 ⟨by omega, _, rfl, .nil _ _, .nil n⟩ ?_
  rintro k _ H ⟨hk, v, rfl, ho, hK⟩
  rcases Nat.lt_or_ge k bs.length with hkl | hkl
  · have hc : decide ((k : Int) < (bs.length : Int)) = true := by simpa using hkl
    obtain ⟨b, hb, hbm, htk, _⟩ := next_of hkl
    have hwk : IntKind.i64.wrap ((k : Int) + 1) = ((k + 1 : Nat) : Int) := wrap_succ (by omega)
    have hbl2 := hbl b hbm
    rcases b with _ | ⟨x, b'⟩
    · have hlen0 : (((0 : Nat) : Int) == 0) = true := by decide
      simp -dsimp -implicitDefEqProofs only [hc, hb, rowC, hlen0, qq, Nat.reduceBEq, reduceIte, Nat.reduceAdd, Nat.reduceSub, Nat.reduceLeDiff, Nat.reduceLT, Nat.reduceMul, Nat.reduceEqDiff, Int.reduceEq, Int.reduceBEq, Int.reduceBNe, Int.reduceLT, Int.reduceLE, Int.reduceGT, Int.reduceGE, Int.reduceNeg, Int.reduceAdd, Int.reduceSub, reduceCtorEq, List.reduceReplicate, ← List.map_take, ← List.map_drop]
      refine Ends.plain rfl rfl ?_
      have := parts_no (n := n) (k := k) (bs := bs) fun h => h.ne [] (by rw [htk]; simp) rfl
      simp [resV, this]
    generalize hbe : x :: b' = b at hb hbm htk hbl2
    have hbx : (b.map intC)[0]? = some (intC x) := by rw [← hbe]; rfl
    have hbne : ((b.length : Int) == 0) = false := by rw [← hbe]; simp; omega
    have hhd : b.headD 0 = x := by rw [← hbe]; rfl
    have hpass : (∀ y, ((bs.take k).map fun b => b.headD 0).getLast? = some y → y < x) ∨ ∃ m y p, k = m + 1 ∧ bs[m]? = some (y :: p) ∧ y ≥ x := by
      cases k with
      | zero => left; intro y hy; simp at hy
      | succ m =>
        obtain ⟨p, hp, hpm, htm, _⟩ := next_of (show m < bs.length by omega)
        rcases p with _ | ⟨y, p⟩
        · exact absurd rfl (hK.ne [] (by rw [htm]; simp))
        · by_cases hyx : y ≥ x
          · exact .inr ⟨m, y, p, rfl, hp, hyx⟩
          · left; intro z hz; rw [heads_last hp] at hz; cases hz; omega
    have hk0 : decide ((k : Int) > 0) = decide (0 < k) := by simp
    rcases hpass with hpass | ⟨m, y, p, rfl, hp, hyx⟩
    case' inr =>
      have wm : IntKind.i64.wrap (((m + 1 : Nat) : Int) - 1) = (m : Int) := by rw [wrap_id (by omega) (by omega)]; omega
      have hgt : decide (((m + 1 : Nat) : Int) > 0) = true := decide_eq_true (by omega)
      have hge : decide (y ≥ x) = true := by simpa using hyx
      have hpy : ((y :: p).map intC)[0]? = some (intC y) := rfl
      have hp1 : ((y :: p).map intC).length = p.length + 1 := by simp
      simp -dsimp -implicitDefEqProofs only [hc, hb, hbne, hgt, wm, hp, rowC, hge, hbx, intC, rowAt_zero, qq, Nat.reduceBEq, reduceIte, Nat.reduceAdd, Nat.reduceSub, Nat.reduceLeDiff, Nat.reduceLT, Nat.reduceMul, Nat.reduceEqDiff, Int.reduceEq, Int.reduceBEq, Int.reduceBNe, Int.reduceLT, Int.reduceLE, Int.reduceGT, Int.reduceGE, Int.reduceNeg, Int.reduceAdd, Int.reduceSub, reduceCtorEq, List.reduceReplicate, ← List.map_take, ← List.map_drop]
      refine Ends.plain rfl rfl ?_
      have := parts_no (n := n) (k := m + 1) (bs := bs) fun h => by
        have h2 := h.hd
        rw [htk, List.map_append, List.pairwise_append] at h2
        have := h2.2.2 y (List.mem_of_getLast? (heads_last hp)) x (by rw [← hhd]; simp)
        omega
      simp [resV, this]
    -- the heads are in order: the first index's look passes
    rcases Nat.eq_zero_or_pos k with hk0 | hk0
    case' inl =>
      have hgt : decide ((k : Int) > 0) = false := by simp; omega
      simp -dsimp -implicitDefEqProofs only [hc, hb, hbne, hgt, rowC, intC, qq, Nat.reduceBEq, reduceIte, Nat.reduceAdd, Nat.reduceSub, Nat.reduceLeDiff, Nat.reduceLT, Nat.reduceMul, Nat.reduceEqDiff, Int.reduceEq, Int.reduceBEq, Int.reduceBNe, Int.reduceLT, Int.reduceLE, Int.reduceGT, Int.reduceGE, Int.reduceNeg, Int.reduceAdd, Int.reduceSub, reduceCtorEq, List.reduceReplicate, ← List.map_take, ← List.map_drop]
    case' inr =>
      obtain ⟨m, hkm⟩ : ∃ m, k = m + 1 := ⟨k - 1, by omega⟩
      obtain ⟨p, hp, hpm, htm, _⟩ := next_of (show m < bs.length by omega)
      obtain ⟨y, p', rfl⟩ : ∃ y p', p = y :: p' := by
        rcases p with _ | ⟨y, p'⟩
        · exact absurd rfl (hK.ne [] (by rw [hkm, htm]; simp))
        · exact ⟨y, p', rfl⟩
      have hyx := hpass y (by rw [hkm]; exact heads_last hp)
      have wm : IntKind.i64.wrap ((k : Int) - 1) = (m : Int) := by rw [wrap_id (by omega) (by omega)]; omega
      have hgt : decide ((k : Int) > 0) = true := decide_eq_true (by omega)
      have hge : decide (y ≥ x) = false := decide_eq_false (by omega)
      simp -dsimp -implicitDefEqProofs only [hc, hb, hbne, hgt, wm, hp, rowC, hge, hbx, intC, rowAt_zero, qq, Nat.reduceBEq, reduceIte, Nat.reduceAdd, Nat.reduceSub, Nat.reduceLeDiff, Nat.reduceLT, Nat.reduceMul, Nat.reduceEqDiff, Int.reduceEq, Int.reduceBEq, Int.reduceBNe, Int.reduceLT, Int.reduceLE, Int.reduceGT, Int.reduceGE, Int.reduceNeg, Int.reduceAdd, Int.reduceSub, reduceCtorEq, List.reduceReplicate, ← List.map_take, ← List.map_drop]
    all_goals
      refine loopI_st (fun j : Nat => b.length - j) (fun j E H => j ≤ b.length ∧ ∃ v, E = [(0, .fsl (bs.map rowC)), (1, .i .i64 n), (5, v), (6, .i .i64 k), (7, .i .i64 j)] ∧ OwnS H 1 (((bs.take k).flatten ++ b.take j).map intC) v ∧ PartJ n (bs.take k) (b.take j)) 0 ⟨by omega, v, rfl, by simpa using ho, by simp, by simp, by simpa using hK.nd⟩ ?_
      clear ho v H
      rintro j _ H ⟨hj, v, rfl, ho, hJ⟩
      rcases Nat.lt_or_ge j b.length with hjl | hjl
      · have hcj : decide ((j : Int) < (b.length : Int)) = true := decide_eq_true (by omega)
        obtain ⟨i, hi, him, htj, _⟩ := next_of hjl
        have hwj : IntKind.i64.wrap ((j : Int) + 1) = ((j + 1 : Nat) : Int) := wrap_succ (by omega)
        have hjk : ∀ {Q : Prop}, (PartJ n (bs.take k) (b.take (j + 1)) → False) → ¬ PartK n (bs.take (k + 1)) := fun hf h => hf (by
          rw [htk] at h
          refine ⟨?_, fun y hy => h.ix b (by simp) y (List.mem_of_mem_take hy), ?_⟩
          · have := h.up b (by simp); rw [← List.take_append_drop (j + 1) b, List.pairwise_append] at this; exact this.1
          · have := h.nd; rw [List.flatten_append] at this; simp only [List.flatten_cons, List.flatten_nil, List.append_nil] at this
            rw [← List.take_append_drop (j + 1) b, ← List.append_assoc, List.nodup_append] at this; exact this.1)
        have gone : ∀ (H2 : List Blk), (PartJ n (bs.take k) (b.take (j + 1)) → False) → Ends [.tmp 4] [] (.b (partsB n bs)) [] .ret [(4, .b false)] H2 := fun H2 hf => Ends.plain rfl rfl (by rw [parts_no (hjk (Q := True) hf)]; rfl)
        have hgt0 : j = 0 → decide ((j : Int) > 0) = false := fun h => decide_eq_false (by omega)
        have htj0 : b.take (j + 1) = b.take j ++ [i] := htj
        have hlen1 : ((bs.take k).flatten ++ b.take j).length ≤ 1000000000000000 := by
          have h1 := hK.len
          have h2 := nodup_bound n _ hJ.nd fun y hy => by
            rcases List.mem_append.1 hy with g | g
            · exact hK.okIx y g
            · exact hJ.ix y g
          omega
        have hlen2 : ((bs.take k).flatten ++ b.take j).length ≤ 1000 := by
          have h2 := nodup_bound n _ hJ.nd fun y hy => by
            rcases List.mem_append.1 hy with g | g
            · exact hK.okIx y g
            · exact hJ.ix y g
          omega
        have hlend := fun (d : Bool) (K : V → List Blk → Prop) (hK : K (.b (decide (i ∈ (bs.take k).flatten ++ b.take j))) H) => callI_lend2 (d := d) (h1 ((bs.take k).flatten ++ b.take j) i hlen1) (ho.frz (bel_ints _)) (.keep (.i .i64 i) rfl) rfl hK
        cases hr : inR i 0 ((n : Int) - 1)
        · simp -dsimp -implicitDefEqProofs only [hcj, hb, hi, rowC, intC, wn, qq, Nat.reduceBEq, reduceIte, Nat.reduceAdd, Nat.reduceSub, Nat.reduceLeDiff, Nat.reduceLT, Nat.reduceMul, Nat.reduceEqDiff, Int.reduceEq, Int.reduceBEq, Int.reduceBNe, Int.reduceLT, Int.reduceLE, Int.reduceGT, Int.reduceGE, Int.reduceNeg, Int.reduceAdd, Int.reduceSub, reduceCtorEq, List.reduceReplicate, ← List.map_take, ← List.map_drop]
          refine callI_pure (h0 i 0 _) rfl rfl ?_
          simp -dsimp -implicitDefEqProofs only [hr, qq, Nat.reduceBEq, reduceIte, Nat.reduceAdd, Nat.reduceSub, Nat.reduceLeDiff, Nat.reduceLT, Nat.reduceMul, Nat.reduceEqDiff, Int.reduceEq, Int.reduceBEq, Int.reduceBNe, Int.reduceLT, Int.reduceLE, Int.reduceGT, Int.reduceGE, Int.reduceNeg, Int.reduceAdd, Int.reduceSub, reduceCtorEq, List.reduceReplicate, ← List.map_take, ← List.map_drop]
          exact gone _ fun h => by
            have := h.ix i (by rw [htj0]; simp)
            simp [inR] at hr; omega
        have hir : 0 ≤ i ∧ i < n := by simp [inR] at hr; omega
        cases hin : decide (i ∈ (bs.take k).flatten ++ b.take j)
        case true =>
          simp -dsimp -implicitDefEqProofs only [hcj, hb, hi, rowC, intC, wn, qq, Nat.reduceBEq, reduceIte, Nat.reduceAdd, Nat.reduceSub, Nat.reduceLeDiff, Nat.reduceLT, Nat.reduceMul, Nat.reduceEqDiff, Int.reduceEq, Int.reduceBEq, Int.reduceBNe, Int.reduceLT, Int.reduceLE, Int.reduceGT, Int.reduceGE, Int.reduceNeg, Int.reduceAdd, Int.reduceSub, reduceCtorEq, List.reduceReplicate, ← List.map_take, ← List.map_drop]
          refine callI_pure (h0 i 0 _) rfl rfl ?_
          simp -dsimp -implicitDefEqProofs only [hr, qq, Nat.reduceBEq, reduceIte, Nat.reduceAdd, Nat.reduceSub, Nat.reduceLeDiff, Nat.reduceLT, Nat.reduceMul, Nat.reduceEqDiff, Int.reduceEq, Int.reduceBEq, Int.reduceBNe, Int.reduceLT, Int.reduceLE, Int.reduceGT, Int.reduceGE, Int.reduceNeg, Int.reduceAdd, Int.reduceSub, reduceCtorEq, List.reduceReplicate, ← List.map_take, ← List.map_drop]
          refine hlend _ _ ?_
          simp -dsimp -implicitDefEqProofs only [hin, qq, Nat.reduceBEq, reduceIte, Nat.reduceAdd, Nat.reduceSub, Nat.reduceLeDiff, Nat.reduceLT, Nat.reduceMul, Nat.reduceEqDiff, Int.reduceEq, Int.reduceBEq, Int.reduceBNe, Int.reduceLT, Int.reduceLE, Int.reduceGT, Int.reduceGE, Int.reduceNeg, Int.reduceAdd, Int.reduceSub, reduceCtorEq, List.reduceReplicate, ← List.map_take, ← List.map_drop]
          exact gone _ fun h => by
            have h2 := h.nd
            rw [htj0, ← List.append_assoc, List.nodup_append] at h2
            exact h2.2.2 i (of_decide_eq_true hin) i (by simp) rfl
        have hni : i ∉ (bs.take k).flatten ++ b.take j := of_decide_eq_false hin
        rcases Nat.eq_zero_or_pos j with hj0 | hj0
        case' inl =>
          have hnx : PartJ n (bs.take k) (b.take (j + 1)) := by rw [htj0]; exact hJ.snoc hir hni fun y hy => by rw [hj0] at hy; simp at hy
          simp -dsimp -implicitDefEqProofs only [hcj, hb, hi, rowC, intC, wn, qq, Nat.reduceBEq, reduceIte, Nat.reduceAdd, Nat.reduceSub, Nat.reduceLeDiff, Nat.reduceLT, Nat.reduceMul, Nat.reduceEqDiff, Int.reduceEq, Int.reduceBEq, Int.reduceBNe, Int.reduceLT, Int.reduceLE, Int.reduceGT, Int.reduceGE, Int.reduceNeg, Int.reduceAdd, Int.reduceSub, reduceCtorEq, List.reduceReplicate, ← List.map_take, ← List.map_drop]
          refine callI_pure (h0 i 0 _) rfl rfl ?_
          simp -dsimp -implicitDefEqProofs only [hr, qq, Nat.reduceBEq, reduceIte, Nat.reduceAdd, Nat.reduceSub, Nat.reduceLeDiff, Nat.reduceLT, Nat.reduceMul, Nat.reduceEqDiff, Int.reduceEq, Int.reduceBEq, Int.reduceBNe, Int.reduceLT, Int.reduceLE, Int.reduceGT, Int.reduceGE, Int.reduceNeg, Int.reduceAdd, Int.reduceSub, reduceCtorEq, List.reduceReplicate, ← List.map_take, ← List.map_drop]
          refine hlend _ _ ?_
          simp -dsimp -implicitDefEqProofs only [hin, hgt0 hj0, qq, Nat.reduceBEq, reduceIte, Nat.reduceAdd, Nat.reduceSub, Nat.reduceLeDiff, Nat.reduceLT, Nat.reduceMul, Nat.reduceEqDiff, Int.reduceEq, Int.reduceBEq, Int.reduceBNe, Int.reduceLT, Int.reduceLE, Int.reduceGT, Int.reduceGE, Int.reduceNeg, Int.reduceAdd, Int.reduceSub, reduceCtorEq, List.reduceReplicate, ← List.map_take, ← List.map_drop]
        case' inr =>
          obtain ⟨m, hm⟩ : ∃ m, j = m + 1 := ⟨j - 1, by omega⟩
          obtain ⟨y, hy, _, hty, _⟩ := next_of (show m < b.length by omega)
          have hlast : (b.take j).getLast? = some y := by rw [hm, hty]; simp
          have wm : IntKind.i64.wrap ((j : Int) - 1) = (m : Int) := by rw [wrap_id (by omega) (by omega)]; omega
          have hgt : decide ((j : Int) > 0) = true := decide_eq_true (by omega)
          by_cases hyi : y ≥ i
          · have hge : decide (y ≥ i) = true := decide_eq_true hyi
            simp -dsimp -implicitDefEqProofs only [hcj, hb, hi, rowC, intC, wn, qq, Nat.reduceBEq, reduceIte, Nat.reduceAdd, Nat.reduceSub, Nat.reduceLeDiff, Nat.reduceLT, Nat.reduceMul, Nat.reduceEqDiff, Int.reduceEq, Int.reduceBEq, Int.reduceBNe, Int.reduceLT, Int.reduceLE, Int.reduceGT, Int.reduceGE, Int.reduceNeg, Int.reduceAdd, Int.reduceSub, reduceCtorEq, List.reduceReplicate, ← List.map_take, ← List.map_drop]
            refine callI_pure (h0 i 0 _) rfl rfl ?_
            simp -dsimp -implicitDefEqProofs only [hr, qq, Nat.reduceBEq, reduceIte, Nat.reduceAdd, Nat.reduceSub, Nat.reduceLeDiff, Nat.reduceLT, Nat.reduceMul, Nat.reduceEqDiff, Int.reduceEq, Int.reduceBEq, Int.reduceBNe, Int.reduceLT, Int.reduceLE, Int.reduceGT, Int.reduceGE, Int.reduceNeg, Int.reduceAdd, Int.reduceSub, reduceCtorEq, List.reduceReplicate, ← List.map_take, ← List.map_drop]
            refine hlend _ _ ?_
            simp -dsimp -implicitDefEqProofs only [hin, hgt, wm, hb, rowC, hy, intC, hge, qq, Nat.reduceBEq, reduceIte, Nat.reduceAdd, Nat.reduceSub, Nat.reduceLeDiff, Nat.reduceLT, Nat.reduceMul, Nat.reduceEqDiff, Int.reduceEq, Int.reduceBEq, Int.reduceBNe, Int.reduceLT, Int.reduceLE, Int.reduceGT, Int.reduceGE, Int.reduceNeg, Int.reduceAdd, Int.reduceSub, reduceCtorEq, List.reduceReplicate, ← List.map_take, ← List.map_drop]
            exact gone _ fun h => by
              have h2 := h.up
              rw [htj0, List.pairwise_append] at h2
              have := h2.2.2 y (List.mem_of_getLast? hlast) i (by simp)
              omega
          have hge : decide (y ≥ i) = false := decide_eq_false hyi
          have hnx : PartJ n (bs.take k) (b.take (j + 1)) := by rw [htj0]; exact hJ.snoc hir hni fun z hz => by rw [hlast] at hz; cases hz; omega
          simp -dsimp -implicitDefEqProofs only [hcj, hb, hi, rowC, intC, wn, qq, Nat.reduceBEq, reduceIte, Nat.reduceAdd, Nat.reduceSub, Nat.reduceLeDiff, Nat.reduceLT, Nat.reduceMul, Nat.reduceEqDiff, Int.reduceEq, Int.reduceBEq, Int.reduceBNe, Int.reduceLT, Int.reduceLE, Int.reduceGT, Int.reduceGE, Int.reduceNeg, Int.reduceAdd, Int.reduceSub, reduceCtorEq, List.reduceReplicate, ← List.map_take, ← List.map_drop]
          refine callI_pure (h0 i 0 _) rfl rfl ?_
          simp -dsimp -implicitDefEqProofs only [hr, qq, Nat.reduceBEq, reduceIte, Nat.reduceAdd, Nat.reduceSub, Nat.reduceLeDiff, Nat.reduceLT, Nat.reduceMul, Nat.reduceEqDiff, Int.reduceEq, Int.reduceBEq, Int.reduceBNe, Int.reduceLT, Int.reduceLE, Int.reduceGT, Int.reduceGE, Int.reduceNeg, Int.reduceAdd, Int.reduceSub, reduceCtorEq, List.reduceReplicate, ← List.map_take, ← List.map_drop]
          refine hlend _ _ ?_
          simp -dsimp -implicitDefEqProofs only [hin, hgt, wm, hb, rowC, hy, intC, hge, qq, Nat.reduceBEq, reduceIte, Nat.reduceAdd, Nat.reduceSub, Nat.reduceLeDiff, Nat.reduceLT, Nat.reduceMul, Nat.reduceEqDiff, Int.reduceEq, Int.reduceBEq, Int.reduceBNe, Int.reduceLT, Int.reduceLE, Int.reduceGT, Int.reduceGE, Int.reduceNeg, Int.reduceAdd, Int.reduceSub, reduceCtorEq, List.reduceReplicate, ← List.map_take, ← List.map_drop]
        all_goals
          refine app_own (ys := [[.i .i64 i]]) (ho.app _) (by decide) (by decide) (by simp [Sh.shown, gapp]) (by simp [V.one]) (by rw [List.length_map]; simp; simp at hlen2; omega) fun v2 H2 ho2 ha2 hf2 => ?_
          simp -dsimp -implicitDefEqProofs only [hwj, qq, Nat.reduceBEq, reduceIte, Nat.reduceAdd, Nat.reduceSub, Nat.reduceLeDiff, Nat.reduceLT, Nat.reduceMul, Nat.reduceEqDiff, Int.reduceEq, Int.reduceBEq, Int.reduceBNe, Int.reduceLT, Int.reduceLE, Int.reduceGT, Int.reduceGE, Int.reduceNeg, Int.reduceAdd, Int.reduceSub, reduceCtorEq, List.reduceReplicate, ← List.map_take, ← List.map_drop]
          exact ⟨j + 1, by omega, by omega, v2, rfl, by rw [htj0, ← List.append_assoc, List.map_append]; exact ho2, hnx⟩
      · have hcj : decide ((j : Int) < (b.length : Int)) = false := decide_eq_false (by omega)
        rw [List.take_of_length_le hjl] at ho hJ
        simp -dsimp -implicitDefEqProofs only [hcj, hb, rowC, hwk, qq, Nat.reduceBEq, reduceIte, Nat.reduceAdd, Nat.reduceSub, Nat.reduceLeDiff, Nat.reduceLT, Nat.reduceMul, Nat.reduceEqDiff, Int.reduceEq, Int.reduceBEq, Int.reduceBNe, Int.reduceLT, Int.reduceLE, Int.reduceGT, Int.reduceGE, Int.reduceNeg, Int.reduceAdd, Int.reduceSub, reduceCtorEq, List.reduceReplicate, ← List.map_take, ← List.map_drop]
        refine ⟨k + 1, by omega, by omega, v, rfl, by rw [htk]; simpa using ho, by rw [htk]; exact partK_snoc hK (by rw [← hbe]; simp) (fun y hy => by rw [hhd]; exact hpass y hy) hJ⟩
  · have hc : decide ((k : Int) < (bs.length : Int)) = false := by simp; omega
    rw [List.take_of_length_le hkl] at ho hK
    have hlen := hK.len
    have hfin : partsB n bs = decide (bs.flatten.length = n) := by
      unfold partsB
      rw [Bool.eq_iff_iff, decide_eq_true_eq, decide_eq_true_eq]
      exact ⟨fun h => h.2, fun h => ⟨hK, h⟩⟩
    rcases ho with ⟨hr, rfl⟩ | ⟨p, c, e, rfl, hp⟩
    · simp -dsimp -implicitDefEqProofs only [hc, qq, Nat.reduceBEq, reduceIte, Nat.reduceAdd, Nat.reduceSub, Nat.reduceLeDiff, Nat.reduceLT, Nat.reduceMul, Nat.reduceEqDiff, Int.reduceEq, Int.reduceBEq, Int.reduceBNe, Int.reduceLT, Int.reduceLE, Int.reduceGT, Int.reduceGE, Int.reduceNeg, Int.reduceAdd, Int.reduceSub, reduceCtorEq, List.reduceReplicate, ← List.map_take, ← List.map_drop]
      refine Ends.plain rfl rfl ?_
      rw [hfin]
      have : bs.flatten = [] := List.map_eq_nil_iff.1 hr
      simp only [resV, this]
      congr 1
      rw [Bool.eq_iff_iff]; simp; omega
    · simp -dsimp -implicitDefEqProofs only [hc, qq, Nat.reduceBEq, reduceIte, Nat.reduceAdd, Nat.reduceSub, Nat.reduceLeDiff, Nat.reduceLT, Nat.reduceMul, Nat.reduceEqDiff, Int.reduceEq, Int.reduceBEq, Int.reduceBNe, Int.reduceLT, Int.reduceLE, Int.reduceGT, Int.reduceGE, Int.reduceNeg, Int.reduceAdd, Int.reduceSub, reduceCtorEq, List.reduceReplicate, ← List.map_take, ← List.map_drop]
      refine Ends.plain rfl rfl ?_
      rw [hfin]
      simp only [resV]
      congr 1
      rw [Bool.eq_iff_iff]; simp; omega

theorem idMap_length (l : List Int) : (idMap l).length = l.length := by simp [idMap]
def C_areBungs (P : Program) (f : Nat) : Prop := ∀ (n : Nat) (bs : List (List Int)), n ≤ 1000 → bs.length ≤ 1000000000000000 → (∀ b ∈ bs, b.length ≤ 1000000000000000) → Snd P f [.i .i64 n, .fsl (bs.map rowC)] [] (.b (partsB n bs)) []
set_option maxHeartbeats 2000000 in
theorem ok_areBungs (hm : P.follows .mixedOrders = true) {f f0 : Nat} (low : Low_bung_areBungs P f f0) (h0 : C_within P f0) : C_areBungs P f := by
  intro n bs hn hl hbl
  have wn : IntKind.i64.wrap ((n : Int) - 1) = (n : Int) - 1 := wrap_id (by omega) (by omega)
  refine snd_ic hm low (by simp) ?_
  unfold ic_bung_areBungs
  simp -dsimp -implicitDefEqProofs only [qq, Nat.reduceBEq, reduceIte, Nat.reduceAdd, Nat.reduceSub, Nat.reduceLeDiff, Nat.reduceLT, Nat.reduceMul, Nat.reduceEqDiff, Int.reduceEq, Int.reduceBEq, Int.reduceBNe, Int.reduceLT, Int.reduceLE, Int.reduceGT, Int.reduceGE, Int.reduceNeg, Int.reduceAdd, Int.reduceSub, reduceCtorEq, List.reduceReplicate, ← List.map_take, ← List.map_drop]
  refine loopI_st (fun k : Nat => bs.length - k) (fun k E H => k ≤ bs.length ∧ ∃ last, E = [(0, .i .i64 n), (5, .rmp 0), (6, .i .i64 last), (12, .fsl (bs.map rowC)), (13, .i .i64 bs.length), (14, .i .i64 k)] ∧ H = [.mp (idMap (bs.take k).flatten)] ∧ PartK n (bs.take k) ∧ ((k = 0 ∧ last = -1) ∨ ((bs.take k).map fun b => b.headD 0).getLast? = some last)) 0 ⟨by omega, _, rfl, rfl, .nil n, .inl ⟨rfl, rfl⟩⟩ ?_
  rintro k _ _ ⟨hk, last, rfl, rfl, hK, hlast⟩
  rcases Nat.lt_or_ge k bs.length with hkl | hkl
  · have hc : decide ((k : Int) < (bs.length : Int)) = true := by simpa using hkl
    obtain ⟨b, hb, hbm, htk, _⟩ := next_of hkl
    have hwk : IntKind.i64.wrap ((k : Int) + 1) = ((k + 1 : Nat) : Int) := wrap_succ (by omega)
    have hbl2 := hbl b hbm
    have gone : ∀ (H2 : List Blk), ¬ PartK n (bs.take (k + 1)) → Ends [.tmp 4] [] (.b (partsB n bs)) [] .ret [(4, .b false)] H2 := fun H2 hf => Ends.plain rfl rfl (by rw [parts_no hf]; rfl)
    rcases b with _ | ⟨x, b'⟩
    · have hlen0 : (((0 : Nat) : Int) == 0) = true := by decide
      simp -dsimp -implicitDefEqProofs only [hc, hb, rowC, hlen0, qq, Nat.reduceBEq, reduceIte, Nat.reduceAdd, Nat.reduceSub, Nat.reduceLeDiff, Nat.reduceLT, Nat.reduceMul, Nat.reduceEqDiff, Int.reduceEq, Int.reduceBEq, Int.reduceBNe, Int.reduceLT, Int.reduceLE, Int.reduceGT, Int.reduceGE, Int.reduceNeg, Int.reduceAdd, Int.reduceSub, reduceCtorEq, List.reduceReplicate, ← List.map_take, ← List.map_drop]
      exact gone _ fun h => h.ne [] (by rw [htk]; simp) rfl
    generalize hbe : x :: b' = b at hb hbm htk hbl2
    have hbx : (b.map intC)[0]? = some (intC x) := by rw [← hbe]; rfl
    have hbne : ((b.length : Int) == 0) = false := by rw [← hbe]; simp; omega
    have hhd : b.headD 0 = x := by rw [← hbe]; rfl
    have hb0 : b[0]? = some x := by rw [← hbe]; rfl
    by_cases hxl : x ≤ last
    · have hle : decide (x ≤ last) = true := decide_eq_true hxl
      simp -dsimp -implicitDefEqProofs only [hc, hb, rowC, hbne, hbx, intC, rowAt_zero, hb0, hle, qq, Nat.reduceBEq, reduceIte, Nat.reduceAdd, Nat.reduceSub, Nat.reduceLeDiff, Nat.reduceLT, Nat.reduceMul, Nat.reduceEqDiff, Int.reduceEq, Int.reduceBEq, Int.reduceBNe, Int.reduceLT, Int.reduceLE, Int.reduceGT, Int.reduceGE, Int.reduceNeg, Int.reduceAdd, Int.reduceSub, reduceCtorEq, List.reduceReplicate, ← List.map_take, ← List.map_drop]
      refine gone _ fun h => ?_
      rcases hlast with ⟨_, rfl⟩ | hlast
      · have := h.ix b (by rw [htk]; simp) x (by rw [← hbe]; simp); omega
      · have h2 := h.hd
        rw [htk, List.map_append, List.pairwise_append] at h2
        have := h2.2.2 last (List.mem_of_getLast? hlast) x (by rw [← hhd]; simp)
        omega
    have hle : decide (x ≤ last) = false := decide_eq_false hxl
    have hpass : ∀ y, ((bs.take k).map fun b => b.headD 0).getLast? = some y → y < x := fun y hy => by
      rcases hlast with ⟨rfl, _⟩ | hlast
      · simp at hy
      · rw [hlast] at hy; cases hy; omega
    simp -dsimp -implicitDefEqProofs only [hc, hb, rowC, hbne, hbx, intC, rowAt_zero, hb0, hle, qq, Nat.reduceBEq, reduceIte, Nat.reduceAdd, Nat.reduceSub, Nat.reduceLeDiff, Nat.reduceLT, Nat.reduceMul, Nat.reduceEqDiff, Int.reduceEq, Int.reduceBEq, Int.reduceBNe, Int.reduceLT, Int.reduceLE, Int.reduceGT, Int.reduceGE, Int.reduceNeg, Int.reduceAdd, Int.reduceSub, reduceCtorEq, List.reduceReplicate, ← List.map_take, ← List.map_drop]
    refine loopI_st (fun j : Nat => b.length - j) (fun j E H => j ≤ b.length ∧ E = [(0, .i .i64 n), (5, .rmp 0), (6, .i .i64 x), (8, .fsl (b.map intC)), (12, .fsl (bs.map rowC)), (13, .i .i64 bs.length), (14, .i .i64 k), (31, .fsl (b.map intC)), (32, .i .i64 b.length), (33, .i .i64 j)] ∧ H = [.mp (idMap ((bs.take k).flatten ++ b.take j))] ∧ PartJ n (bs.take k) (b.take j)) 0 ⟨by omega, rfl, by simp, by simp, by simp, by simpa using hK.nd⟩ ?_
    rintro j _ _ ⟨hj, rfl, rfl, hJ⟩
    rcases Nat.lt_or_ge j b.length with hjl | hjl
    · have hcj : decide ((j : Int) < (b.length : Int)) = true := decide_eq_true (by omega)
      obtain ⟨i, hi, him, htj, _⟩ := next_of hjl
      have hwj : IntKind.i64.wrap ((j : Int) + 1) = ((j + 1 : Nat) : Int) := wrap_succ (by omega)
      have hjk : (PartJ n (bs.take k) (b.take (j + 1)) → False) → ¬ PartK n (bs.take (k + 1)) := fun hf h => hf (by
        rw [htk] at h
        refine ⟨?_, fun y hy => h.ix b (by simp) y (List.mem_of_mem_take hy), ?_⟩
        · have := h.up b (by simp); rw [← List.take_append_drop (j + 1) b, List.pairwise_append] at this; exact this.1
        · have := h.nd; rw [List.flatten_append] at this; simp only [List.flatten_cons, List.flatten_nil, List.append_nil] at this
          rw [← List.take_append_drop (j + 1) b, ← List.append_assoc, List.nodup_append] at this; exact this.1)
      have hgt0 : j = 0 → decide ((j : Int) > 0) = false := fun h => decide_eq_false (by omega)
      have htj0 : b.take (j + 1) = b.take j ++ [i] := htj
      cases hr : inR i 0 ((n : Int) - 1)
      · simp -dsimp -implicitDefEqProofs only [hcj, hi, intC, wn, qq, Nat.reduceBEq, reduceIte, Nat.reduceAdd, Nat.reduceSub, Nat.reduceLeDiff, Nat.reduceLT, Nat.reduceMul, Nat.reduceEqDiff, Int.reduceEq, Int.reduceBEq, Int.reduceBNe, Int.reduceLT, Int.reduceLE, Int.reduceGT, Int.reduceGE, Int.reduceNeg, Int.reduceAdd, Int.reduceSub, reduceCtorEq, List.reduceReplicate, ← List.map_take, ← List.map_drop]
        refine callI_pure (h0 i 0 _) rfl rfl ?_
        simp -dsimp -implicitDefEqProofs only [hr, qq, Nat.reduceBEq, reduceIte, Nat.reduceAdd, Nat.reduceSub, Nat.reduceLeDiff, Nat.reduceLT, Nat.reduceMul, Nat.reduceEqDiff, Int.reduceEq, Int.reduceBEq, Int.reduceBNe, Int.reduceLT, Int.reduceLE, Int.reduceGT, Int.reduceGE, Int.reduceNeg, Int.reduceAdd, Int.reduceSub, reduceCtorEq, List.reduceReplicate, ← List.map_take, ← List.map_drop]
        exact gone _ (hjk fun h => by
          have := h.ix i (by rw [htj0]; simp)
          simp [inR] at hr; omega)
      have hir : 0 ≤ i ∧ i < n := by simp [inR] at hr; omega
      by_cases hin : i ∈ (bs.take k).flatten ++ b.take j
      · simp -dsimp -implicitDefEqProofs only [hcj, hi, intC, wn, qq, Nat.reduceBEq, reduceIte, Nat.reduceAdd, Nat.reduceSub, Nat.reduceLeDiff, Nat.reduceLT, Nat.reduceMul, Nat.reduceEqDiff, Int.reduceEq, Int.reduceBEq, Int.reduceBNe, Int.reduceLT, Int.reduceLE, Int.reduceGT, Int.reduceGE, Int.reduceNeg, Int.reduceAdd, Int.reduceSub, reduceCtorEq, List.reduceReplicate, ← List.map_take, ← List.map_drop]
        refine callI_pure (h0 i 0 _) rfl rfl ?_
        simp -dsimp -implicitDefEqProofs only [hr, findK_ids, if_pos hin, qq, Nat.reduceBEq, reduceIte, Nat.reduceAdd, Nat.reduceSub, Nat.reduceLeDiff, Nat.reduceLT, Nat.reduceMul, Nat.reduceEqDiff, Int.reduceEq, Int.reduceBEq, Int.reduceBNe, Int.reduceLT, Int.reduceLE, Int.reduceGT, Int.reduceGE, Int.reduceNeg, Int.reduceAdd, Int.reduceSub, reduceCtorEq, List.reduceReplicate, ← List.map_take, ← List.map_drop]
        exact gone _ (hjk fun h => by
          have h2 := h.nd
          rw [htj0, ← List.append_assoc, List.nodup_append] at h2
          exact h2.2.2 i hin i (by simp) rfl)
      rcases Nat.eq_zero_or_pos j with hj0 | hj0
      case' inl =>
        have hnx : PartJ n (bs.take k) (b.take (j + 1)) := by rw [htj0]; exact hJ.snoc hir hin fun y hy => by rw [hj0] at hy; simp at hy
        simp -dsimp -implicitDefEqProofs only [hcj, hi, intC, wn, qq, Nat.reduceBEq, reduceIte, Nat.reduceAdd, Nat.reduceSub, Nat.reduceLeDiff, Nat.reduceLT, Nat.reduceMul, Nat.reduceEqDiff, Int.reduceEq, Int.reduceBEq, Int.reduceBNe, Int.reduceLT, Int.reduceLE, Int.reduceGT, Int.reduceGE, Int.reduceNeg, Int.reduceAdd, Int.reduceSub, reduceCtorEq, List.reduceReplicate, ← List.map_take, ← List.map_drop]
        refine callI_pure (h0 i 0 _) rfl rfl ?_
        simp -dsimp -implicitDefEqProofs only [hr, findK_ids, if_neg hin, hgt0 hj0, updK_ids _ _ hin, hwj, qq, Nat.reduceBEq, reduceIte, Nat.reduceAdd, Nat.reduceSub, Nat.reduceLeDiff, Nat.reduceLT, Nat.reduceMul, Nat.reduceEqDiff, Int.reduceEq, Int.reduceBEq, Int.reduceBNe, Int.reduceLT, Int.reduceLE, Int.reduceGT, Int.reduceGE, Int.reduceNeg, Int.reduceAdd, Int.reduceSub, reduceCtorEq, List.reduceReplicate, ← List.map_take, ← List.map_drop]
      case' inr =>
        obtain ⟨m, hm⟩ : ∃ m, j = m + 1 := ⟨j - 1, by omega⟩
        obtain ⟨y, hy, _, hty, _⟩ := next_of (show m < b.length by omega)
        have hlast : (b.take j).getLast? = some y := by rw [hm, hty]; simp
        have wm : IntKind.i64.wrap ((j : Int) - 1) = (m : Int) := by rw [wrap_id (by omega) (by omega)]; omega
        have hgt : decide ((j : Int) > 0) = true := decide_eq_true (by omega)
        by_cases hyi : y ≥ i
        · have hge : decide (y ≥ i) = true := decide_eq_true hyi
          simp -dsimp -implicitDefEqProofs only [hcj, hi, intC, wn, qq, Nat.reduceBEq, reduceIte, Nat.reduceAdd, Nat.reduceSub, Nat.reduceLeDiff, Nat.reduceLT, Nat.reduceMul, Nat.reduceEqDiff, Int.reduceEq, Int.reduceBEq, Int.reduceBNe, Int.reduceLT, Int.reduceLE, Int.reduceGT, Int.reduceGE, Int.reduceNeg, Int.reduceAdd, Int.reduceSub, reduceCtorEq, List.reduceReplicate, ← List.map_take, ← List.map_drop]
          refine callI_pure (h0 i 0 _) rfl rfl ?_
          simp -dsimp -implicitDefEqProofs only [hr, findK_ids, if_neg hin, hgt, wm, hy, intC, hge, qq, Nat.reduceBEq, reduceIte, Nat.reduceAdd, Nat.reduceSub, Nat.reduceLeDiff, Nat.reduceLT, Nat.reduceMul, Nat.reduceEqDiff, Int.reduceEq, Int.reduceBEq, Int.reduceBNe, Int.reduceLT, Int.reduceLE, Int.reduceGT, Int.reduceGE, Int.reduceNeg, Int.reduceAdd, Int.reduceSub, reduceCtorEq, List.reduceReplicate, ← List.map_take, ← List.map_drop]
          exact gone _ (hjk fun h => by
            have h2 := h.up
            rw [htj0, List.pairwise_append] at h2
            have := h2.2.2 y (List.mem_of_getLast? hlast) i (by simp)
            omega)
        have hge : decide (y ≥ i) = false := decide_eq_false hyi
        have hnx : PartJ n (bs.take k) (b.take (j + 1)) := by rw [htj0]; exact hJ.snoc hir hin fun z hz => by rw [hlast] at hz; cases hz; omega
        simp -dsimp -implicitDefEqProofs only [hcj, hi, intC, wn, qq, Nat.reduceBEq, reduceIte, Nat.reduceAdd, Nat.reduceSub, Nat.reduceLeDiff, Nat.reduceLT, Nat.reduceMul, Nat.reduceEqDiff, Int.reduceEq, Int.reduceBEq, Int.reduceBNe, Int.reduceLT, Int.reduceLE, Int.reduceGT, Int.reduceGE, Int.reduceNeg, Int.reduceAdd, Int.reduceSub, reduceCtorEq, List.reduceReplicate, ← List.map_take, ← List.map_drop]
        refine callI_pure (h0 i 0 _) rfl rfl ?_
        simp -dsimp -implicitDefEqProofs only [hr, findK_ids, if_neg hin, hgt, wm, hy, intC, hge, updK_ids _ _ hin, hwj, qq, Nat.reduceBEq, reduceIte, Nat.reduceAdd, Nat.reduceSub, Nat.reduceLeDiff, Nat.reduceLT, Nat.reduceMul, Nat.reduceEqDiff, Int.reduceEq, Int.reduceBEq, Int.reduceBNe, Int.reduceLT, Int.reduceLE, Int.reduceGT, Int.reduceGE, Int.reduceNeg, Int.reduceAdd, Int.reduceSub, reduceCtorEq, List.reduceReplicate, ← List.map_take, ← List.map_drop]
      all_goals
        exact ⟨j + 1, by omega, by omega, rfl, by rw [htj0], hnx⟩
    · have hcj : decide ((j : Int) < (b.length : Int)) = false := decide_eq_false (by omega)
      rw [List.take_of_length_le hjl] at hJ
      rw [List.take_of_length_le hjl]
      simp -dsimp -implicitDefEqProofs only [hcj, hwk, qq, Nat.reduceBEq, reduceIte, Nat.reduceAdd, Nat.reduceSub, Nat.reduceLeDiff, Nat.reduceLT, Nat.reduceMul, Nat.reduceEqDiff, Int.reduceEq, Int.reduceBEq, Int.reduceBNe, Int.reduceLT, Int.reduceLE, Int.reduceGT, Int.reduceGE, Int.reduceNeg, Int.reduceAdd, Int.reduceSub, reduceCtorEq, List.reduceReplicate, ← List.map_take, ← List.map_drop]
      refine ⟨k + 1, by omega, by omega, x, rfl, by rw [htk]; simp, by rw [htk]; exact partK_snoc hK (by rw [← hbe]; simp) (fun y hy => by rw [hhd]; exact hpass y hy) hJ, .inr (by rw [htk, List.map_append, ← hhd]; simp)⟩
  · have hc : decide ((k : Int) < (bs.length : Int)) = false := by simp; omega
    rw [List.take_of_length_le hkl] at hK
    rw [List.take_of_length_le hkl]
    have hfin : partsB n bs = decide (bs.flatten.length = n) := by
      unfold partsB
      rw [Bool.eq_iff_iff, decide_eq_true_eq, decide_eq_true_eq]
      exact ⟨fun h => h.2, fun h => ⟨hK, h⟩⟩
    simp -dsimp -implicitDefEqProofs only [hc, idMap_length, qq, Nat.reduceBEq, reduceIte, Nat.reduceAdd, Nat.reduceSub, Nat.reduceLeDiff, Nat.reduceLT, Nat.reduceMul, Nat.reduceEqDiff, Int.reduceEq, Int.reduceBEq, Int.reduceBNe, Int.reduceLT, Int.reduceLE, Int.reduceGT, Int.reduceGE, Int.reduceNeg, Int.reduceAdd, Int.reduceSub, reduceCtorEq, List.reduceReplicate, ← List.map_take, ← List.map_drop]
    refine Ends.plain rfl rfl ?_
    rw [hfin]
    simp only [resV]
    congr 1
    rw [Bool.eq_iff_iff]; simp; omega
end Go.Sh.C3
end
section
namespace Go.Sh.C3
open Go.Sh
set_option maxRecDepth 10000
set_option linter.unusedVariables false
set_option linter.unusedSimpArgs false
variable {P : Program}
def ic_potbanklaw03_sane (f0 f1 f2 f3 f4 f5 f6 f7 f8 f9 : Nat) : IC := .seq (.reg [⟨some 0, none, .mov (.c (.b false))⟩] []) (.seq (.reg [⟨some 22, none, .bld [.i .i64 (0), .i .i64 (0)] [(0, 1, (.c (.i .i64 (5)))), (1, 1, (.c (.i .i64 (10))))]⟩, ⟨some 1, none, .alloc [.i .i64 (0), .i .i64 (0)]⟩, ⟨none, none, .st 2 (.t 1) (.t 22)⟩] [1]) (.seq (.drg [(0, ⟨some 24, none, .ld (some 2) (.t 1)⟩), (0, ⟨some 25, none, .calv (.c (.fn (.func f0) [] [])) []⟩), (0, ⟨some 26, none, .bsl true 1 3 [.i .i64 (0)] [(0, (.c (.i .i64 (0)))), (1, (.c (.i .i64 (1)))), (2, (.c (.i .i64 (2))))]⟩), (0, ⟨some 27, none, .calv (.c (.fn (.func f1) [] [])) [.t 24, .t 25, .t 26]⟩), (0, ⟨some 23, none, .mov (.t 27)⟩), (0, ⟨some 28, none, .ext (.t 23) 0⟩), (0, ⟨some 29, none, .ext (.t 23) 1⟩), (1, ⟨some 2, none, .alloc [.i .i64 (0), .i .i64 (0), .nsl]⟩), (1, ⟨none, none, .st 3 (.t 2) (.t 28)⟩), (0, ⟨some 3, none, .mov (.t 29)⟩)] 9 [1, 2, 3]) (.seq (.drg [(0, ⟨some 31, none, .ld (some 2) (.t 1)⟩), (0, ⟨some 32, none, .calv (.c (.fn (.func f0) [] [])) []⟩), (0, ⟨some 33, none, .bsl true 1 3 [.i .i64 (0)] [(0, (.c (.i .i64 (1)))), (1, (.c (.i .i64 (0)))), (2, (.c (.i .i64 (2))))]⟩), (0, ⟨some 34, none, .calv (.c (.fn (.func f1) [] [])) [.t 31, .t 32, .t 33]⟩), (0, ⟨some 30, none, .mov (.t 34)⟩), (0, ⟨some 35, none, .ext (.t 30) 0⟩), (0, ⟨some 36, none, .ext (.t 30) 1⟩), (1, ⟨some 4, none, .alloc [.i .i64 (0), .i .i64 (0), .nsl]⟩), (1, ⟨none, none, .st 3 (.t 4) (.t 35)⟩), (0, ⟨some 5, none, .mov (.t 36)⟩)] 9 [1, 2, 3, 4, 5]) (.seq (.reg [⟨some 38, none, .ld (some 3) (.t 2)⟩, ⟨some 39, none, .calv (.c (.fn (.func f2) [] [])) [.t 38]⟩, ⟨some 37, none, .mov (.t 39)⟩, ⟨some 40, none, .ext (.t 37) 0⟩, ⟨some 41, none, .ext (.t 37) 1⟩, ⟨some 6, none, .mov (.t 40)⟩, ⟨some 7, none, .mov (.t 41)⟩] [1, 2, 3, 4, 5, 6, 7]) (.seq (.reg [⟨some 43, none, .ld (some 3) (.t 2)⟩, ⟨some 44, none, .calv (.c (.fn (.func f3) [] [])) [.t 43]⟩, ⟨some 42, none, .mov (.t 44)⟩, ⟨some 45, none, .ext (.t 42) 0⟩, ⟨some 46, none, .ext (.t 42) 1⟩, ⟨some 8, none, .mov (.t 45)⟩, ⟨some 9, none, .mov (.t 46)⟩] [1, 2, 3, 4, 5, 6, 7, 8, 9]) (.seq (.reg [⟨some 48, none, .ld (some 3) (.t 4)⟩, ⟨some 49, none, .calv (.c (.fn (.func f3) [] [])) [.t 48]⟩, ⟨some 47, none, .mov (.t 49)⟩, ⟨some 50, none, .ext (.t 47) 0⟩, ⟨some 51, none, .ext (.t 47) 1⟩, ⟨some 10, none, .mov (.t 50)⟩, ⟨some 11, none, .mov (.t 51)⟩] [1, 2, 3, 4, 5, 6, 7, 8, 9, 10, 11]) (.seq (.reg [⟨some 53, none, .ld (some 3) (.t 2)⟩, ⟨some 54, none, .calv (.c (.fn (.func f4) [] [])) [.t 53]⟩, ⟨some 52, none, .mov (.t 54)⟩, ⟨some 55, none, .ext (.t 52) 0⟩, ⟨some 56, none, .ext (.t 52) 1⟩, ⟨some 12, none, .mov (.t 55)⟩, ⟨some 13, none, .mov (.t 56)⟩] [1, 3, 4, 5, 6, 7, 8, 9, 10, 11, 12, 13]) (.seq (.reg [⟨some 58, none, .ld (some 3) (.t 4)⟩, ⟨some 59, none, .calv (.c (.fn (.func f5) [] [])) [.t 58]⟩, ⟨some 57, none, .mov (.t 59)⟩, ⟨some 60, none, .ext (.t 57) 0⟩, ⟨some 61, none, .ext (.t 57) 1⟩, ⟨some 14, none, .alloc [.i .i64 (0), .i .i64 (0), .nsl]⟩, ⟨none, none, .st 3 (.t 14) (.t 60)⟩, ⟨some 15, none, .mov (.t 61)⟩] [1, 3, 5, 6, 7, 8, 9, 10, 11, 12, 13, 14, 15]) (.seq (.drg [(0, ⟨some 63, none, .ld (some 2) (.t 1)⟩), (0, ⟨some 64, none, .calv (.c (.fn (.func f0) [] [])) []⟩), (0, ⟨some 65, none, .bld [.i .i64 (0), .i .i64 (0)] [(0, 1, (.c (.i .i64 (400)))), (1, 1, (.c (.i .i64 (9))))]⟩), (0, ⟨some 66, none, .calv (.c (.fn (.func f6) [] [])) [.t 63, .t 64, .t 65]⟩), (0, ⟨some 62, none, .mov (.t 66)⟩), (0, ⟨some 67, none, .ext (.t 62) 0⟩), (0, ⟨some 68, none, .ext (.t 62) 1⟩), (0, ⟨some 16, none, .mov (.t 67)⟩), (0, ⟨some 17, none, .mov (.t 68)⟩)] 8 [3, 5, 6, 7, 8, 9, 10, 11, 12, 13, 14, 15, 16, 17]) (.seq (.reg [⟨some 69, none, .mov (.t 3)⟩, ⟨some 70, none, .bin .eql (.t 69) (.c (.i .i64 (0)))⟩, ⟨some 71, none, .mov (.t 70)⟩, ⟨some 72, some (71, true), .mov (.t 5)⟩, ⟨some 73, some (71, true), .bin .eql (.t 72) (.c (.i .i64 (0)))⟩, ⟨some 74, none, .pick (.t 71) (.t 73) (.c (.b false))⟩, ⟨some 75, none, .mov (.t 74)⟩, ⟨some 76, some (75, true), .mov (.t 7)⟩, ⟨some 77, some (75, true), .bin .eql (.t 76) (.c (.i .i64 (0)))⟩, ⟨some 78, none, .pick (.t 75) (.t 77) (.c (.b false))⟩, ⟨some 79, none, .mov (.t 78)⟩, ⟨some 80, some (79, true), .mov (.t 9)⟩, ⟨some 81, some (79, true), .bin .eql (.t 80) (.c (.i .i64 (0)))⟩, ⟨some 82, none, .pick (.t 79) (.t 81) (.c (.b false))⟩, ⟨some 83, none, .mov (.t 82)⟩, ⟨some 84, some (83, true), .mov (.t 11)⟩, ⟨some 85, some (83, true), .bin .eql (.t 84) (.c (.i .i64 (0)))⟩, ⟨some 86, none, .pick (.t 83) (.t 85) (.c (.b false))⟩, ⟨some 87, none, .mov (.t 86)⟩, ⟨some 88, some (87, true), .mov (.t 13)⟩, ⟨some 89, some (87, true), .bin .eql (.t 88) (.c (.i .i64 (0)))⟩, ⟨some 90, none, .pick (.t 87) (.t 89) (.c (.b false))⟩, ⟨some 91, none, .mov (.t 90)⟩, ⟨some 92, some (91, true), .mov (.t 15)⟩, ⟨some 93, some (91, true), .bin .eql (.t 92) (.c (.i .i64 (0)))⟩, ⟨some 94, none, .pick (.t 91) (.t 93) (.c (.b false))⟩, ⟨some 95, none, .mov (.t 94)⟩, ⟨some 96, some (95, true), .mov (.t 17)⟩, ⟨some 97, some (95, true), .bin .eql (.t 96) (.c (.i .i64 (0)))⟩, ⟨some 98, none, .pick (.t 95) (.t 97) (.c (.b false))⟩, ⟨some 18, none, .mov (.t 98)⟩] [6, 8, 10, 12, 14, 16, 18]) (.seq (.reg [⟨some 99, none, .mov (.t 6)⟩, ⟨some 100, none, .bld [.i .i64 (0), .i .i64 (0)] [(0, 1, (.c (.i .i64 (140)))), (1, 1, (.c (.i .i64 (150))))]⟩, ⟨some 101, none, .bld [.i .i64 (0), .i .i64 (0)] [(0, 1, (.c (.i .i64 (60)))), (1, 1, (.c (.i .i64 (60))))]⟩, ⟨some 102, none, .bld [.i .i64 (0), .i .i64 (0)] []⟩, ⟨some 103, none, .bsl false 2 3 [.i .i64 (0), .i .i64 (0)] [(0, (.t 100)), (1, (.t 101)), (2, (.t 102))]⟩, ⟨some 104, none, .calv (.c (.fn (.func f7) [] [])) [.t 99, .t 103]⟩, ⟨some 19, none, .mov (.t 104)⟩] [8, 10, 12, 14, 16, 18, 19]) (.seq (.reg [⟨some 105, none, .mov (.t 16)⟩, ⟨some 106, none, .bsl false 1 2 [.i .i64 (0)] [(0, (.c (.i .i64 (0)))), (1, (.c (.i .i64 (2))))]⟩, ⟨some 107, none, .bsl false 1 1 [.i .i64 (0)] [(0, (.c (.i .i64 (1))))]⟩, ⟨some 108, none, .bsl false 1 2 [.nsl] [(0, (.t 106)), (1, (.t 107))]⟩, ⟨some 109, none, .calv (.c (.fn (.func f8) [] [])) [.t 105, .t 108]⟩, ⟨some 20, none, .mov (.t 109)⟩] [8, 10, 12, 14, 18, 19, 20]) (.seq (.reg [⟨some 110, none, .fad 2 (.t 14)⟩, ⟨some 111, none, .ld none (.t 110)⟩, ⟨some 112, none, .bsl false 1 2 [.i .i64 (0)] [(0, (.c (.i .i64 (120)))), (1, (.c (.i .i64 (60))))]⟩, ⟨some 113, none, .calv (.c (.fn (.func f9) [] [])) [.t 111, .t 112]⟩, ⟨some 21, none, .mov (.t 113)⟩] [8, 10, 12, 14, 18, 19, 20, 21]) (.seq (.reg [⟨some 114, none, .mov (.t 18)⟩, ⟨some 115, none, .mov (.t 114)⟩, ⟨some 116, some (115, true), .mov (.t 19)⟩, ⟨some 117, none, .pick (.t 115) (.t 116) (.c (.b false))⟩, ⟨some 118, none, .mov (.t 117)⟩, ⟨some 119, some (118, true), .mov (.t 8)⟩, ⟨some 120, some (118, true), .bin .eql (.t 119) (.c (.i .i64 (1)))⟩, ⟨some 121, none, .pick (.t 118) (.t 120) (.c (.b false))⟩, ⟨some 122, none, .mov (.t 121)⟩, ⟨some 123, some (122, true), .mov (.t 10)⟩, ⟨some 124, some (122, true), .bin .eql (.t 123) (.c (.i .i64 (2)))⟩, ⟨some 125, none, .pick (.t 122) (.t 124) (.c (.b false))⟩, ⟨some 126, none, .mov (.t 125)⟩, ⟨some 127, some (126, true), .mov (.t 12)⟩, ⟨some 128, some (126, true), .bin .eql (.t 127) (.c (.i .i64 (4)))⟩, ⟨some 129, none, .pick (.t 126) (.t 128) (.c (.b false))⟩, ⟨some 130, none, .mov (.t 129)⟩, ⟨some 131, some (130, true), .mov (.t 21)⟩, ⟨some 132, none, .pick (.t 130) (.t 131) (.c (.b false))⟩, ⟨some 133, none, .mov (.t 132)⟩, ⟨some 134, some (133, true), .fad 0 (.t 14)⟩, ⟨some 135, some (133, true), .ld none (.t 134)⟩, ⟨some 136, some (133, true), .bin .eql (.t 135) (.c (.i .i64 (0)))⟩, ⟨some 137, none, .pick (.t 133) (.t 136) (.c (.b false))⟩, ⟨some 138, none, .mov (.t 137)⟩, ⟨some 139, some (138, true), .fad 1 (.t 14)⟩, ⟨some 140, some (138, true), .ld none (.t 139)⟩, ⟨some 141, some (138, true), .bin .eql (.t 140) (.c (.i .i64 (150)))⟩, ⟨some 142, none, .pick (.t 138) (.t 141) (.c (.b false))⟩, ⟨some 143, none, .mov (.t 142)⟩, ⟨some 144, some (143, true), .mov (.t 20)⟩, ⟨some 145, none, .pick (.t 143) (.t 144) (.c (.b false))⟩, ⟨some 0, none, .mov (.t 145)⟩] [0]) (.ret)))))))))))))))
abbrev Low_potbanklaw03_sane (P : Program) (f f0 f1 f2 f3 f4 f5 f6 f7 f8 f9 : Nat) : Prop := lowF P f = some (146, [.tmp 0], (ic_potbanklaw03_sane f0 f1 f2 f3 f4 f5 f6 f7 f8 f9).erase)

theorem frz_col {H : List Blk} {p n c : Nat} {e : Bool} {us us' : List V} (h : H[p]? = some (.row 1 (us.map fun u => [u]))) (hn : us.length = n) (hl : us.length = us'.length) (hb : ∀ u ∈ us', u.bel 0 = true) (hu : ∀ (i : Nat) u u', us[i]? = some u → us'[i]? = some u' → Frz 0 H u u') : Frz 0 H (.rsl p 1 0 n c e) (.fsl (us'.map fun u => [u])) := by
  subst hn
  have ht : ((us.map fun u => [u]).drop 0).take us.length = us.map fun u => [u] := by rw [List.drop_zero, List.take_of_length_le (by simp)]
  refine .sl p 1 0 us.length c e _ _ (Nat.zero_le _) h (by simp) (by simp [hl]) (fun row hr => ?_) ?_ ?_
  · obtain ⟨u, hu, rfl⟩ := List.mem_map.1 hr
    simp [belL, hb u hu]
  · intro i row row' h1 h3
    rw [ht, List.getElem?_map] at h1
    rw [List.getElem?_map] at h3
    obtain ⟨u, _, rfl⟩ := Option.map_eq_some_iff.1 h1
    obtain ⟨u', _, rfl⟩ := Option.map_eq_some_iff.1 h3
    rfl
  · intro i row row' j x x' h1 h3 e1 e2
    rw [ht, List.getElem?_map] at h1
    rw [List.getElem?_map] at h3
    obtain ⟨u, g1, rfl⟩ := Option.map_eq_some_iff.1 h1
    obtain ⟨u', g2, rfl⟩ := Option.map_eq_some_iff.1 h3
    cases j with
    | zero => simp at e1 e2; subst e1 e2; exact hu i u u' g1 g2
    | succ j => simp at e1
def C_sane (P : Program) (f : Nat) : Prop := Snd P f [] [] (.b true) []
def exB : List Sag := pickS exS [0, 1, 2]
def exC : List Sag := pickS exS [1, 0, 2]
theorem ok_sane (hm : P.follows .mixedOrders = true) {f f0 f1 f2 f3 f4 f5 f6 f7 f8 f9 : Nat} (low : Low_potbanklaw03_sane P f f0 f1 f2 f3 f4 f5 f6 f7 f8 f9) (h0 : C_example P f0) (h1 : C_Set P f1) (h2 : C_Loads P f2) (h3 : C_Stands P f3) (h4 : C_Lean P f4) (h5 : C_Breaks P f5) (h6 : C_Fewest P f6) (h7 : C_SameRanges P f7) (h8 : C_SameParts P f8) (h9 : C_Same P f9) : C_sane P f := by
  have s1 : setE ⟨5, 10⟩ exS [0, 1, 2] = 0 := by decide +kernel
  have s2 : setE ⟨5, 10⟩ exS [1, 0, 2] = 0 := by decide +kernel
  have b1 : bungB ⟨5, 10⟩ exB = true := by decide +kernel
  have b2 : bungB ⟨5, 10⟩ exC = true := by decide +kernel
  have c1 := h1 ⟨5, 10⟩ exS [0, 1, 2] (by decide)
  have c2 := h1 ⟨5, 10⟩ exS [1, 0, 2] (by decide)
  have c3 := h2 ⟨5, 10⟩ exB
  have c4 := h3 ⟨5, 10⟩ exB
  have c5 := h3 ⟨5, 10⟩ exC
  have c6 := h4 ⟨5, 10⟩ exB
  have c7 := h5 ⟨5, 10⟩ exC
  have c8 := h6 ⟨5, 10⟩ exS ⟨400, 9⟩
  rw [s1, if_pos rfl] at c1
  rw [s2, if_pos rfl] at c2
  rw [b1, if_pos rfl, if_pos rfl] at c3 c4 c6
  rw [b2, if_pos rfl, if_pos rfl] at c5
  rw [b2, if_pos rfl, if_pos rfl, show brkV exC = .agg [.i .i64 0, .i .i64 150, .fsl (([120, 60] : List Int).map intC)] by rfl, show (if (brkAt exC).isSome = true then (0 : Int) else 34) = 0 by decide +kernel] at c7
  rw [show standsS exB = 1 by decide +kernel] at c4
  rw [show standsS exC = 2 by decide +kernel] at c5
  rw [show leanS ⟨5, 10⟩ exB = 4 by decide +kernel] at c6
  rw [show loadsS exB = [⟨140, 150⟩, ⟨60, 60⟩, ⟨0, 0⟩] by decide +kernel] at c3
  rw [show fewR ⟨5, 10⟩ exS ⟨400, 9⟩ = [[0, 2], [1]] by decide +kernel, show fewE ⟨5, 10⟩ exS ⟨400, 9⟩ = 0 by decide +kernel] at c8
  have d1 := h7 [⟨140, 150⟩, ⟨60, 60⟩, ⟨0, 0⟩] [⟨140, 150⟩, ⟨60, 60⟩, ⟨0, 0⟩] (by decide)
  have d2 := h8 [[0, 2], [1]] [[0, 2], [1]] (by decide) (by decide)
  have d3 := h9 [120, 60] [120, 60] (by decide)
  rw [decide_eq_true rfl] at d1 d2 d3
  change Snd P f1 [.agg [.i .i64 5, .i .i64 10], .fsl (exS.map Sag.c), .fsl [[.i .i64 0], [.i .i64 1], [.i .i64 2]]] [] (.tup [.agg [.i .i64 5, .i .i64 10, .fsl (exB.map Sag.c)], .i .i64 0]) [] at c1
  change Snd P f1 [.agg [.i .i64 5, .i .i64 10], .fsl (exS.map Sag.c), .fsl [[.i .i64 1], [.i .i64 0], [.i .i64 2]]] [] (.tup [.agg [.i .i64 5, .i .i64 10, .fsl (exC.map Sag.c)], .i .i64 0]) [] at c2
  refine snd_ic hm low (by simp) ?_
  unfold ic_potbanklaw03_sane
  simp -dsimp -implicitDefEqProofs only [qq, Nat.reduceBEq, reduceIte, Nat.reduceAdd, Nat.reduceSub, Nat.reduceLeDiff, Nat.reduceLT, Nat.reduceMul, Nat.reduceEqDiff, Int.reduceEq, Int.reduceBEq, Int.reduceBNe, Int.reduceLT, Int.reduceLE, Int.reduceGT, Int.reduceGE, Int.reduceNeg, Int.reduceAdd, Int.reduceSub, reduceCtorEq, List.reduceReplicate, ← List.map_take, ← List.map_drop]
  refine callI_pure h0 rfl rfl ?_
  simp -dsimp -implicitDefEqProofs only [qq, Nat.reduceBEq, reduceIte, Nat.reduceAdd, Nat.reduceSub, Nat.reduceLeDiff, Nat.reduceLT, Nat.reduceMul, Nat.reduceEqDiff, Int.reduceEq, Int.reduceBEq, Int.reduceBNe, Int.reduceLT, Int.reduceLE, Int.reduceGT, Int.reduceGE, Int.reduceNeg, Int.reduceAdd, Int.reduceSub, reduceCtorEq, List.reduceReplicate, ← List.map_take, ← List.map_drop]
  refine ⟨by decide, callI_pure c1 rfl rfl ?_⟩
  simp -dsimp -implicitDefEqProofs only [qq, Nat.reduceBEq, reduceIte, Nat.reduceAdd, Nat.reduceSub, Nat.reduceLeDiff, Nat.reduceLT, Nat.reduceMul, Nat.reduceEqDiff, Int.reduceEq, Int.reduceBEq, Int.reduceBNe, Int.reduceLT, Int.reduceLE, Int.reduceGT, Int.reduceGE, Int.reduceNeg, Int.reduceAdd, Int.reduceSub, reduceCtorEq, List.reduceReplicate, ← List.map_take, ← List.map_drop]
  refine callI_pure h0 rfl rfl ?_
  simp -dsimp -implicitDefEqProofs only [qq, Nat.reduceBEq, reduceIte, Nat.reduceAdd, Nat.reduceSub, Nat.reduceLeDiff, Nat.reduceLT, Nat.reduceMul, Nat.reduceEqDiff, Int.reduceEq, Int.reduceBEq, Int.reduceBNe, Int.reduceLT, Int.reduceLE, Int.reduceGT, Int.reduceGE, Int.reduceNeg, Int.reduceAdd, Int.reduceSub, reduceCtorEq, List.reduceReplicate, ← List.map_take, ← List.map_drop]
  refine ⟨by decide, callI_pure c2 rfl rfl ?_⟩
  simp -dsimp -implicitDefEqProofs only [qq, Nat.reduceBEq, reduceIte, Nat.reduceAdd, Nat.reduceSub, Nat.reduceLeDiff, Nat.reduceLT, Nat.reduceMul, Nat.reduceEqDiff, Int.reduceEq, Int.reduceBEq, Int.reduceBNe, Int.reduceLT, Int.reduceLE, Int.reduceGT, Int.reduceGE, Int.reduceNeg, Int.reduceAdd, Int.reduceSub, reduceCtorEq, List.reduceReplicate, ← List.map_take, ← List.map_drop]
  refine callI_pure c3 rfl rfl ?_
  simp -dsimp -implicitDefEqProofs only [qq, Nat.reduceBEq, reduceIte, Nat.reduceAdd, Nat.reduceSub, Nat.reduceLeDiff, Nat.reduceLT, Nat.reduceMul, Nat.reduceEqDiff, Int.reduceEq, Int.reduceBEq, Int.reduceBNe, Int.reduceLT, Int.reduceLE, Int.reduceGT, Int.reduceGE, Int.reduceNeg, Int.reduceAdd, Int.reduceSub, reduceCtorEq, List.reduceReplicate, ← List.map_take, ← List.map_drop]
  refine callI_pure c4 rfl rfl ?_
  simp -dsimp -implicitDefEqProofs only [qq, Nat.reduceBEq, reduceIte, Nat.reduceAdd, Nat.reduceSub, Nat.reduceLeDiff, Nat.reduceLT, Nat.reduceMul, Nat.reduceEqDiff, Int.reduceEq, Int.reduceBEq, Int.reduceBNe, Int.reduceLT, Int.reduceLE, Int.reduceGT, Int.reduceGE, Int.reduceNeg, Int.reduceAdd, Int.reduceSub, reduceCtorEq, List.reduceReplicate, ← List.map_take, ← List.map_drop]
  refine callI_pure c5 rfl rfl ?_
  simp -dsimp -implicitDefEqProofs only [qq, Nat.reduceBEq, reduceIte, Nat.reduceAdd, Nat.reduceSub, Nat.reduceLeDiff, Nat.reduceLT, Nat.reduceMul, Nat.reduceEqDiff, Int.reduceEq, Int.reduceBEq, Int.reduceBNe, Int.reduceLT, Int.reduceLE, Int.reduceGT, Int.reduceGE, Int.reduceNeg, Int.reduceAdd, Int.reduceSub, reduceCtorEq, List.reduceReplicate, ← List.map_take, ← List.map_drop]
  refine callI_pure c6 rfl rfl ?_
  simp -dsimp -implicitDefEqProofs only [qq, Nat.reduceBEq, reduceIte, Nat.reduceAdd, Nat.reduceSub, Nat.reduceLeDiff, Nat.reduceLT, Nat.reduceMul, Nat.reduceEqDiff, Int.reduceEq, Int.reduceBEq, Int.reduceBNe, Int.reduceLT, Int.reduceLE, Int.reduceGT, Int.reduceGE, Int.reduceNeg, Int.reduceAdd, Int.reduceSub, reduceCtorEq, List.reduceReplicate, ← List.map_take, ← List.map_drop]
  refine callI_pure c7 rfl rfl ?_
  simp -dsimp -implicitDefEqProofs only [qq, Nat.reduceBEq, reduceIte, Nat.reduceAdd, Nat.reduceSub, Nat.reduceLeDiff, Nat.reduceLT, Nat.reduceMul, Nat.reduceEqDiff, Int.reduceEq, Int.reduceBEq, Int.reduceBNe, Int.reduceLT, Int.reduceLE, Int.reduceGT, Int.reduceGE, Int.reduceNeg, Int.reduceAdd, Int.reduceSub, reduceCtorEq, List.reduceReplicate, ← List.map_take, ← List.map_drop]
  refine callI_pure h0 rfl rfl ?_
  simp -dsimp -implicitDefEqProofs only [qq, Nat.reduceBEq, reduceIte, Nat.reduceAdd, Nat.reduceSub, Nat.reduceLeDiff, Nat.reduceLT, Nat.reduceMul, Nat.reduceEqDiff, Int.reduceEq, Int.reduceBEq, Int.reduceBNe, Int.reduceLT, Int.reduceLE, Int.reduceGT, Int.reduceGE, Int.reduceNeg, Int.reduceAdd, Int.reduceSub, reduceCtorEq, List.reduceReplicate, ← List.map_take, ← List.map_drop]
  refine callI_pure c8 rfl rfl ?_
  simp -dsimp -implicitDefEqProofs only [qq, Nat.reduceBEq, reduceIte, Nat.reduceAdd, Nat.reduceSub, Nat.reduceLeDiff, Nat.reduceLT, Nat.reduceMul, Nat.reduceEqDiff, Int.reduceEq, Int.reduceBEq, Int.reduceBNe, Int.reduceLT, Int.reduceLE, Int.reduceGT, Int.reduceGE, Int.reduceNeg, Int.reduceAdd, Int.reduceSub, reduceCtorEq, List.reduceReplicate, ← List.map_take, ← List.map_drop]
  refine callI_lend2 d1 (.keep _ rfl) (frz_lit rfl rfl (by decide)) rfl ?_
  simp -dsimp -implicitDefEqProofs only [qq, Nat.reduceBEq, reduceIte, Nat.reduceAdd, Nat.reduceSub, Nat.reduceLeDiff, Nat.reduceLT, Nat.reduceMul, Nat.reduceEqDiff, Int.reduceEq, Int.reduceBEq, Int.reduceBNe, Int.reduceLT, Int.reduceLE, Int.reduceGT, Int.reduceGE, Int.reduceNeg, Int.reduceAdd, Int.reduceSub, reduceCtorEq, List.reduceReplicate, ← List.map_take, ← List.map_drop]
  refine callI_lend2 d2 (.keep _ rfl) (frz_col (us := [.rsl 5 1 0 2 2 true, .rsl 6 1 0 1 1 true]) (us' := [.fsl ([0, 2].map intC), .fsl ([1].map intC)]) rfl rfl rfl (by simp [V.bel]) fun i u u' e1 e2 => ?_) rfl ?_
  · match i with
    | 0 => simp at e1 e2; subst e1 e2; exact frz_lit rfl rfl (by decide)
    | 1 => simp at e1 e2; subst e1 e2; exact frz_lit rfl rfl (by decide)
    | i + 2 => simp at e1
  simp -dsimp -implicitDefEqProofs only [qq, Nat.reduceBEq, reduceIte, Nat.reduceAdd, Nat.reduceSub, Nat.reduceLeDiff, Nat.reduceLT, Nat.reduceMul, Nat.reduceEqDiff, Int.reduceEq, Int.reduceBEq, Int.reduceBNe, Int.reduceLT, Int.reduceLE, Int.reduceGT, Int.reduceGE, Int.reduceNeg, Int.reduceAdd, Int.reduceSub, reduceCtorEq, List.reduceReplicate, ← List.map_take, ← List.map_drop]
  refine callI_lend2 d3 (.keep _ rfl) (frz_lit rfl rfl (by decide)) rfl ?_
  simp -dsimp -implicitDefEqProofs only [qq, Nat.reduceBEq, reduceIte, Nat.reduceAdd, Nat.reduceSub, Nat.reduceLeDiff, Nat.reduceLT, Nat.reduceMul, Nat.reduceEqDiff, Int.reduceEq, Int.reduceBEq, Int.reduceBNe, Int.reduceLT, Int.reduceLE, Int.reduceGT, Int.reduceGE, Int.reduceNeg, Int.reduceAdd, Int.reduceSub, reduceCtorEq, List.reduceReplicate, ← List.map_take, ← List.map_drop]
  exact Ends.plain rfl rfl rfl
end Go.Sh.C3
end
section
namespace Go.Sh.C3
open Go.Sh
set_option maxRecDepth 10000
set_option linter.unusedVariables false
set_option linter.unusedSimpArgs false
variable {P : Program}
def ic_potbankref03_CheckBungs (f0 f1 f2 : Nat) : IC := .seq (.reg [⟨some 2, none, .box (.t 0)⟩, ⟨some 4, none, .mov (.c (.i .i64 (0)))⟩] [1, 2]) (.seq (.reg [⟨some 6, none, .ld (some 5) (.t 2)⟩, ⟨some 7, none, .calv (.c (.fn (.func f0) [] [])) [.t 6]⟩, ⟨some 5, none, .mov (.t 7)⟩] [1, 2, 5]) (.seq (.seq (.reg [⟨some 8, none, .mov (.t 5)⟩, ⟨some 9, none, .bin .neq (.t 8) (.c (.i .i64 (0)))⟩] [1, 2, 5, 9]) (.cond (.t 9) (.seq (.reg [⟨some 10, none, .mov (.t 5)⟩, ⟨some 4, none, .mov (.t 10)⟩] [4]) (.ret)) (.skip))) (.seq (.seq (.reg [⟨some 11, none, .mov (.t 1)⟩, ⟨some 12, none, .fad 2 (.t 2)⟩, ⟨some 13, none, .ld none (.t 12)⟩, ⟨some 14, none, .len false (.t 13)⟩, ⟨some 15, none, .calv (.c (.fn (.func f1) [] [])) [.t 11, .t 14]⟩, ⟨some 16, none, .un .not (.t 15)⟩] [1, 2, 16]) (.cond (.t 16) (.seq (.reg [⟨some 4, none, .mov (.c (.i .i64 (37)))⟩] [4]) (.ret)) (.skip))) (.seq (.seq (.reg [⟨some 17, none, .ld (some 5) (.t 2)⟩, ⟨some 18, none, .mov (.t 1)⟩, ⟨some 19, none, .calv (.c (.fn (.func f2) [] [])) [.t 17, .t 18]⟩, ⟨some 20, none, .un .not (.t 19)⟩] [20]) (.cond (.t 20) (.seq (.reg [⟨some 4, none, .mov (.c (.i .i64 (3)))⟩] [4]) (.ret)) (.skip))) (.seq (.reg [⟨some 4, none, .mov (.c (.i .i64 (0)))⟩] [4]) (.ret))))))
abbrev Low_potbankref03_CheckBungs (P : Program) (f f0 f1 f2 : Nat) : Prop := lowF P f = some (21, [.tmp 4], (ic_potbankref03_CheckBungs f0 f1 f2).erase)
def ic_bung_CheckBungs (f0 f1 f2 : Nat) : IC := .seq (.reg [⟨some 4, none, .box (.t 0)⟩, ⟨some 6, none, .box (.t 2)⟩, ⟨some 8, none, .mov (.c (.i .i64 (0)))⟩] [1, 3, 4, 6]) (.seq (.seq (.reg [⟨some 13, none, .ld (some 2) (.t 4)⟩, ⟨some 14, none, .mov (.t 1)⟩, ⟨some 15, none, .ld (some 2) (.t 6)⟩, ⟨some 16, none, .calv (.c (.fn (.func f0) [] [])) [.t 13, .t 14, .t 15]⟩, ⟨some 9, none, .mov (.t 16)⟩] [1, 3, 4, 6, 9]) (.seq (.reg [⟨some 17, none, .mov (.t 9)⟩, ⟨some 18, none, .bin .neq (.t 17) (.c (.i .i64 (0)))⟩] [1, 3, 4, 6, 9, 18]) (.cond (.t 18) (.seq (.reg [⟨some 19, none, .mov (.t 9)⟩, ⟨some 8, none, .mov (.t 19)⟩] [8]) (.ret)) (.skip)))) (.seq (.seq (.reg [⟨some 20, none, .mov (.t 1)⟩, ⟨some 21, none, .len false (.t 20)⟩, ⟨some 22, none, .mov (.t 3)⟩, ⟨some 23, none, .calv (.c (.fn (.func f1) [] [])) [.t 21, .t 22]⟩, ⟨some 24, none, .un .not (.t 23)⟩] [1, 3, 4, 6, 24]) (.cond (.t 24) (.seq (.reg [⟨some 8, none, .mov (.c (.i .i64 (37)))⟩] [8]) (.ret)) (.skip))) (.seq (.reg [⟨some 25, none, .ld (some 2) (.t 4)⟩, ⟨some 26, none, .mov (.t 1)⟩, ⟨some 27, none, .ld (some 2) (.t 6)⟩, ⟨some 28, none, .bld [.i .i64 (0), .i .i64 (0), .nsl, .i .i64 (0), .i .i64 (0), .nmp] [(0, 2, (.t 25)), (2, 1, (.t 26)), (3, 2, (.t 27))]⟩, ⟨some 10, none, .alloc [.i .i64 (0), .i .i64 (0), .nsl, .i .i64 (0), .i .i64 (0), .nmp]⟩, ⟨none, none, .st 6 (.t 10) (.t 28)⟩] [3, 10]) (.seq (.seq (.reg [⟨some 29, none, .mov (.t 3)⟩, ⟨some 30, none, .len false (.t 29)⟩, ⟨some 31, none, .mov (.c (.i .i64 (0)))⟩] [10, 29, 30, 31]) (.block 0 (.loop (.seq (.reg [⟨some 32, none, .bin .lss (.t 31) (.t 30)⟩] [10, 29, 30, 31, 32]) (.seq (.cond (.t 32) (.skip) (.exit 0)) (.seq (.block 1 (.seq (.reg [⟨some 33, none, .ixs 1 (.t 29) (.t 31)⟩, ⟨some 34, none, .ld none (.t 33)⟩, ⟨some 12, none, .mov (.t 34)⟩] [10, 12, 29, 30, 31]) (.seq (.reg [⟨some 35, none, .ld (some 6) (.t 10)⟩, ⟨some 36, none, .mov (.t 12)⟩, ⟨some 37, none, .calv (.c (.fn (.func f2) [] [])) [.t 35, .t 36]⟩, ⟨some 38, none, .un .not (.t 37)⟩] [10, 29, 30, 31, 38]) (.cond (.t 38) (.seq (.reg [⟨some 8, none, .mov (.c (.i .i64 (3)))⟩] [8]) (.ret)) (.skip))))) (.reg [⟨some 39, none, .bin .add (.t 31) (.c (.i .i64 (1)))⟩, ⟨some 31, none, .mov (.t 39)⟩] [10, 29, 30, 31]))))))) (.seq (.reg [⟨some 8, none, .mov (.c (.i .i64 (0)))⟩] [8]) (.ret))))))
abbrev Low_bung_CheckBungs (P : Program) (f f0 f1 f2 : Nat) : Prop := lowF P f = some (40, [.tmp 8], (ic_bung_CheckBungs f0 f1 f2).erase)
def ic_potbanklaw03_BungParted (f0 f1 f2 : Nat) : IC := .seq (.reg [⟨some 2, none, .box (.t 0)⟩, ⟨some 4, none, .mov (.c (.b false))⟩] [1, 2]) (.seq (.reg [⟨some 6, none, .calv (.c (.fn (.func f0) [] [])) []⟩, ⟨some 5, none, .mov (.t 6)⟩] [1, 2, 5]) (.seq (.drg [(0, ⟨some 7, none, .mov (.t 5)⟩), (0, ⟨some 8, none, .mov (.t 7)⟩), (0, ⟨some 9, some (8, true), .fad 0 (.t 2)⟩), (0, ⟨some 10, some (8, true), .ld (some 2) (.t 9)⟩), (0, ⟨some 11, some (8, true), .fad 2 (.t 2)⟩), (0, ⟨some 12, some (8, true), .ld none (.t 11)⟩), (0, ⟨some 13, some (8, true), .fad 3 (.t 2)⟩), (0, ⟨some 14, some (8, true), .ld (some 2) (.t 13)⟩), (0, ⟨some 15, some (8, true), .mov (.t 1)⟩), (0, ⟨some 16, some (8, true), .calv (.c (.fn (.func f1) [] [])) [.t 10, .t 12, .t 14, .t 15]⟩), (0, ⟨some 17, some (8, true), .ld (some 5) (.t 2)⟩), (0, ⟨some 18, some (8, true), .mov (.t 1)⟩), (0, ⟨some 19, some (8, true), .calv (.c (.fn (.func f2) [] [])) [.t 17, .t 18]⟩), (0, ⟨some 20, some (8, true), .bin .eql (.t 16) (.t 19)⟩), (0, ⟨some 21, none, .pick (.t 8) (.t 20) (.c (.b false))⟩), (0, ⟨some 4, none, .mov (.t 21)⟩)] 12 [4]) (.ret)))
abbrev Low_potbanklaw03_BungParted (P : Program) (f f0 f1 f2 : Nat) : Prop := lowF P f = some (22, [.tmp 4], (ic_potbanklaw03_BungParted f0 f1 f2).erase)

theorem flatten_ge : ∀ {bs : List (List Int)}, (∀ b ∈ bs, b ≠ []) → bs.length ≤ bs.flatten.length
  | [], _ => by simp
  | b :: bs, h => by
    have h1 := flatten_ge (bs := bs) fun x hx => h x (List.mem_cons_of_mem _ hx)
    have h2 : 0 < b.length := List.length_pos_iff.2 (h b (by simp))
    rw [List.flatten_cons, List.length_append, List.length_cons]; omega
theorem parts_ok {n : Nat} {bs : List (List Int)} (h : partsB n bs = true) : (∀ b ∈ bs, okIx n b ∧ b.Nodup ∧ b ≠ []) ∧ bs.length ≤ n := by
  unfold partsB at h
  have h := (of_decide_eq_true h).1
  refine ⟨fun b hb => ⟨h.ix b hb, (List.pairwise_flatten.1 h.nd).1 b hb, h.ne b hb⟩, ?_⟩
  have h2 := h.len
  have := flatten_ge h.ne
  omega
noncomputable def cbE (w : Rg) (l : List Sag) (s : Spt) (bs : List (List Int)) : Int := if askedE w l s ≠ 0 then askedE w l s else if partsB l.length bs then (if bs.all (doS w l s) then 0 else 3) else 37
def C_rCheckBungs (P : Program) (f : Nat) : Prop := ∀ (w : Rg) (l : List Sag) (s : Spt) (bs : List (List Int)), bs.length ≤ 1000000000000000 → (∀ b ∈ bs, b.length ≤ 1000000000000000) → Snd P f [.agg (jobC w l s), .fsl (bs.map rowC)] [] (.i .i64 (cbE w l s bs)) []
theorem ok_rCheckBungs (hm : P.follows .mixedOrders = true) {f f0 f1 f2 : Nat} (low : Low_potbankref03_CheckBungs P f f0 f1 f2) (h0 : C_checked P f0) (h1 : C_rparts P f1) (h2 : C_allDo P f2) : C_rCheckBungs P f := by
  intro w l s bs hl hbl
  refine snd_ic hm low (by simp) ?_
  unfold ic_potbankref03_CheckBungs
  simp -dsimp -implicitDefEqProofs only [qq, Nat.reduceBEq, reduceIte, Nat.reduceAdd, Nat.reduceSub, Nat.reduceLeDiff, Nat.reduceLT, Nat.reduceMul, Nat.reduceEqDiff, Int.reduceEq, Int.reduceBEq, Int.reduceBNe, Int.reduceLT, Int.reduceLE, Int.reduceGT, Int.reduceGE, Int.reduceNeg, Int.reduceAdd, Int.reduceSub, reduceCtorEq, List.reduceReplicate, ← List.map_take, ← List.map_drop]
  refine callI_pure (h0 w l s) rfl rfl ?_
  cases he : (askedE w l s != 0)
  case true =>
    simp -dsimp -implicitDefEqProofs only [he, qq, Nat.reduceBEq, reduceIte, Nat.reduceAdd, Nat.reduceSub, Nat.reduceLeDiff, Nat.reduceLT, Nat.reduceMul, Nat.reduceEqDiff, Int.reduceEq, Int.reduceBEq, Int.reduceBNe, Int.reduceLT, Int.reduceLE, Int.reduceGT, Int.reduceGE, Int.reduceNeg, Int.reduceAdd, Int.reduceSub, reduceCtorEq, List.reduceReplicate, ← List.map_take, ← List.map_drop]
    exact Ends.plain rfl rfl (by have : askedE w l s ≠ 0 := by simpa using he
                                 simp [resV, cbE, this])
  have he' : askedE w l s = 0 := by simpa using he
  obtain ⟨hw, hv, hsp⟩ := asked_ok he'
  have hlen := list_len hv
  simp -dsimp -implicitDefEqProofs only [he, qq, Nat.reduceBEq, reduceIte, Nat.reduceAdd, Nat.reduceSub, Nat.reduceLeDiff, Nat.reduceLT, Nat.reduceMul, Nat.reduceEqDiff, Int.reduceEq, Int.reduceBEq, Int.reduceBNe, Int.reduceLT, Int.reduceLE, Int.reduceGT, Int.reduceGE, Int.reduceNeg, Int.reduceAdd, Int.reduceSub, reduceCtorEq, List.reduceReplicate, ← List.map_take, ← List.map_drop]
  refine callI_pure (h1 l.length bs (by omega) hl hbl) rfl rfl ?_
  cases hp : partsB l.length bs
  · simp -dsimp -implicitDefEqProofs only [qq, Nat.reduceBEq, reduceIte, Nat.reduceAdd, Nat.reduceSub, Nat.reduceLeDiff, Nat.reduceLT, Nat.reduceMul, Nat.reduceEqDiff, Int.reduceEq, Int.reduceBEq, Int.reduceBNe, Int.reduceLT, Int.reduceLE, Int.reduceGT, Int.reduceGE, Int.reduceNeg, Int.reduceAdd, Int.reduceSub, reduceCtorEq, List.reduceReplicate, ← List.map_take, ← List.map_drop]
    exact Ends.plain rfl rfl (by simp [resV, cbE, he', hp])
  obtain ⟨hb, hbn⟩ := parts_ok hp
  simp -dsimp -implicitDefEqProofs only [qq, Nat.reduceBEq, reduceIte, Nat.reduceAdd, Nat.reduceSub, Nat.reduceLeDiff, Nat.reduceLT, Nat.reduceMul, Nat.reduceEqDiff, Int.reduceEq, Int.reduceBEq, Int.reduceBNe, Int.reduceLT, Int.reduceLE, Int.reduceGT, Int.reduceGE, Int.reduceNeg, Int.reduceAdd, Int.reduceSub, reduceCtorEq, List.reduceReplicate, ← List.map_take, ← List.map_drop]
  refine callI_pure (h2 w l s bs hw hv hb (by omega)) rfl rfl ?_
  cases hd : bs.all (doS w l s)
  · simp -dsimp -implicitDefEqProofs only [qq, Nat.reduceBEq, reduceIte, Nat.reduceAdd, Nat.reduceSub, Nat.reduceLeDiff, Nat.reduceLT, Nat.reduceMul, Nat.reduceEqDiff, Int.reduceEq, Int.reduceBEq, Int.reduceBNe, Int.reduceLT, Int.reduceLE, Int.reduceGT, Int.reduceGE, Int.reduceNeg, Int.reduceAdd, Int.reduceSub, reduceCtorEq, List.reduceReplicate, ← List.map_take, ← List.map_drop]
    exact Ends.plain rfl rfl (by simp [resV, cbE, he', hp, hd])
  · simp -dsimp -implicitDefEqProofs only [qq, Nat.reduceBEq, reduceIte, Nat.reduceAdd, Nat.reduceSub, Nat.reduceLeDiff, Nat.reduceLT, Nat.reduceMul, Nat.reduceEqDiff, Int.reduceEq, Int.reduceBEq, Int.reduceBNe, Int.reduceLT, Int.reduceLE, Int.reduceGT, Int.reduceGE, Int.reduceNeg, Int.reduceAdd, Int.reduceSub, reduceCtorEq, List.reduceReplicate, ← List.map_take, ← List.map_drop]
    exact Ends.plain rfl rfl (by simp [resV, cbE, he', hp, hd])

/-- do, where nothing has been tried. -/
def C_do0 (P : Program) (f : Nat) : Prop := ∀ (w : Rg) (l : List Sag) (s : Spt) (some : List Int), rgB w 0 200 = true → listB l = true → okIx l.length some → some.Nodup → some ≠ [] →
  Snd P f [.agg (packC w l s .nmp), .fsl (some.map intC)] [] (.b (doS w l s some)) []
theorem ok_do0 (hm : P.follows .mixedOrders = true) {f f0 f1 f2 : Nat} (low : Low_bung_packer_do P f f0 f1 f2) (h0 : C_rule P f0) (h1 : C_stacked P f1) (h2 : C_fits P f2) : C_do0 P f := by
  intro w l s some hw hv hs hn hne
  have hlen := list_len hv
  have h3 := nodup_bound l.length some hn hs
  have hpk := listB_pick hv (ruleS_ok hs) (ruleS_nodup hn)
  unfold packC
  refine snd_ic hm low (by simp) ?_
  unfold ic_bung_packer_do
  simp -dsimp -implicitDefEqProofs only [qq, Nat.reduceBEq, reduceIte, Nat.reduceAdd, Nat.reduceSub, Nat.reduceLeDiff, Nat.reduceLT, Nat.reduceMul, Nat.reduceEqDiff, Int.reduceEq, Int.reduceBEq, Int.reduceBNe, Int.reduceLT, Int.reduceLE, Int.reduceGT, Int.reduceGE, Int.reduceNeg, Int.reduceAdd, Int.reduceSub, reduceCtorEq, List.reduceReplicate, ← List.map_take, ← List.map_drop]
  refine callI_pure (h0 l some hv (by omega) hs) rfl rfl ?_
  simp -dsimp -implicitDefEqProofs only [qq, Nat.reduceBEq, reduceIte, Nat.reduceAdd, Nat.reduceSub, Nat.reduceLeDiff, Nat.reduceLT, Nat.reduceMul, Nat.reduceEqDiff, Int.reduceEq, Int.reduceBEq, Int.reduceBNe, Int.reduceLT, Int.reduceLE, Int.reduceGT, Int.reduceGE, Int.reduceNeg, Int.reduceAdd, Int.reduceSub, reduceCtorEq, List.reduceReplicate, ← List.map_take, ← List.map_drop]
  refine callI_pure (h1 l (ruleS l some) (by rw [ruleS_length]; omega) (ruleS_ok hs)) rfl rfl ?_
  simp -dsimp -implicitDefEqProofs only [qq, Nat.reduceBEq, reduceIte, Nat.reduceAdd, Nat.reduceSub, Nat.reduceLeDiff, Nat.reduceLT, Nat.reduceMul, Nat.reduceEqDiff, Int.reduceEq, Int.reduceBEq, Int.reduceBNe, Int.reduceLT, Int.reduceLE, Int.reduceGT, Int.reduceGE, Int.reduceNeg, Int.reduceAdd, Int.reduceSub, reduceCtorEq, List.reduceReplicate, ← List.map_take, ← List.map_drop]
  have hpl : 0 < (pickS l (ruleS l some)).length := by rw [pickS_len (ruleS_ok hs), ruleS_length]; exact List.length_pos_iff.2 hne
  refine callI_pure (h2 w (pickS l (ruleS l some)) s (by simp [bungB, hw, hpk, hpl])) rfl rfl ?_
  simp -dsimp -implicitDefEqProofs only [qq, Nat.reduceBEq, reduceIte, Nat.reduceAdd, Nat.reduceSub, Nat.reduceLeDiff, Nat.reduceLT, Nat.reduceMul, Nat.reduceEqDiff, Int.reduceEq, Int.reduceBEq, Int.reduceBNe, Int.reduceLT, Int.reduceLE, Int.reduceGT, Int.reduceGE, Int.reduceNeg, Int.reduceAdd, Int.reduceSub, reduceCtorEq, List.reduceReplicate, ← List.map_take, ← List.map_drop]
  exact Ends.plain rfl rfl rfl
def C_CheckBungs (P : Program) (f : Nat) : Prop := ∀ (w : Rg) (l : List Sag) (s : Spt) (bs : List (List Int)), bs.length ≤ 1000000000000000 → (∀ b ∈ bs, b.length ≤ 1000000000000000) → Snd P f [.agg w.c, .fsl (l.map Sag.c), .agg s.c, .fsl (bs.map rowC)] [] (.i .i64 (cbE w l s bs)) []
theorem ok_CheckBungs (hm : P.follows .mixedOrders = true) {f f0 f1 f2 : Nat} (low : Low_bung_CheckBungs P f f0 f1 f2) (h0 : C_asked P f0) (h1 : C_areBungs P f1) (h2 : C_do0 P f2) : C_CheckBungs P f := by
  intro w l s bs hl hbl
  refine snd_ic hm low (by simp) ?_
  unfold ic_bung_CheckBungs
  simp -dsimp -implicitDefEqProofs only [qq, Nat.reduceBEq, reduceIte, Nat.reduceAdd, Nat.reduceSub, Nat.reduceLeDiff, Nat.reduceLT, Nat.reduceMul, Nat.reduceEqDiff, Int.reduceEq, Int.reduceBEq, Int.reduceBNe, Int.reduceLT, Int.reduceLE, Int.reduceGT, Int.reduceGE, Int.reduceNeg, Int.reduceAdd, Int.reduceSub, reduceCtorEq, List.reduceReplicate, ← List.map_take, ← List.map_drop]
  refine callI_pure (h0 w l s) rfl rfl ?_
  cases he : (askedE w l s != 0)
  case true =>
    simp -dsimp -implicitDefEqProofs only [he, qq, Nat.reduceBEq, reduceIte, Nat.reduceAdd, Nat.reduceSub, Nat.reduceLeDiff, Nat.reduceLT, Nat.reduceMul, Nat.reduceEqDiff, Int.reduceEq, Int.reduceBEq, Int.reduceBNe, Int.reduceLT, Int.reduceLE, Int.reduceGT, Int.reduceGE, Int.reduceNeg, Int.reduceAdd, Int.reduceSub, reduceCtorEq, List.reduceReplicate, ← List.map_take, ← List.map_drop]
    exact Ends.plain rfl rfl (by have : askedE w l s ≠ 0 := by simpa using he
                                 simp [resV, cbE, this])
  have he' : askedE w l s = 0 := by simpa using he
  obtain ⟨hw, hv, hsp⟩ := asked_ok he'
  have hlen := list_len hv
  simp -dsimp -implicitDefEqProofs only [he, qq, Nat.reduceBEq, reduceIte, Nat.reduceAdd, Nat.reduceSub, Nat.reduceLeDiff, Nat.reduceLT, Nat.reduceMul, Nat.reduceEqDiff, Int.reduceEq, Int.reduceBEq, Int.reduceBNe, Int.reduceLT, Int.reduceLE, Int.reduceGT, Int.reduceGE, Int.reduceNeg, Int.reduceAdd, Int.reduceSub, reduceCtorEq, List.reduceReplicate, ← List.map_take, ← List.map_drop]
  refine callI_pure (h1 l.length bs (by omega) hl hbl) rfl rfl ?_
  cases hp : partsB l.length bs
  · simp -dsimp -implicitDefEqProofs only [qq, Nat.reduceBEq, reduceIte, Nat.reduceAdd, Nat.reduceSub, Nat.reduceLeDiff, Nat.reduceLT, Nat.reduceMul, Nat.reduceEqDiff, Int.reduceEq, Int.reduceBEq, Int.reduceBNe, Int.reduceLT, Int.reduceLE, Int.reduceGT, Int.reduceGE, Int.reduceNeg, Int.reduceAdd, Int.reduceSub, reduceCtorEq, List.reduceReplicate, ← List.map_take, ← List.map_drop]
    exact Ends.plain rfl rfl (by simp [resV, cbE, he', hp])
  obtain ⟨hb, hbn⟩ := parts_ok hp
  simp -dsimp -implicitDefEqProofs only [qq, Nat.reduceBEq, reduceIte, Nat.reduceAdd, Nat.reduceSub, Nat.reduceLeDiff, Nat.reduceLT, Nat.reduceMul, Nat.reduceEqDiff, Int.reduceEq, Int.reduceBEq, Int.reduceBNe, Int.reduceLT, Int.reduceLE, Int.reduceGT, Int.reduceGE, Int.reduceNeg, Int.reduceAdd, Int.reduceSub, reduceCtorEq, List.reduceReplicate, ← List.map_take, ← List.map_drop]
  refine loopI_st (fun k : Nat => bs.length - k) (fun k E H => k ≤ bs.length ∧ E = [(10, .rpt 2 6 0 0), (29, .fsl (bs.map rowC)), (30, .i .i64 bs.length), (31, .i .i64 k)] ∧ H[2]? = some (.row 6 [packC w l s .nmp]) ∧ (bs.take k).all (doS w l s) = true) 0 ⟨by omega, rfl, rfl, rfl⟩ ?_
  rintro k _ H ⟨hk, rfl, g2, hd⟩
  rcases Nat.lt_or_ge k bs.length with hkl | hkl
  · have hc : decide ((k : Int) < (bs.length : Int)) = true := by simpa using hkl
    obtain ⟨x, hx, hxm, htk, _⟩ := next_of hkl
    have hwk : IntKind.i64.wrap ((k : Int) + 1) = ((k + 1 : Nat) : Int) := wrap_succ (by omega)
    obtain ⟨q1, q2, q3⟩ := hb x hxm
    simp -dsimp -implicitDefEqProofs only [hc, hx, rowC, g2, packC, qq, Nat.reduceBEq, reduceIte, Nat.reduceAdd, Nat.reduceSub, Nat.reduceLeDiff, Nat.reduceLT, Nat.reduceMul, Nat.reduceEqDiff, Int.reduceEq, Int.reduceBEq, Int.reduceBNe, Int.reduceLT, Int.reduceLE, Int.reduceGT, Int.reduceGE, Int.reduceNeg, Int.reduceAdd, Int.reduceSub, reduceCtorEq, List.reduceReplicate, ← List.map_take, ← List.map_drop]
    refine callI_pure (h2 w l s x hw hv q1 q2 q3) rfl rfl ?_
    cases hdx : doS w l s x
    · simp -dsimp -implicitDefEqProofs only [qq, Nat.reduceBEq, reduceIte, Nat.reduceAdd, Nat.reduceSub, Nat.reduceLeDiff, Nat.reduceLT, Nat.reduceMul, Nat.reduceEqDiff, Int.reduceEq, Int.reduceBEq, Int.reduceBNe, Int.reduceLT, Int.reduceLE, Int.reduceGT, Int.reduceGE, Int.reduceNeg, Int.reduceAdd, Int.reduceSub, reduceCtorEq, List.reduceReplicate, ← List.map_take, ← List.map_drop]
      refine Ends.plain rfl rfl ?_
      have : bs.all (doS w l s) = false := by simp only [List.all_eq_false]; exact ⟨x, hxm, by rw [hdx]; simp⟩
      simp [resV, cbE, he', hp, this]
    · simp -dsimp -implicitDefEqProofs only [hwk, qq, Nat.reduceBEq, reduceIte, Nat.reduceAdd, Nat.reduceSub, Nat.reduceLeDiff, Nat.reduceLT, Nat.reduceMul, Nat.reduceEqDiff, Int.reduceEq, Int.reduceBEq, Int.reduceBNe, Int.reduceLT, Int.reduceLE, Int.reduceGT, Int.reduceGE, Int.reduceNeg, Int.reduceAdd, Int.reduceSub, reduceCtorEq, List.reduceReplicate, ← List.map_take, ← List.map_drop]
      exact ⟨k + 1, by omega, by omega, rfl, g2, by rw [htk, List.all_append, hd]; simp [hdx]⟩
  · have hc : decide ((k : Int) < (bs.length : Int)) = false := by simp; omega
    rw [List.take_of_length_le hkl] at hd
    simp -dsimp -implicitDefEqProofs only [hc, qq, Nat.reduceBEq, reduceIte, Nat.reduceAdd, Nat.reduceSub, Nat.reduceLeDiff, Nat.reduceLT, Nat.reduceMul, Nat.reduceEqDiff, Int.reduceEq, Int.reduceBEq, Int.reduceBNe, Int.reduceLT, Int.reduceLE, Int.reduceGT, Int.reduceGE, Int.reduceNeg, Int.reduceAdd, Int.reduceSub, reduceCtorEq, List.reduceReplicate, ← List.map_take, ← List.map_drop]
    exact Ends.plain rfl rfl (by simp [resV, cbE, he', hp, hd])

def L_BungParted (P : Program) (f : Nat) : Prop := ∀ (w : Rg) (l : List Sag) (s : Spt) (bs : List (List Int)), bs.length ≤ 1000000000000000 → (∀ b ∈ bs, b.length ≤ 1000000000000000) → Snd P f [.agg (jobC w l s), .fsl (bs.map rowC)] [] (.b true) []
theorem ok_BungParted (hm : P.follows .mixedOrders = true) {f f0 f1 f2 : Nat} (low : Low_potbanklaw03_BungParted P f f0 f1 f2) (h0 : C_sane P f0) (h1 : C_CheckBungs P f1) (h2 : C_rCheckBungs P f2) : L_BungParted P f := by
  intro w l s bs hl hbl
  refine snd_ic hm low (by simp) ?_
  unfold ic_potbanklaw03_BungParted
  simp -dsimp -implicitDefEqProofs only [qq, Nat.reduceBEq, reduceIte, Nat.reduceAdd, Nat.reduceSub, Nat.reduceLeDiff, Nat.reduceLT, Nat.reduceMul, Nat.reduceEqDiff, Int.reduceEq, Int.reduceBEq, Int.reduceBNe, Int.reduceLT, Int.reduceLE, Int.reduceGT, Int.reduceGE, Int.reduceNeg, Int.reduceAdd, Int.reduceSub, reduceCtorEq, List.reduceReplicate, ← List.map_take, ← List.map_drop]
  refine callI_pure h0 rfl rfl ?_
  simp -dsimp -implicitDefEqProofs only [qq, Nat.reduceBEq, reduceIte, Nat.reduceAdd, Nat.reduceSub, Nat.reduceLeDiff, Nat.reduceLT, Nat.reduceMul, Nat.reduceEqDiff, Int.reduceEq, Int.reduceBEq, Int.reduceBNe, Int.reduceLT, Int.reduceLE, Int.reduceGT, Int.reduceGE, Int.reduceNeg, Int.reduceAdd, Int.reduceSub, reduceCtorEq, List.reduceReplicate, ← List.map_take, ← List.map_drop]
  refine callI_pure (h1 w l s bs hl hbl) rfl rfl ?_
  simp -dsimp -implicitDefEqProofs only [qq, Nat.reduceBEq, reduceIte, Nat.reduceAdd, Nat.reduceSub, Nat.reduceLeDiff, Nat.reduceLT, Nat.reduceMul, Nat.reduceEqDiff, Int.reduceEq, Int.reduceBEq, Int.reduceBNe, Int.reduceLT, Int.reduceLE, Int.reduceGT, Int.reduceGE, Int.reduceNeg, Int.reduceAdd, Int.reduceSub, reduceCtorEq, List.reduceReplicate, ← List.map_take, ← List.map_drop]
  refine callI_pure (h2 w l s bs hl hbl) rfl rfl ?_
  simp -dsimp -implicitDefEqProofs only [qq, Nat.reduceBEq, reduceIte, Nat.reduceAdd, Nat.reduceSub, Nat.reduceLeDiff, Nat.reduceLT, Nat.reduceMul, Nat.reduceEqDiff, Int.reduceEq, Int.reduceBEq, Int.reduceBNe, Int.reduceLT, Int.reduceLE, Int.reduceGT, Int.reduceGE, Int.reduceNeg, Int.reduceAdd, Int.reduceSub, reduceCtorEq, List.reduceReplicate, ← List.map_take, ← List.map_drop]
  exact Ends.plain rfl rfl rfl
end Go.Sh.C3
end
section
namespace Go.Sh
open Go.Proofs Go.Sort Go.Shelf Go.RowKit Go.Lib
variable {P : Program} {ρ : Ren}
theorem sortsI_of (L : SlLaysF.n6 P ρ) (hf : isFn P (ρ.f 6)) : SortsI P (ρ.f 6) :=
  ⟨hf, fun p cap fv w => AnyF.slices_SortFunc_none { L with } p cap fv w, fun enc h1 cf hO g cb blk off cap d w eg hcmp hH hblk hsz hT => Any.slices_SortFunc_total L enc h1 cf hO g cb blk off cap d w eg hcmp hH hblk hsz hT⟩
end Go.Sh
end
section
namespace Go.Proofs
open Go.Shelf
def Try.sortInt_ren : Go.Shelf.Ren := ⟨fun | 6 => 133 | 15 => 148 | 14 => 147 | 28 => 158 | 29 => 159 | 20 => 150 | 21 => 151 | 22 => 152 | 23 => 153 | 24 => 154 | 25 => 155 | 26 => 156 | 27 => 157 | 46 => 160 | 47 => 161 | 48 => 162 | 49 => 163 | 50 => 164 | 57 => 165 | n => n, fun | 22 => 38 | 24 => 3 | 25 => 49 | 3 => 3 | 39 => 172 | 0 => 0 | 53 => 183 | 55 => 185 | 4 => 4 | 46 => 176 | 45 => 175 | 50 => 180 | 5 => 5 | 9 => 9 | 66 => 186 | 70 => 190 | 76 => 192 | 77 => 193 | n => n, fun | n => n⟩
theorem Try.sortInt : Go.Proofs.SlLaysF.n6 Try.prog Try.sortInt_ren := {
  mixed := by kernel_rfl
  f6 := ⟨Try.f133.name, by decide, Try.func133.trans (congrArg some (by kernel_rfl))⟩
  f14 := ⟨Try.f147.name, by decide, Try.func147.trans (congrArg some (by kernel_rfl))⟩
  f15 := Try.func148.trans (congrArg some (by kernel_rfl))
  f20 := ⟨Try.f150.name, by decide, Try.func150.trans (congrArg some (by kernel_rfl))⟩
  f21 := ⟨Try.f151.name, by decide, Try.func151.trans (congrArg some (by kernel_rfl))⟩
  f22 := ⟨Try.f152.name, by decide, Try.func152.trans (congrArg some (by kernel_rfl))⟩
  f23 := ⟨Try.f153.name, by decide, Try.func153.trans (congrArg some (by kernel_rfl))⟩
  f24 := ⟨Try.f154.name, by decide, Try.func154.trans (congrArg some (by kernel_rfl))⟩
  f25 := ⟨Try.f155.name, by decide, Try.func155.trans (congrArg some (by kernel_rfl))⟩
  f26 := ⟨Try.f156.name, by decide, Try.func156.trans (congrArg some (by kernel_rfl))⟩
  f27 := ⟨Try.f157.name, by decide, Try.func157.trans (congrArg some (by kernel_rfl))⟩
  f28 := Try.func158.trans (congrArg some (by kernel_rfl))
  f29 := Try.func159.trans (congrArg some (by kernel_rfl))
  f46 := ⟨Try.f160.name, by decide, Try.func160.trans (congrArg some (by kernel_rfl))⟩
  f47 := Try.func161.trans (congrArg some (by kernel_rfl))
  f48 := Try.func162.trans (congrArg some (by kernel_rfl))
  f49 := ⟨Try.f163.name, by decide, Try.func163.trans (congrArg some (by kernel_rfl))⟩
  f50 := ⟨Try.f164.name, by decide, Try.func164.trans (congrArg some (by kernel_rfl))⟩
  f57 := ⟨Try.f165.name, by decide, Try.func165.trans (congrArg some (by kernel_rfl))⟩
  t0 := Try.underlying0
  a0 := Try.isAgg0
  z0 := Try.sizeOf0
  v0 := Try.zeroValue0
  t3 := Try.underlying3
  a3 := Try.isAgg3
  z3 := Try.sizeOf3
  v3 := Try.zeroValue3
  t4 := Try.underlying4
  a4 := Try.isAgg4
  z4 := Try.sizeOf4
  v4 := Try.zeroValue4
  t5 := Try.underlying5
  a5 := Try.isAgg5
  z5 := Try.sizeOf5
  v5 := Try.zeroValue5
  t9 := Try.underlying9
  a9 := Try.isAgg9
  z9 := Try.sizeOf9
  v9 := Try.zeroValue9
  t22 := Try.underlying38
  a22 := Try.isAgg38
  z22 := Try.sizeOf38
  v22 := Try.zeroValue38
  a24 := Try.isAgg3
  z24 := Try.sizeOf3
  t25 := Try.underlying49
  a25 := Try.isAgg49
  z25 := Try.sizeOf49
  v25 := Try.zeroValue49
  t39 := Try.underlying172
  a39 := Try.isAgg172
  z39 := Try.sizeOf172
  v39 := Try.zeroValue172
  t45 := Try.underlying175
  a45 := Try.isAgg175
  z45 := Try.sizeOf175
  v45 := Try.zeroValue175
  t46 := Try.underlying176
  a46 := Try.isAgg176
  z46 := Try.sizeOf176
  v46 := Try.zeroValue176
  t50 := Try.underlying180
  a50 := Try.isAgg180
  z50 := Try.sizeOf180
  v50 := Try.zeroValue180
  t53 := Try.underlying183
  a53 := Try.isAgg183
  z53 := Try.sizeOf183
  v53 := Try.zeroValue183
  t55 := Try.underlying185
  a55 := Try.isAgg185
  z55 := Try.sizeOf185
  v55 := Try.zeroValue185
  t66 := Try.underlying186
  a66 := Try.isAgg186
  z66 := Try.sizeOf186
  v66 := Try.zeroValue186
  t70 := Try.underlying190
  a70 := Try.isAgg190
  z70 := Try.sizeOf190
  v70 := Try.zeroValue190
  t76 := Try.underlying192
  a76 := Try.isAgg192
  z76 := Try.sizeOf192
  v76 := Try.zeroValue192
  t77 := Try.underlying193
  a77 := Try.isAgg193
  z77 := Try.sizeOf193
  v77 := Try.zeroValue193 }
end Go.Proofs
end
section
namespace Go.Sh.C3
open Go.Sh Go.Proofs
set_option maxRecDepth 100000
set_option linter.unusedVariables false
theorem mixed : Try.prog.follows .mixedOrders = true := by kernel_rfl
theorem low_11 : lowF Try.prog 11 = some (22, [.tmp 4], (ic_potbanklaw03_BungParted 19 57 58).erase) := by kernel_rfl
theorem low_19 : lowF Try.prog 19 = some (146, [.tmp 0], (ic_potbanklaw03_sane 75 59 32 24 26 53 20 39 22 40).erase) := by kernel_rfl
theorem low_75 : lowF Try.prog 75 = some (14, [.tmp 0], (ic_potbanklaw03_example).erase) := by kernel_rfl
theorem c_C_example_75 : C_example Try.prog 75 := ok_example mixed low_75
theorem low_59 : lowF Try.prog 59 = some (53, [.cell 6 (some 3), .tmp 7], (ic_bung_Set 110 94 111 112).erase) := by kernel_rfl
theorem low_110 : lowF Try.prog 110 = some (5, [.tmp 2], (ic_bung_isWad 139).erase) := by kernel_rfl
theorem low_139 : lowF Try.prog 139 = some (24, [.tmp 6], (ic_bung_isRange).erase) := by kernel_rfl
theorem c_C_isRange_139 : C_isRange Try.prog 139 := ok_isRange mixed low_139
theorem c_C_isWad_110 : C_isWad Try.prog 110 := ok_isWad mixed low_110 c_C_isRange_139
theorem low_94 : lowF Try.prog 94 = some (29, [.tmp 2], (ic_bung_isList 100).erase) := by kernel_rfl
theorem low_100 : lowF Try.prog 100 = some (26, [.tmp 2], (ic_bung_isSaggar 111 139).erase) := by kernel_rfl
theorem low_111 : lowF Try.prog 111 = some (15, [.tmp 6], (ic_bung_within).erase) := by kernel_rfl
theorem c_C_within_111 : C_within Try.prog 111 := ok_within mixed low_111
theorem c_C_isSaggar_100 : C_isSaggar Try.prog 100 := ok_isSaggar mixed low_100 c_C_within_111 c_C_isRange_139
theorem c_C_isList_94 : C_isList Try.prog 94 := ok_isList mixed low_94 c_C_isSaggar_100
theorem low_112 : lowF Try.prog 112 = some (23, [.tmp 4], (ic_bung_stacked).erase) := by kernel_rfl
theorem c_C_stacked_112 : C_stacked Try.prog 112 := ok_stacked mixed low_112
theorem c_C_Set_59 : C_Set Try.prog 59 := ok_Set mixed low_59 c_C_isWad_110 c_C_isList_94 c_C_within_111 c_C_stacked_112
theorem low_32 : lowF Try.prog 32 = some (10, [.tmp 2, .tmp 3], (ic_bung_Loads 80 88).erase) := by kernel_rfl
theorem low_80 : lowF Try.prog 80 = some (17, [.tmp 2], (ic_bung_isBung 110 94).erase) := by kernel_rfl
theorem c_C_isBung_80 : C_isBung Try.prog 80 := ok_isBung mixed low_80 c_C_isWad_110 c_C_isList_94
theorem low_88 : lowF Try.prog 88 = some (18, [.tmp 2], (ic_bung_loads 130).erase) := by kernel_rfl
theorem low_130 : lowF Try.prog 130 = some (4, [.tmp 2], (ic_bung_down 145).erase) := by kernel_rfl
theorem low_145 : lowF Try.prog 145 = some (25, [], (ic_bung_down_1 129).erase) := by kernel_rfl
theorem low_129 : lowF Try.prog 129 = some (26, [.cell 2 (some 2)], (ic_bung_sum).erase) := by kernel_rfl
theorem c_C_sum_129 : C_sum Try.prog 129 := ok_sum mixed low_129
theorem c_C_down_130 : C_down Try.prog 130 := ok_down mixed low_130 low_145 c_C_sum_129
theorem c_C_loads_88 : C_loads Try.prog 88 := ok_loads mixed low_88 c_C_down_130
theorem c_C_Loads_32 : C_Loads Try.prog 32 := ok_Loads mixed low_32 c_C_isBung_80 c_C_loads_88
theorem low_24 : lowF Try.prog 24 = some (11, [.tmp 2, .tmp 3], (ic_bung_Stands 80 82 81).erase) := by kernel_rfl
theorem low_82 : lowF Try.prog 82 = some (26, [.tmp 2], (ic_bung_courses 88 128).erase) := by kernel_rfl
theorem low_128 : lowF Try.prog 128 = some (17, [.tmp 4], (ic_bung_answer).erase) := by kernel_rfl
theorem c_C_answer_128 : C_answer Try.prog 128 := ok_answer mixed low_128
theorem c_C_courses_82 : C_courses Try.prog 82 := ok_courses mixed low_82 c_C_loads_88 c_C_answer_128
theorem low_81 : lowF Try.prog 81 = some (9, [.tmp 2], (ic_bung_all 127).erase) := by kernel_rfl
theorem low_127 : lowF Try.prog 127 = some (9, [.tmp 4], (ic_slices_Contains_Sint_int 144).erase) := by kernel_rfl
theorem low_144 : lowF Try.prog 144 = some (19, [.tmp 4], (ic_slices_Index_Sint_int).erase) := by kernel_rfl
theorem c_C_Index_144 : C_Index Try.prog 144 := ok_Index mixed low_144
theorem c_C_Contains_127 : C_Contains Try.prog 127 := ok_Contains mixed low_127 c_C_Index_144
theorem c_C_all_81 : C_all Try.prog 81 := ok_all mixed low_81 c_C_Contains_127
theorem c_C_Stands_24 : C_Stands Try.prog 24 := ok_Stands mixed low_24 c_C_isBung_80 c_C_courses_82 c_C_all_81
theorem low_26 : lowF Try.prog 26 = some (9, [.tmp 2, .tmp 3], (ic_bung_Lean 80 84).erase) := by kernel_rfl
theorem low_84 : lowF Try.prog 84 = some (41, [.tmp 2], (ic_bung_lean).erase) := by kernel_rfl
theorem c_C_lean_84 : C_lean Try.prog 84 := ok_lean mixed low_84
theorem c_C_Lean_26 : C_Lean Try.prog 26 := ok_Lean mixed low_26 c_C_isBung_80 c_C_lean_84
theorem low_53 : lowF Try.prog 53 = some (55, [.cell 2 (some 3), .tmp 3], (ic_bung_Breaks 80 82).erase) := by kernel_rfl
theorem c_C_Breaks_53 : C_Breaks Try.prog 53 := ok_Breaks mixed low_53 c_C_isBung_80 c_C_courses_82
theorem low_20 : lowF Try.prog 20 = some (45, [.tmp 6, .tmp 7], (ic_bung_Fewest 76 77).erase) := by kernel_rfl
theorem low_76 : lowF Try.prog 76 = some (19, [.tmp 6], (ic_bung_asked 110 94 85).erase) := by kernel_rfl
theorem low_85 : lowF Try.prog 85 = some (11, [.tmp 2], (ic_bung_isSpot 111).erase) := by kernel_rfl
theorem c_C_isSpot_85 : C_isSpot Try.prog 85 := ok_isSpot mixed low_85 c_C_within_111
theorem c_C_asked_76 : C_asked Try.prog 76 := ok_asked mixed low_76 c_C_isWad_110 c_C_isList_94 c_C_isSpot_85
theorem low_77 : lowF Try.prog 77 = some (69, [.tmp 8], (ic_bung_packer_pack 124 125 126 77).erase) := by kernel_rfl
theorem low_124 : lowF Try.prog 124 = some (8, [.tmp 2], (ic_slices_Clone_SSint_Sint).erase) := by kernel_rfl
theorem c_C_CloneR_124 : C_CloneR Try.prog 124 := ok_CloneR mixed low_124
theorem low_125 : lowF Try.prog 125 = some (8, [.tmp 2], (ic_slices_Clone_Sint_int).erase) := by kernel_rfl
theorem c_C_CloneI_125 : C_CloneI Try.prog 125 := ok_CloneI mixed low_125
theorem low_126 : lowF Try.prog 126 = some (36, [.tmp 4], (ic_bung_packer_known 107).erase) := by kernel_rfl
theorem low_107 : lowF Try.prog 107 = some (19, [.tmp 4], (ic_bung_packer_do 95 112 86).erase) := by kernel_rfl
theorem low_95 : lowF Try.prog 95 = some (14, [.tmp 4], (ic_bung_rule 132 125 134 133).erase) := by kernel_rfl
theorem isFn_134 : isFn Try.prog 134 := ⟨_, Try.func134, by kernel_rfl, by kernel_rfl⟩
theorem low_132 : lowF Try.prog 132 = some (17, [.tmp 3], (ic_bung_rule_1).erase) := by kernel_rfl
theorem c_C_strong_132 : C_strong Try.prog 132 := ok_strong mixed low_132
theorem low_134 : lowF Try.prog 134 = some (27, [.tmp 6], (ic_bung_rule_2 136 135).erase) := by kernel_rfl
theorem low_136 : lowF Try.prog 136 = some (20, [.tmp 4], (ic_cmp_Compare_int 149).erase) := by kernel_rfl
theorem low_149 : lowF Try.prog 149 = some (6, [.tmp 2], (ic_cmp_isNaN_int).erase) := by kernel_rfl
theorem c_C_isNaN_149 : C_isNaN Try.prog 149 := ok_isNaN mixed low_149
theorem c_C_Compare_136 : C_Compare Try.prog 136 := ok_Compare mixed low_136 c_C_isNaN_149
theorem low_135 : lowF Try.prog 135 = some (18, [.tmp 2], (ic_cmp_Or_int).erase) := by kernel_rfl
theorem c_C_Or_135 : C_Or Try.prog 135 := ok_Or mixed low_135
theorem c_C_order_134_132 : C_order Try.prog 134 132 := ok_order mixed low_134 c_C_Compare_136 c_C_Or_135 c_C_strong_132
theorem isFn_133 : isFn Try.prog 133 := ⟨_, Try.func133, by kernel_rfl, by kernel_rfl⟩
theorem c_C_rule_95 : C_rule Try.prog 95 := ok_rule mixed low_95 isFn_134 c_C_strong_132 c_C_CloneI_125 c_C_order_134_132 (sortsI_of Try.sortInt isFn_133)
theorem low_86 : lowF Try.prog 86 = some (40, [.tmp 4], (ic_bung_fits 83 82 81 84).erase) := by kernel_rfl
theorem low_83 : lowF Try.prog 83 = some (29, [.cell 2 (some 2)], (ic_bung_height 129).erase) := by kernel_rfl
theorem c_C_height_83 : C_height Try.prog 83 := ok_height mixed low_83 c_C_sum_129
theorem c_C_fits_86 : C_fits Try.prog 86 := ok_fits mixed low_86 c_C_height_83 c_C_courses_82 c_C_all_81 c_C_lean_84
theorem c_C_do_107 : C_do Try.prog 107 := ok_do mixed low_107 c_C_rule_95 c_C_stacked_112 c_C_fits_86
theorem c_C_known_126 : C_known Try.prog 126 := ok_known' mixed low_126 c_C_do_107
theorem c_C_pack_77 : C_pack Try.prog 77 := ok_pack mixed low_77 c_C_CloneR_124 c_C_CloneI_125 c_C_known_126
theorem c_C_Fewest_20 : C_Fewest Try.prog 20 := ok_Fewest mixed low_20 c_C_asked_76 c_C_pack_77
theorem low_39 : lowF Try.prog 39 = some (31, [.tmp 4], (ic_potbankref03_SameRanges).erase) := by kernel_rfl
theorem c_C_SameRanges_39 : C_SameRanges Try.prog 39 := ok_SameRanges mixed low_39
theorem low_22 : lowF Try.prog 22 = some (31, [.tmp 4], (ic_potbankref03_SameParts 40).erase) := by kernel_rfl
theorem low_40 : lowF Try.prog 40 = some (26, [.tmp 4], (ic_potbankref01_Same).erase) := by kernel_rfl
theorem c_C_Same_40 : C_Same Try.prog 40 := ok_Same mixed low_40
theorem c_C_SameParts_22 : C_SameParts Try.prog 22 := ok_SameParts mixed low_22 c_C_Same_40
theorem c_C_sane_19 : C_sane Try.prog 19 := ok_sane mixed low_19 c_C_example_75 c_C_Set_59 c_C_Loads_32 c_C_Stands_24 c_C_Lean_26 c_C_Breaks_53 c_C_Fewest_20 c_C_SameRanges_39 c_C_SameParts_22 c_C_Same_40
theorem low_57 : lowF Try.prog 57 = some (40, [.tmp 8], (ic_bung_CheckBungs 76 106 107).erase) := by kernel_rfl
theorem low_106 : lowF Try.prog 106 = some (69, [.tmp 4], (ic_bung_areBungs 111).erase) := by kernel_rfl
theorem c_C_areBungs_106 : C_areBungs Try.prog 106 := ok_areBungs mixed low_106 c_C_within_111
theorem c_C_do0_107 : C_do0 Try.prog 107 := ok_do0 mixed low_107 c_C_rule_95 c_C_stacked_112 c_C_fits_86
theorem c_C_CheckBungs_57 : C_CheckBungs Try.prog 57 := ok_CheckBungs mixed low_57 c_C_asked_76 c_C_areBungs_106 c_C_do0_107
theorem low_58 : lowF Try.prog 58 = some (21, [.tmp 4], (ic_potbankref03_CheckBungs 78 108 109).erase) := by kernel_rfl
theorem low_78 : lowF Try.prog 78 = some (14, [.tmp 2], (ic_potbankref03_checked 103 50 52).erase) := by kernel_rfl
theorem low_103 : lowF Try.prog 103 = some (5, [.tmp 2], (ic_potbankref03_isWad 102).erase) := by kernel_rfl
theorem low_102 : lowF Try.prog 102 = some (24, [.tmp 6], (ic_potbankref03_part).erase) := by kernel_rfl
theorem c_C_isRange_102 : C_isRange Try.prog 102 := ok_rpart mixed low_102
theorem c_C_isWad_103 : C_isWad Try.prog 103 := ok_risWad mixed low_103 c_C_isRange_102
theorem low_50 : lowF Try.prog 50 = some (30, [.tmp 2], (ic_potbankref03_CheckList 46 104).erase) := by kernel_rfl
theorem low_46 : lowF Try.prog 46 = some (31, [.tmp 2], (ic_potbankref03_CheckSaggar 101 102).erase) := by kernel_rfl
theorem low_101 : lowF Try.prog 101 = some (15, [.tmp 6], (ic_potbankref03_In).erase) := by kernel_rfl
theorem c_C_within_101 : C_within Try.prog 101 := ok_rIn mixed low_101
theorem c_C_CheckSaggar_46 : C_CheckSaggar Try.prog 46 := ok_rCheckSaggar mixed low_46 c_C_within_101 c_C_isRange_102
theorem low_104 : lowF Try.prog 104 = some (19, [.tmp 4], (ic_potbankref03_has).erase) := by kernel_rfl
theorem c_C_has_104 : C_has Try.prog 104 := ok_has mixed low_104
theorem c_C_CheckList_50 : C_CheckList Try.prog 50 := ok_rCheckList mixed low_50 c_C_CheckSaggar_46 c_C_has_104
theorem low_52 : lowF Try.prog 52 = some (13, [.tmp 2], (ic_potbankref03_CheckSpot 101).erase) := by kernel_rfl
theorem c_C_CheckSpot_52 : C_CheckSpot Try.prog 52 := ok_rCheckSpot mixed low_52 c_C_within_101
theorem c_C_checked_78 : C_checked Try.prog 78 := ok_checked mixed low_78 c_C_isWad_103 c_C_CheckList_50 c_C_CheckSpot_52
theorem low_108 : lowF Try.prog 108 = some (91, [.tmp 4], (ic_potbankref03_AreParts 101 73).erase) := by kernel_rfl
theorem low_73 : lowF Try.prog 73 = some (18, [.tmp 4], (ic_potbankref01_Has).erase) := by kernel_rfl
theorem c_C_Has_73 : C_Has Try.prog 73 := ok_Has mixed low_73
theorem c_C_rparts_108 : C_rparts Try.prog 108 := ok_AreParts mixed low_108 c_C_within_101 c_C_Has_73
theorem low_109 : lowF Try.prog 109 = some (25, [.tmp 4], (ic_potbankref03_allDo 140).erase) := by kernel_rfl
theorem low_140 : lowF Try.prog 140 = some (22, [.tmp 6], (ic_potbankref03_does 115 97 87).erase) := by kernel_rfl
theorem low_115 : lowF Try.prog 115 = some (24, [.tmp 4], (ic_potbankref03_some).erase) := by kernel_rfl
theorem c_C_stacked_115 : C_stacked Try.prog 115 := ok_some mixed low_115
theorem low_97 : lowF Try.prog 97 = some (45, [.tmp 2], (ic_potbankref03_rule 137).erase) := by kernel_rfl
theorem low_137 : lowF Try.prog 137 = some (36, [.tmp 4], (ic_potbankref03_lower).erase) := by kernel_rfl
theorem c_C_lower_137 : C_lower Try.prog 137 := ok_lower mixed low_137
theorem c_C_rrule_97 : C_rrule Try.prog 97 := ok_rrule mixed low_97 c_C_lower_137
theorem low_87 : lowF Try.prog 87 = some (37, [.tmp 4], (ic_potbankref03_fits 92 91 93).erase) := by kernel_rfl
theorem low_92 : lowF Try.prog 92 = some (51, [.cell 2 (some 2)], (ic_potbankref03_height).erase) := by kernel_rfl
theorem c_C_rheight_92 : C_rheight Try.prog 92 := ok_rheight mixed low_92
theorem low_91 : lowF Try.prog 91 = some (20, [.tmp 2], (ic_potbankref03_stands 90).erase) := by kernel_rfl
theorem low_90 : lowF Try.prog 90 = some (27, [.tmp 4], (ic_potbankref03_answer 89).erase) := by kernel_rfl
theorem low_89 : lowF Try.prog 89 = some (36, [.cell 4 (some 2)], (ic_potbankref03_load).erase) := by kernel_rfl
theorem c_C_rload_89 : C_rload Try.prog 89 := ok_rload mixed low_89
theorem c_C_ranswer_90 : C_ranswer Try.prog 90 := ok_ranswer mixed low_90 c_C_rload_89
theorem c_C_rstands_91 : C_rstands Try.prog 91 := ok_rstands mixed low_91 c_C_ranswer_90
theorem low_93 : lowF Try.prog 93 = some (34, [.tmp 2], (ic_potbankref03_lean 92 131).erase) := by kernel_rfl
theorem low_131 : lowF Try.prog 131 = some (10, [.tmp 4], (ic_potbankref01_Up 146).erase) := by kernel_rfl
theorem low_146 : lowF Try.prog 146 = some (16, [.tmp 4], (ic_potbankref01_Down).erase) := by kernel_rfl
theorem c_C_Down_146 : C_Down Try.prog 146 := ok_Down mixed low_146
theorem c_C_Up_131 : C_Up Try.prog 131 := ok_Up mixed low_131 c_C_Down_146
theorem c_C_lean_93 : C_lean Try.prog 93 := ok_rlean mixed low_93 c_C_rheight_92 c_C_Up_131
theorem c_C_fits_87 : C_fits Try.prog 87 := ok_rfits mixed low_87 c_C_rheight_92 c_C_rstands_91 c_C_lean_93
theorem c_C_does_140 : C_does Try.prog 140 := ok_does mixed low_140 c_C_stacked_115 c_C_rrule_97 c_C_fits_87
theorem c_C_allDo_109 : C_allDo Try.prog 109 := ok_allDo mixed low_109 c_C_does_140
theorem c_C_rCheckBungs_58 : C_rCheckBungs Try.prog 58 := ok_rCheckBungs mixed low_58 c_C_checked_78 c_C_rparts_108 c_C_allDo_109
theorem c_L_BungParted_11 : L_BungParted Try.prog 11 := ok_BungParted mixed low_11 c_C_sane_19 c_C_CheckBungs_57 c_C_rCheckBungs_58
theorem isFn_11 : isFn Try.prog 11 := ⟨_, Try.func11, by kernel_rfl, by kernel_rfl⟩
end Go.Sh.C3
end
