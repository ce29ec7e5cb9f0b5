/- The calculus over shadows, and contracts: B3R, B3S, B3T, B3U, B3V, B4A, B3W, B3X, B4B, ShNz, B5A, B5E, B5H, B5I. -/
import Derived.Test.YthaiheabibapiaaK3
set_option linter.all false
section
namespace Go.Sh.C3
open Go.Sh
set_option maxRecDepth 10000
set_option linter.unusedVariables false
set_option linter.unusedSimpArgs false
variable {P : Program}
def ic_potbankref03_In : IC := .seq (.reg [⟨some 6, none, .mov (.c (.b false))⟩] [0, 1, 2]) (.seq (.reg [⟨some 7, none, .mov (.t 0)⟩, ⟨some 8, none, .mov (.t 1)⟩, ⟨some 9, none, .bin .geq (.t 7) (.t 8)⟩, ⟨some 10, none, .mov (.t 9)⟩, ⟨some 11, some (10, true), .mov (.t 0)⟩, ⟨some 12, some (10, true), .mov (.t 2)⟩, ⟨some 13, some (10, true), .bin .leq (.t 11) (.t 12)⟩, ⟨some 14, none, .pick (.t 10) (.t 13) (.c (.b false))⟩, ⟨some 6, none, .mov (.t 14)⟩] [6]) (.ret))
abbrev Low_potbankref03_In (P : Program) (f : Nat) : Prop := lowF P f = some (15, [.tmp 6], (ic_potbankref03_In).erase)
def ic_potbankref03_part : IC := .seq (.reg [⟨some 3, none, .box (.t 0)⟩, ⟨some 6, none, .mov (.c (.b false))⟩] [1, 2, 3]) (.seq (.reg [⟨some 7, none, .fad 0 (.t 3)⟩, ⟨some 8, none, .ld none (.t 7)⟩, ⟨some 9, none, .mov (.t 1)⟩, ⟨some 10, none, .bin .geq (.t 8) (.t 9)⟩, ⟨some 11, none, .mov (.t 10)⟩, ⟨some 12, some (11, true), .fad 0 (.t 3)⟩, ⟨some 13, some (11, true), .ld none (.t 12)⟩, ⟨some 14, some (11, true), .fad 1 (.t 3)⟩, ⟨some 15, some (11, true), .ld none (.t 14)⟩, ⟨some 16, some (11, true), .bin .leq (.t 13) (.t 15)⟩, ⟨some 17, none, .pick (.t 11) (.t 16) (.c (.b false))⟩, ⟨some 18, none, .mov (.t 17)⟩, ⟨some 19, some (18, true), .fad 1 (.t 3)⟩, ⟨some 20, some (18, true), .ld none (.t 19)⟩, ⟨some 21, some (18, true), .mov (.t 2)⟩, ⟨some 22, some (18, true), .bin .leq (.t 20) (.t 21)⟩, ⟨some 23, none, .pick (.t 18) (.t 22) (.c (.b false))⟩, ⟨some 6, none, .mov (.t 23)⟩] [6]) (.ret))
abbrev Low_potbankref03_part (P : Program) (f : Nat) : Prop := lowF P f = some (24, [.tmp 6], (ic_potbankref03_part).erase)
def ic_potbankref03_CheckSaggar (f0 f1 : Nat) : IC := .seq (.reg [⟨some 1, none, .box (.t 0)⟩, ⟨some 2, none, .mov (.c (.i .i64 (0)))⟩] [1]) (.seq (.seq (.reg [⟨some 3, none, .fad 0 (.t 1)⟩, ⟨some 4, none, .ld none (.t 3)⟩, ⟨some 5, none, .calv (.c (.fn (.func f0) [] [])) [.t 4, .c (.i .i64 (1)), .c (.i .i64 (999))]⟩, ⟨some 6, none, .un .not (.t 5)⟩, ⟨some 7, none, .mov (.t 6)⟩, ⟨some 8, some (7, false), .fad 1 (.t 1)⟩, ⟨some 9, some (7, false), .ld (some 2) (.t 8)⟩, ⟨some 10, some (7, false), .calv (.c (.fn (.func f1) [] [])) [.t 9, .c (.i .i64 (0)), .c (.i .i64 (10000000))]⟩, ⟨some 11, some (7, false), .un .not (.t 10)⟩, ⟨some 12, none, .pick (.t 7) (.c (.b true)) (.t 11)⟩, ⟨some 13, none, .mov (.t 12)⟩, ⟨some 14, some (13, false), .fad 3 (.t 1)⟩, ⟨some 15, some (13, false), .ld (some 2) (.t 14)⟩, ⟨some 16, some (13, false), .calv (.c (.fn (.func f1) [] [])) [.t 15, .c (.i .i64 (0)), .c (.i .i64 (10000000))]⟩, ⟨some 17, some (13, false), .un .not (.t 16)⟩, ⟨some 18, none, .pick (.t 13) (.c (.b true)) (.t 17)⟩, ⟨some 19, none, .mov (.t 18)⟩, ⟨some 20, some (19, false), .fad 5 (.t 1)⟩, ⟨some 21, some (19, false), .ld (some 2) (.t 20)⟩, ⟨some 22, some (19, false), .calv (.c (.fn (.func f1) [] [])) [.t 21, .c (.i .i64 (1)), .c (.i .i64 (10000))]⟩, ⟨some 23, some (19, false), .un .not (.t 22)⟩, ⟨some 24, none, .pick (.t 19) (.c (.b true)) (.t 23)⟩, ⟨some 25, none, .mov (.t 24)⟩, ⟨some 26, some (25, false), .fad 7 (.t 1)⟩, ⟨some 27, some (25, false), .ld none (.t 26)⟩, ⟨some 28, some (25, false), .calv (.c (.fn (.func f0) [] [])) [.t 27, .c (.i .i64 (0)), .c (.i .i64 (200))]⟩, ⟨some 29, some (25, false), .un .not (.t 28)⟩, ⟨some 30, none, .pick (.t 25) (.c (.b true)) (.t 29)⟩] [30]) (.cond (.t 30) (.seq (.reg [⟨some 2, none, .mov (.c (.i .i64 (30)))⟩] [2]) (.ret)) (.skip))) (.seq (.reg [⟨some 2, none, .mov (.c (.i .i64 (0)))⟩] [2]) (.ret)))
abbrev Low_potbankref03_CheckSaggar (P : Program) (f f0 f1 : Nat) : Prop := lowF P f = some (31, [.tmp 2], (ic_potbankref03_CheckSaggar f0 f1).erase)
def ic_potbankref03_has : IC := .seq (.reg [⟨some 4, none, .mov (.c (.b false))⟩] [0, 1]) (.seq (.seq (.reg [⟨some 5, none, .mov (.c (.i .i64 (0)))⟩] [0, 1, 5]) (.block 0 (.loop (.seq (.seq (.reg [⟨some 6, none, .mov (.t 5)⟩, ⟨some 7, none, .mov (.t 0)⟩, ⟨some 8, none, .len false (.t 7)⟩, ⟨some 9, none, .bin .lss (.t 6) (.t 8)⟩] [0, 1, 5, 9]) (.cond (.t 9) (.skip) (.exit 0))) (.seq (.block 1 (.seq (.reg [⟨some 12, none, .mov (.t 0)⟩, ⟨some 13, none, .mov (.t 5)⟩, ⟨some 14, none, .ixs 8 (.t 12) (.t 13)⟩, ⟨some 15, none, .fad 0 (.t 14)⟩, ⟨some 16, none, .ld none (.t 15)⟩, ⟨some 17, none, .mov (.t 1)⟩, ⟨some 18, none, .bin .eql (.t 16) (.t 17)⟩] [0, 1, 5, 18]) (.cond (.t 18) (.seq (.reg [⟨some 4, none, .mov (.c (.b true))⟩] [4]) (.ret)) (.skip)))) (.reg [⟨some 10, none, .mov (.t 5)⟩, ⟨some 11, none, .bin .add (.t 10) (.c (.i .i64 (1)))⟩, ⟨some 5, none, .mov (.t 11)⟩] [0, 1, 5])))))) (.seq (.reg [⟨some 4, none, .mov (.c (.b false))⟩] [4]) (.ret)))
abbrev Low_potbankref03_has (P : Program) (f : Nat) : Prop := lowF P f = some (19, [.tmp 4], (ic_potbankref03_has).erase)
def ic_potbankref03_CheckList (f0 f1 : Nat) : IC := .seq (.reg [⟨some 2, none, .mov (.c (.i .i64 (0)))⟩] [0]) (.seq (.seq (.reg [⟨some 4, none, .mov (.t 0)⟩, ⟨some 5, none, .len false (.t 4)⟩, ⟨some 6, none, .bin .gtr (.t 5) (.c (.i .i64 (30)))⟩] [0, 6]) (.cond (.t 6) (.seq (.reg [⟨some 2, none, .mov (.c (.i .i64 (30)))⟩] [2]) (.ret)) (.skip))) (.seq (.seq (.reg [⟨some 3, none, .mov (.c (.i .i64 (0)))⟩] [0, 3]) (.block 0 (.loop (.seq (.seq (.reg [⟨some 7, none, .mov (.t 3)⟩, ⟨some 8, none, .mov (.t 0)⟩, ⟨some 9, none, .len false (.t 8)⟩, ⟨some 10, none, .bin .lss (.t 7) (.t 9)⟩] [0, 3, 10]) (.cond (.t 10) (.skip) (.exit 0))) (.seq (.block 1 (.seq (.drg [(0, ⟨some 13, none, .mov (.t 0)⟩), (0, ⟨some 14, none, .mov (.t 3)⟩), (0, ⟨some 15, none, .ixs 8 (.t 13) (.t 14)⟩), (0, ⟨some 16, none, .ld (some 8) (.t 15)⟩), (0, ⟨some 17, none, .calv (.c (.fn (.func f0) [] [])) [.t 16]⟩), (0, ⟨some 18, none, .bin .neq (.t 17) (.c (.i .i64 (0)))⟩), (0, ⟨some 19, none, .mov (.t 18)⟩), (0, ⟨some 20, some (19, false), .mov (.t 0)⟩), (0, ⟨some 21, some (19, false), .mov (.t 3)⟩), (0, ⟨some 22, some (19, false), .slc 8 (.t 20) none (some (.t 21)) none⟩), (0, ⟨some 23, some (19, false), .mov (.t 0)⟩), (0, ⟨some 24, some (19, false), .mov (.t 3)⟩), (0, ⟨some 25, some (19, false), .ixs 8 (.t 23) (.t 24)⟩), (0, ⟨some 26, some (19, false), .fad 0 (.t 25)⟩), (0, ⟨some 27, some (19, false), .ld none (.t 26)⟩), (0, ⟨some 28, some (19, false), .calv (.c (.fn (.func f1) [] [])) [.t 22, .t 27]⟩), (0, ⟨some 29, none, .pick (.t 19) (.c (.b true)) (.t 28)⟩)] 15 [0, 3, 29]) (.cond (.t 29) (.seq (.reg [⟨some 2, none, .mov (.c (.i .i64 (30)))⟩] [2]) (.ret)) (.skip)))) (.reg [⟨some 11, none, .mov (.t 3)⟩, ⟨some 12, none, .bin .add (.t 11) (.c (.i .i64 (1)))⟩, ⟨some 3, none, .mov (.t 12)⟩] [0, 3])))))) (.seq (.reg [⟨some 2, none, .mov (.c (.i .i64 (0)))⟩] [2]) (.ret))))
abbrev Low_potbankref03_CheckList (P : Program) (f f0 f1 : Nat) : Prop := lowF P f = some (30, [.tmp 2], (ic_potbankref03_CheckList f0 f1).erase)
def ic_potbankref03_isWad (f0 : Nat) : IC := .seq (.reg [⟨some 1, none, .box (.t 0)⟩, ⟨some 2, none, .mov (.c (.b false))⟩] [1]) (.seq (.reg [⟨some 3, none, .ld (some 2) (.t 1)⟩, ⟨some 4, none, .calv (.c (.fn (.func f0) [] [])) [.t 3, .c (.i .i64 (0)), .c (.i .i64 (200))]⟩, ⟨some 2, none, .mov (.t 4)⟩] [2]) (.ret))
abbrev Low_potbankref03_isWad (P : Program) (f f0 : Nat) : Prop := lowF P f = some (5, [.tmp 2], (ic_potbankref03_isWad f0).erase)
def ic_potbankref03_Check (f0 f1 : Nat) : IC := .seq (.reg [⟨some 1, none, .box (.t 0)⟩, ⟨some 2, none, .mov (.c (.i .i64 (0)))⟩] [1]) (.seq (.seq (.reg [⟨some 3, none, .fad 0 (.t 1)⟩, ⟨some 4, none, .ld (some 2) (.t 3)⟩, ⟨some 5, none, .calv (.c (.fn (.func f0) [] [])) [.t 4]⟩, ⟨some 6, none, .un .not (.t 5)⟩, ⟨some 7, none, .mov (.t 6)⟩, ⟨some 8, some (7, false), .fad 2 (.t 1)⟩, ⟨some 9, some (7, false), .ld none (.t 8)⟩, ⟨some 10, some (7, false), .len false (.t 9)⟩, ⟨some 11, some (7, false), .bin .eql (.t 10) (.c (.i .i64 (0)))⟩, ⟨some 12, none, .pick (.t 7) (.c (.b true)) (.t 11)⟩, ⟨some 13, none, .mov (.t 12)⟩, ⟨some 14, some (13, false), .fad 2 (.t 1)⟩, ⟨some 15, some (13, false), .ld none (.t 14)⟩, ⟨some 16, some (13, false), .calv (.c (.fn (.func f1) [] [])) [.t 15]⟩, ⟨some 17, some (13, false), .bin .neq (.t 16) (.c (.i .i64 (0)))⟩, ⟨some 18, none, .pick (.t 13) (.c (.b true)) (.t 17)⟩] [18]) (.cond (.t 18) (.seq (.reg [⟨some 2, none, .mov (.c (.i .i64 (31)))⟩] [2]) (.ret)) (.skip))) (.seq (.reg [⟨some 2, none, .mov (.c (.i .i64 (0)))⟩] [2]) (.ret)))
abbrev Low_potbankref03_Check (P : Program) (f f0 f1 : Nat) : Prop := lowF P f = some (19, [.tmp 2], (ic_potbankref03_Check f0 f1).erase)
def ic_potbankref03_CheckSpot (f0 : Nat) : IC := .seq (.reg [⟨some 1, none, .box (.t 0)⟩, ⟨some 2, none, .mov (.c (.i .i64 (0)))⟩] [1]) (.seq (.seq (.reg [⟨some 3, none, .fad 0 (.t 1)⟩, ⟨some 4, none, .ld none (.t 3)⟩, ⟨some 5, none, .calv (.c (.fn (.func f0) [] [])) [.t 4, .c (.i .i64 (0)), .c (.i .i64 (400000))]⟩, ⟨some 6, none, .un .not (.t 5)⟩, ⟨some 7, none, .mov (.t 6)⟩, ⟨some 8, some (7, false), .fad 1 (.t 1)⟩, ⟨some 9, some (7, false), .ld none (.t 8)⟩, ⟨some 10, some (7, false), .calv (.c (.fn (.func f0) [] [])) [.t 9, .c (.i .i64 (0)), .c (.i .i64 (100000))]⟩, ⟨some 11, some (7, false), .un .not (.t 10)⟩, ⟨some 12, none, .pick (.t 7) (.c (.b true)) (.t 11)⟩] [12]) (.cond (.t 12) (.seq (.reg [⟨some 2, none, .mov (.c (.i .i64 (33)))⟩] [2]) (.ret)) (.skip))) (.seq (.reg [⟨some 2, none, .mov (.c (.i .i64 (0)))⟩] [2]) (.ret)))
abbrev Low_potbankref03_CheckSpot (P : Program) (f f0 : Nat) : Prop := lowF P f = some (13, [.tmp 2], (ic_potbankref03_CheckSpot f0).erase)
def ic_potbankref03_load : IC := .seq (.reg [⟨some 4, none, .alloc [.i .i64 (0), .i .i64 (0)]⟩] [0, 1, 4]) (.seq (.reg [⟨some 5, none, .alloc [.i .i64 (0), .i .i64 (0)]⟩] [0, 1, 4, 5]) (.seq (.seq (.reg [⟨some 7, none, .mov (.t 1)⟩, ⟨some 8, none, .bin .add (.t 7) (.c (.i .i64 (1)))⟩, ⟨some 6, none, .mov (.t 8)⟩] [0, 4, 5, 6]) (.block 0 (.loop (.seq (.seq (.reg [⟨some 9, none, .mov (.t 6)⟩, ⟨some 10, none, .mov (.t 0)⟩, ⟨some 11, none, .len false (.t 10)⟩, ⟨some 12, none, .bin .lss (.t 9) (.t 11)⟩] [0, 4, 5, 6, 12]) (.cond (.t 12) (.skip) (.exit 0))) (.seq (.block 1 (.seq (.drg [(0, ⟨some 15, none, .fad 0 (.t 5)⟩), (0, ⟨some 16, none, .ld none (.t 15)⟩), (0, ⟨some 17, none, .mov (.t 0)⟩), (0, ⟨some 18, none, .mov (.t 6)⟩), (0, ⟨some 19, none, .ixs 8 (.t 17) (.t 18)⟩), (0, ⟨some 20, none, .fad 1 (.t 19)⟩), (0, ⟨some 21, none, .fad 0 (.t 20)⟩), (0, ⟨some 22, none, .ld none (.t 21)⟩), (0, ⟨some 23, none, .bin .add (.t 16) (.t 22)⟩), (0, ⟨some 24, none, .fad 0 (.t 5)⟩), (1, ⟨none, none, .st 1 (.t 24) (.t 23)⟩)] 8 [0, 4, 5, 6]) (.drg [(0, ⟨some 25, none, .fad 1 (.t 5)⟩), (0, ⟨some 26, none, .ld none (.t 25)⟩), (0, ⟨some 27, none, .mov (.t 0)⟩), (0, ⟨some 28, none, .mov (.t 6)⟩), (0, ⟨some 29, none, .ixs 8 (.t 27) (.t 28)⟩), (0, ⟨some 30, none, .fad 1 (.t 29)⟩), (0, ⟨some 31, none, .fad 1 (.t 30)⟩), (0, ⟨some 32, none, .ld none (.t 31)⟩), (0, ⟨some 33, none, .bin .add (.t 26) (.t 32)⟩), (0, ⟨some 34, none, .fad 1 (.t 5)⟩), (1, ⟨none, none, .st 1 (.t 34) (.t 33)⟩)] 8 [0, 4, 5, 6]))) (.reg [⟨some 13, none, .mov (.t 6)⟩, ⟨some 14, none, .bin .add (.t 13) (.c (.i .i64 (1)))⟩, ⟨some 6, none, .mov (.t 14)⟩] [0, 4, 5, 6])))))) (.seq (.reg [⟨some 35, none, .ld (some 2) (.t 5)⟩, ⟨none, none, .st 2 (.t 4) (.t 35)⟩] [4]) (.ret))))
abbrev Low_potbankref03_load (P : Program) (f : Nat) : Prop := lowF P f = some (36, [.cell 4 (some 2)], (ic_potbankref03_load).erase)
def ic_potbankref03_answer (f0 : Nat) : IC := .seq (.reg [⟨some 4, none, .mov (.c (.i .i64 (0)))⟩] [0, 1]) (.seq (.reg [⟨some 6, none, .mov (.t 0)⟩, ⟨some 7, none, .mov (.t 1)⟩, ⟨some 8, none, .calv (.c (.fn (.func f0) [] [])) [.t 6, .t 7]⟩, ⟨some 5, none, .alloc [.i .i64 (0), .i .i64 (0)]⟩, ⟨none, none, .st 2 (.t 5) (.t 8)⟩] [0, 1, 5]) (.seq (.seq (.drg [(0, ⟨some 9, none, .fad 1 (.t 5)⟩), (0, ⟨some 10, none, .ld none (.t 9)⟩), (0, ⟨some 11, none, .mov (.t 0)⟩), (0, ⟨some 12, none, .mov (.t 1)⟩), (0, ⟨some 13, none, .ixs 8 (.t 11) (.t 12)⟩), (0, ⟨some 14, none, .fad 3 (.t 13)⟩), (0, ⟨some 15, none, .fad 0 (.t 14)⟩), (0, ⟨some 16, none, .ld none (.t 15)⟩), (0, ⟨some 17, none, .bin .leq (.t 10) (.t 16)⟩)] 8 [0, 1, 5, 17]) (.cond (.t 17) (.seq (.reg [⟨some 4, none, .mov (.c (.i .i64 (1)))⟩] [4]) (.ret)) (.skip))) (.seq (.seq (.drg [(0, ⟨some 18, none, .fad 0 (.t 5)⟩), (0, ⟨some 19, none, .ld none (.t 18)⟩), (0, ⟨some 20, none, .mov (.t 0)⟩), (0, ⟨some 21, none, .mov (.t 1)⟩), (0, ⟨some 22, none, .ixs 8 (.t 20) (.t 21)⟩), (0, ⟨some 23, none, .fad 3 (.t 22)⟩), (0, ⟨some 24, none, .fad 1 (.t 23)⟩), (0, ⟨some 25, none, .ld none (.t 24)⟩), (0, ⟨some 26, none, .bin .gtr (.t 19) (.t 25)⟩)] 8 [26]) (.cond (.t 26) (.seq (.reg [⟨some 4, none, .mov (.c (.i .i64 (0)))⟩] [4]) (.ret)) (.skip))) (.seq (.reg [⟨some 4, none, .mov (.c (.i .i64 (2)))⟩] [4]) (.ret)))))
abbrev Low_potbankref03_answer (P : Program) (f f0 : Nat) : Prop := lowF P f = some (27, [.tmp 4], (ic_potbankref03_answer f0).erase)
def ic_potbankref03_stands (f0 : Nat) : IC := .seq (.reg [⟨some 2, none, .mov (.c (.i .i64 (0)))⟩] [0]) (.seq (.reg [⟨some 3, none, .mov (.c (.i .i64 (1)))⟩] [0, 3]) (.seq (.seq (.reg [⟨some 4, none, .mov (.c (.i .i64 (0)))⟩] [0, 3, 4]) (.block 0 (.loop (.seq (.seq (.reg [⟨some 6, none, .mov (.t 4)⟩, ⟨some 7, none, .mov (.t 0)⟩, ⟨some 8, none, .len false (.t 7)⟩, ⟨some 9, none, .bin .lss (.t 6) (.t 8)⟩] [0, 3, 4, 9]) (.cond (.t 9) (.skip) (.exit 0))) (.seq (.block 1 (.seq (.reg [⟨some 12, none, .mov (.t 0)⟩, ⟨some 13, none, .mov (.t 4)⟩, ⟨some 14, none, .calv (.c (.fn (.func f0) [] [])) [.t 12, .t 13]⟩, ⟨some 5, none, .mov (.t 14)⟩] [0, 3, 4, 5]) (.seq (.seq (.reg [⟨some 15, none, .mov (.t 5)⟩, ⟨some 16, none, .bin .eql (.t 15) (.c (.i .i64 (0)))⟩] [0, 3, 4, 5, 16]) (.cond (.t 16) (.seq (.reg [⟨some 2, none, .mov (.c (.i .i64 (0)))⟩] [2]) (.ret)) (.skip))) (.seq (.reg [⟨some 17, none, .mov (.t 5)⟩, ⟨some 18, none, .bin .eql (.t 17) (.c (.i .i64 (2)))⟩] [0, 3, 4, 18]) (.cond (.t 18) (.reg [⟨some 3, none, .mov (.c (.i .i64 (2)))⟩] [0, 3, 4]) (.skip)))))) (.reg [⟨some 10, none, .mov (.t 4)⟩, ⟨some 11, none, .bin .add (.t 10) (.c (.i .i64 (1)))⟩, ⟨some 4, none, .mov (.t 11)⟩] [0, 3, 4])))))) (.seq (.reg [⟨some 19, none, .mov (.t 3)⟩, ⟨some 2, none, .mov (.t 19)⟩] [2]) (.ret))))
abbrev Low_potbankref03_stands (P : Program) (f f0 : Nat) : Prop := lowF P f = some (20, [.tmp 2], (ic_potbankref03_stands f0).erase)
def ic_potbankref03_Loads (f0 f1 : Nat) : IC := .seq (.reg [⟨some 1, none, .box (.t 0)⟩, ⟨some 2, none, .mov (.c (.nsl))⟩, ⟨some 3, none, .mov (.c (.i .i64 (0)))⟩] [1]) (.seq (.seq (.reg [⟨some 6, none, .ld (some 3) (.t 1)⟩, ⟨some 7, none, .calv (.c (.fn (.func f0) [] [])) [.t 6]⟩, ⟨some 8, none, .bin .neq (.t 7) (.c (.i .i64 (0)))⟩] [1, 8]) (.cond (.t 8) (.seq (.reg [⟨some 2, none, .mov (.c (.nsl))⟩, ⟨some 3, none, .mov (.c (.i .i64 (31)))⟩] [2, 3]) (.ret)) (.skip))) (.seq (.reg [⟨some 4, none, .mov (.c (.nsl))⟩] [1, 4]) (.seq (.seq (.reg [⟨some 5, none, .mov (.c (.i .i64 (0)))⟩] [1, 4, 5]) (.block 0 (.loop (.seq (.seq (.reg [⟨some 9, none, .mov (.t 5)⟩, ⟨some 10, none, .fad 2 (.t 1)⟩, ⟨some 11, none, .ld none (.t 10)⟩, ⟨some 12, none, .len false (.t 11)⟩, ⟨some 13, none, .bin .lss (.t 9) (.t 12)⟩] [1, 4, 5, 13]) (.cond (.t 13) (.skip) (.exit 0))) (.seq (.block 1 (.reg [⟨some 16, none, .mov (.t 4)⟩, ⟨some 17, none, .fad 2 (.t 1)⟩, ⟨some 18, none, .ld none (.t 17)⟩, ⟨some 19, none, .mov (.t 5)⟩, ⟨some 20, none, .calv (.c (.fn (.func f1) [] [])) [.t 18, .t 19]⟩, ⟨some 21, none, .bsl false 2 1 [.i .i64 (0), .i .i64 (0)] [(0, (.t 20))]⟩, ⟨some 22, none, .app 2 16 (.t 16) (.t 21)⟩, ⟨some 4, none, .mov (.t 22)⟩] [1, 4, 5])) (.reg [⟨some 14, none, .mov (.t 5)⟩, ⟨some 15, none, .bin .add (.t 14) (.c (.i .i64 (1)))⟩, ⟨some 5, none, .mov (.t 15)⟩] [1, 4, 5])))))) (.seq (.reg [⟨some 23, none, .mov (.t 4)⟩, ⟨some 2, none, .mov (.t 23)⟩, ⟨some 3, none, .mov (.c (.i .i64 (0)))⟩] [2, 3]) (.ret)))))
abbrev Low_potbankref03_Loads (P : Program) (f f0 f1 : Nat) : Prop := lowF P f = some (24, [.tmp 2, .tmp 3], (ic_potbankref03_Loads f0 f1).erase)
def ic_potbankref03_Courses (f0 f1 : Nat) : IC := .seq (.reg [⟨some 1, none, .box (.t 0)⟩, ⟨some 2, none, .mov (.c (.nsl))⟩, ⟨some 3, none, .mov (.c (.i .i64 (0)))⟩] [1]) (.seq (.seq (.reg [⟨some 6, none, .ld (some 3) (.t 1)⟩, ⟨some 7, none, .calv (.c (.fn (.func f0) [] [])) [.t 6]⟩, ⟨some 8, none, .bin .neq (.t 7) (.c (.i .i64 (0)))⟩] [1, 8]) (.cond (.t 8) (.seq (.reg [⟨some 2, none, .mov (.c (.nsl))⟩, ⟨some 3, none, .mov (.c (.i .i64 (31)))⟩] [2, 3]) (.ret)) (.skip))) (.seq (.reg [⟨some 4, none, .mov (.c (.nsl))⟩] [1, 4]) (.seq (.seq (.reg [⟨some 5, none, .mov (.c (.i .i64 (0)))⟩] [1, 4, 5]) (.block 0 (.loop (.seq (.seq (.reg [⟨some 9, none, .mov (.t 5)⟩, ⟨some 10, none, .fad 2 (.t 1)⟩, ⟨some 11, none, .ld none (.t 10)⟩, ⟨some 12, none, .len false (.t 11)⟩, ⟨some 13, none, .bin .lss (.t 9) (.t 12)⟩] [1, 4, 5, 13]) (.cond (.t 13) (.skip) (.exit 0))) (.seq (.block 1 (.reg [⟨some 16, none, .mov (.t 4)⟩, ⟨some 17, none, .fad 2 (.t 1)⟩, ⟨some 18, none, .ld none (.t 17)⟩, ⟨some 19, none, .mov (.t 5)⟩, ⟨some 20, none, .calv (.c (.fn (.func f1) [] [])) [.t 18, .t 19]⟩, ⟨some 21, none, .bsl false 1 1 [.i .i64 (0)] [(0, (.t 20))]⟩, ⟨some 22, none, .app 1 8 (.t 16) (.t 21)⟩, ⟨some 4, none, .mov (.t 22)⟩] [1, 4, 5])) (.reg [⟨some 14, none, .mov (.t 5)⟩, ⟨some 15, none, .bin .add (.t 14) (.c (.i .i64 (1)))⟩, ⟨some 5, none, .mov (.t 15)⟩] [1, 4, 5])))))) (.seq (.reg [⟨some 23, none, .mov (.t 4)⟩, ⟨some 2, none, .mov (.t 23)⟩, ⟨some 3, none, .mov (.c (.i .i64 (0)))⟩] [2, 3]) (.ret)))))
abbrev Low_potbankref03_Courses (P : Program) (f f0 f1 : Nat) : Prop := lowF P f = some (24, [.tmp 2, .tmp 3], (ic_potbankref03_Courses f0 f1).erase)
def ic_potbankref03_Stands (f0 f1 : Nat) : IC := .seq (.reg [⟨some 1, none, .box (.t 0)⟩, ⟨some 2, none, .mov (.c (.i .i64 (0)))⟩, ⟨some 3, none, .mov (.c (.i .i64 (0)))⟩] [1]) (.seq (.seq (.reg [⟨some 4, none, .ld (some 3) (.t 1)⟩, ⟨some 5, none, .calv (.c (.fn (.func f0) [] [])) [.t 4]⟩, ⟨some 6, none, .bin .neq (.t 5) (.c (.i .i64 (0)))⟩] [1, 6]) (.cond (.t 6) (.seq (.reg [⟨some 2, none, .mov (.c (.i .i64 (0)))⟩, ⟨some 3, none, .mov (.c (.i .i64 (31)))⟩] [2, 3]) (.ret)) (.skip))) (.seq (.reg [⟨some 7, none, .fad 2 (.t 1)⟩, ⟨some 8, none, .ld none (.t 7)⟩, ⟨some 9, none, .calv (.c (.fn (.func f1) [] [])) [.t 8]⟩, ⟨some 2, none, .mov (.t 9)⟩, ⟨some 3, none, .mov (.c (.i .i64 (0)))⟩] [2, 3]) (.ret)))
abbrev Low_potbankref03_Stands (P : Program) (f f0 f1 : Nat) : Prop := lowF P f = some (10, [.tmp 2, .tmp 3], (ic_potbankref03_Stands f0 f1).erase)
def ic_potbankref03_height : IC := .seq (.reg [⟨some 1, none, .box (.t 0)⟩, ⟨some 2, none, .alloc [.i .i64 (0), .i .i64 (0)]⟩] [1, 2]) (.seq (.reg [⟨some 6, none, .fad 2 (.t 1)⟩, ⟨some 7, none, .ld none (.t 6)⟩, ⟨some 8, none, .len false (.t 7)⟩, ⟨some 9, none, .bin .sub (.t 8) (.c (.i .i64 (1)))⟩, ⟨some 3, none, .mov (.t 9)⟩] [1, 2, 3]) (.seq (.reg [⟨some 10, none, .mov (.t 3)⟩, ⟨some 11, none, .fad 0 (.t 1)⟩, ⟨some 12, none, .fad 0 (.t 11)⟩, ⟨some 13, none, .ld none (.t 12)⟩, ⟨some 14, none, .bin .mul (.t 10) (.t 13)⟩, ⟨some 15, none, .mov (.t 3)⟩, ⟨some 16, none, .fad 0 (.t 1)⟩, ⟨some 17, none, .fad 1 (.t 16)⟩, ⟨some 18, none, .ld none (.t 17)⟩, ⟨some 19, none, .bin .mul (.t 15) (.t 18)⟩, ⟨some 20, none, .bld [.i .i64 (0), .i .i64 (0)] [(0, 1, (.t 14)), (1, 1, (.t 19))]⟩, ⟨some 4, none, .alloc [.i .i64 (0), .i .i64 (0)]⟩, ⟨none, none, .st 2 (.t 4) (.t 20)⟩] [1, 2, 4]) (.seq (.seq (.reg [⟨some 5, none, .mov (.c (.i .i64 (0)))⟩] [1, 2, 4, 5]) (.block 0 (.loop (.seq (.seq (.reg [⟨some 21, none, .mov (.t 5)⟩, ⟨some 22, none, .fad 2 (.t 1)⟩, ⟨some 23, none, .ld none (.t 22)⟩, ⟨some 24, none, .len false (.t 23)⟩, ⟨some 25, none, .bin .lss (.t 21) (.t 24)⟩] [1, 2, 4, 5, 25]) (.cond (.t 25) (.skip) (.exit 0))) (.seq (.block 1 (.seq (.drg [(0, ⟨some 28, none, .fad 0 (.t 4)⟩), (0, ⟨some 29, none, .ld none (.t 28)⟩), (0, ⟨some 30, none, .fad 2 (.t 1)⟩), (0, ⟨some 31, none, .ld none (.t 30)⟩), (0, ⟨some 32, none, .mov (.t 5)⟩), (0, ⟨some 33, none, .ixs 8 (.t 31) (.t 32)⟩), (0, ⟨some 34, none, .fad 5 (.t 33)⟩), (0, ⟨some 35, none, .fad 0 (.t 34)⟩), (0, ⟨some 36, none, .ld none (.t 35)⟩), (0, ⟨some 37, none, .bin .add (.t 29) (.t 36)⟩), (0, ⟨some 38, none, .fad 0 (.t 4)⟩), (1, ⟨none, none, .st 1 (.t 38) (.t 37)⟩)] 9 [1, 2, 4, 5]) (.drg [(0, ⟨some 39, none, .fad 1 (.t 4)⟩), (0, ⟨some 40, none, .ld none (.t 39)⟩), (0, ⟨some 41, none, .fad 2 (.t 1)⟩), (0, ⟨some 42, none, .ld none (.t 41)⟩), (0, ⟨some 43, none, .mov (.t 5)⟩), (0, ⟨some 44, none, .ixs 8 (.t 42) (.t 43)⟩), (0, ⟨some 45, none, .fad 5 (.t 44)⟩), (0, ⟨some 46, none, .fad 1 (.t 45)⟩), (0, ⟨some 47, none, .ld none (.t 46)⟩), (0, ⟨some 48, none, .bin .add (.t 40) (.t 47)⟩), (0, ⟨some 49, none, .fad 1 (.t 4)⟩), (1, ⟨none, none, .st 1 (.t 49) (.t 48)⟩)] 9 [1, 2, 4, 5]))) (.reg [⟨some 26, none, .mov (.t 5)⟩, ⟨some 27, none, .bin .add (.t 26) (.c (.i .i64 (1)))⟩, ⟨some 5, none, .mov (.t 27)⟩] [1, 2, 4, 5])))))) (.seq (.reg [⟨some 50, none, .ld (some 2) (.t 4)⟩, ⟨none, none, .st 2 (.t 2) (.t 50)⟩] [2]) (.ret)))))
abbrev Low_potbankref03_height (P : Program) (f : Nat) : Prop := lowF P f = some (51, [.cell 2 (some 2)], (ic_potbankref03_height).erase)
def ic_potbankref03_Height (f0 f1 : Nat) : IC := .seq (.reg [⟨some 1, none, .box (.t 0)⟩, ⟨some 2, none, .alloc [.i .i64 (0), .i .i64 (0)]⟩, ⟨some 3, none, .mov (.c (.i .i64 (0)))⟩] [1, 2]) (.seq (.seq (.reg [⟨some 4, none, .ld (some 3) (.t 1)⟩, ⟨some 5, none, .calv (.c (.fn (.func f0) [] [])) [.t 4]⟩, ⟨some 6, none, .bin .neq (.t 5) (.c (.i .i64 (0)))⟩] [1, 2, 6]) (.cond (.t 6) (.seq (.reg [⟨some 7, none, .bld [.i .i64 (0), .i .i64 (0)] []⟩, ⟨none, none, .st 2 (.t 2) (.t 7)⟩, ⟨some 3, none, .mov (.c (.i .i64 (31)))⟩] [2, 3]) (.ret)) (.skip))) (.seq (.reg [⟨some 8, none, .ld (some 3) (.t 1)⟩, ⟨some 9, none, .calv (.c (.fn (.func f1) [] [])) [.t 8]⟩, ⟨none, none, .st 2 (.t 2) (.t 9)⟩, ⟨some 3, none, .mov (.c (.i .i64 (0)))⟩] [2, 3]) (.ret)))
abbrev Low_potbankref03_Height (P : Program) (f f0 f1 : Nat) : Prop := lowF P f = some (10, [.cell 2 (some 2), .tmp 3], (ic_potbankref03_Height f0 f1).erase)
def ic_potbankref03_lean (f0 f1 : Nat) : IC := .seq (.reg [⟨some 1, none, .box (.t 0)⟩, ⟨some 2, none, .mov (.c (.i .i64 (0)))⟩] [1]) (.seq (.reg [⟨some 3, none, .mov (.c (.i .i64 (0)))⟩] [1, 3]) (.seq (.seq (.reg [⟨some 4, none, .mov (.c (.i .i64 (1)))⟩] [1, 3, 4]) (.block 0 (.loop (.seq (.seq (.reg [⟨some 6, none, .mov (.t 4)⟩, ⟨some 7, none, .fad 2 (.t 1)⟩, ⟨some 8, none, .ld none (.t 7)⟩, ⟨some 9, none, .len false (.t 8)⟩, ⟨some 10, none, .bin .lss (.t 6) (.t 9)⟩] [1, 3, 4, 10]) (.cond (.t 10) (.skip) (.exit 0))) (.seq (.block 1 (.seq (.drg [(0, ⟨some 13, none, .fad 0 (.t 1)⟩), (0, ⟨some 14, none, .ld (some 2) (.t 13)⟩), (0, ⟨some 15, none, .fad 2 (.t 1)⟩), (0, ⟨some 16, none, .ld none (.t 15)⟩), (0, ⟨some 17, none, .mov (.t 4)⟩), (0, ⟨some 18, none, .slc 8 (.t 16) (some (.t 17)) none none⟩), (0, ⟨some 19, none, .bld [.i .i64 (0), .i .i64 (0), .nsl] [(0, 2, (.t 14)), (2, 1, (.t 18))]⟩), (2, ⟨some 5, none, .alloc [.i .i64 (0), .i .i64 (0), .nsl]⟩), (1, ⟨none, none, .st 3 (.t 5) (.t 19)⟩)] 8 [1, 3, 4, 5]) (.drg [(0, ⟨some 20, none, .mov (.t 3)⟩), (0, ⟨some 21, none, .fad 2 (.t 1)⟩), (0, ⟨some 22, none, .ld none (.t 21)⟩), (0, ⟨some 23, none, .mov (.t 4)⟩), (0, ⟨some 24, none, .ixs 8 (.t 22) (.t 23)⟩), (0, ⟨some 25, none, .fad 7 (.t 24)⟩), (0, ⟨some 26, none, .ld none (.t 25)⟩), (0, ⟨some 27, none, .ld (some 3) (.t 5)⟩), (0, ⟨some 28, none, .calv (.c (.fn (.func f0) [] [])) [.t 27]⟩), (0, ⟨some 29, none, .fld 1 none (.t 28)⟩), (0, ⟨some 30, none, .bin .mul (.t 26) (.t 29)⟩), (0, ⟨some 31, none, .bin .add (.t 20) (.t 30)⟩), (0, ⟨some 3, none, .mov (.t 31)⟩)] 11 [1, 3, 4]))) (.reg [⟨some 11, none, .mov (.t 4)⟩, ⟨some 12, none, .bin .add (.t 11) (.c (.i .i64 (1)))⟩, ⟨some 4, none, .mov (.t 12)⟩] [1, 3, 4])))))) (.seq (.reg [⟨some 32, none, .mov (.t 3)⟩, ⟨some 33, none, .calv (.c (.fn (.func f1) [] [])) [.t 32, .c (.i .i64 (1000))]⟩, ⟨some 2, none, .mov (.t 33)⟩] [2]) (.ret))))
abbrev Low_potbankref03_lean (P : Program) (f f0 f1 : Nat) : Prop := lowF P f = some (34, [.tmp 2], (ic_potbankref03_lean f0 f1).erase)
def ic_potbankref03_Lean (f0 f1 : Nat) : IC := .seq (.reg [⟨some 1, none, .box (.t 0)⟩, ⟨some 2, none, .mov (.c (.i .i64 (0)))⟩, ⟨some 3, none, .mov (.c (.i .i64 (0)))⟩] [1]) (.seq (.seq (.reg [⟨some 4, none, .ld (some 3) (.t 1)⟩, ⟨some 5, none, .calv (.c (.fn (.func f0) [] [])) [.t 4]⟩, ⟨some 6, none, .bin .neq (.t 5) (.c (.i .i64 (0)))⟩] [1, 6]) (.cond (.t 6) (.seq (.reg [⟨some 2, none, .mov (.c (.i .i64 (0)))⟩, ⟨some 3, none, .mov (.c (.i .i64 (31)))⟩] [2, 3]) (.ret)) (.skip))) (.seq (.reg [⟨some 7, none, .ld (some 3) (.t 1)⟩, ⟨some 8, none, .calv (.c (.fn (.func f1) [] [])) [.t 7]⟩, ⟨some 2, none, .mov (.t 8)⟩, ⟨some 3, none, .mov (.c (.i .i64 (0)))⟩] [2, 3]) (.ret)))
abbrev Low_potbankref03_Lean (P : Program) (f f0 f1 : Nat) : Prop := lowF P f = some (9, [.tmp 2, .tmp 3], (ic_potbankref03_Lean f0 f1).erase)
def ic_potbankref03_fits (f0 f1 f2 : Nat) : IC := .seq (.reg [⟨some 2, none, .box (.t 0)⟩, ⟨some 3, none, .box (.t 1)⟩, ⟨some 4, none, .mov (.c (.i .i64 (0)))⟩] [2, 3]) (.seq (.reg [⟨some 7, none, .ld (some 3) (.t 2)⟩, ⟨some 8, none, .calv (.c (.fn (.func f0) [] [])) [.t 7]⟩, ⟨some 5, none, .alloc [.i .i64 (0), .i .i64 (0)]⟩, ⟨none, none, .st 2 (.t 5) (.t 8)⟩] [2, 3, 5]) (.seq (.reg [⟨some 9, none, .fad 2 (.t 2)⟩, ⟨some 10, none, .ld none (.t 9)⟩, ⟨some 11, none, .calv (.c (.fn (.func f1) [] [])) [.t 10]⟩, ⟨some 6, none, .mov (.t 11)⟩] [2, 3, 5, 6]) (.seq (.seq (.reg [⟨some 12, none, .fad 0 (.t 5)⟩, ⟨some 13, none, .ld none (.t 12)⟩, ⟨some 14, none, .fad 0 (.t 3)⟩, ⟨some 15, none, .ld none (.t 14)⟩, ⟨some 16, none, .bin .gtr (.t 13) (.t 15)⟩, ⟨some 17, none, .mov (.t 16)⟩, ⟨some 18, some (17, false), .mov (.t 6)⟩, ⟨some 19, some (17, false), .bin .eql (.t 18) (.c (.i .i64 (0)))⟩, ⟨some 20, none, .pick (.t 17) (.c (.b true)) (.t 19)⟩] [2, 3, 5, 6, 20]) (.cond (.t 20) (.seq (.reg [⟨some 4, none, .mov (.c (.i .i64 (0)))⟩] [4]) (.ret)) (.skip))) (.seq (.seq (.drg [(0, ⟨some 21, none, .fad 1 (.t 5)⟩), (0, ⟨some 22, none, .ld none (.t 21)⟩), (0, ⟨some 23, none, .fad 0 (.t 3)⟩), (0, ⟨some 24, none, .ld none (.t 23)⟩), (0, ⟨some 25, none, .bin .leq (.t 22) (.t 24)⟩), (0, ⟨some 26, none, .mov (.t 25)⟩), (0, ⟨some 27, some (26, true), .ld (some 3) (.t 2)⟩), (0, ⟨some 28, some (26, true), .calv (.c (.fn (.func f2) [] [])) [.t 27]⟩), (0, ⟨some 29, some (26, true), .fad 1 (.t 3)⟩), (0, ⟨some 30, some (26, true), .ld none (.t 29)⟩), (0, ⟨some 31, some (26, true), .bin .leq (.t 28) (.t 30)⟩), (0, ⟨some 32, none, .pick (.t 26) (.t 31) (.c (.b false))⟩), (0, ⟨some 33, none, .mov (.t 32)⟩), (0, ⟨some 34, some (33, true), .mov (.t 6)⟩), (0, ⟨some 35, some (33, true), .bin .eql (.t 34) (.c (.i .i64 (1)))⟩), (0, ⟨some 36, none, .pick (.t 33) (.t 35) (.c (.b false))⟩)] 10 [36]) (.cond (.t 36) (.seq (.reg [⟨some 4, none, .mov (.c (.i .i64 (1)))⟩] [4]) (.ret)) (.skip))) (.seq (.reg [⟨some 4, none, .mov (.c (.i .i64 (2)))⟩] [4]) (.ret))))))
abbrev Low_potbankref03_fits (P : Program) (f f0 f1 f2 : Nat) : Prop := lowF P f = some (37, [.tmp 4], (ic_potbankref03_fits f0 f1 f2).erase)
def ic_potbankref03_Fits (f0 f1 f2 : Nat) : IC := .seq (.reg [⟨some 2, none, .box (.t 0)⟩, ⟨some 3, none, .box (.t 1)⟩, ⟨some 4, none, .mov (.c (.i .i64 (0)))⟩, ⟨some 5, none, .mov (.c (.i .i64 (0)))⟩] [2, 3]) (.seq (.seq (.reg [⟨some 6, none, .ld (some 3) (.t 2)⟩, ⟨some 7, none, .calv (.c (.fn (.func f0) [] [])) [.t 6]⟩, ⟨some 8, none, .bin .neq (.t 7) (.c (.i .i64 (0)))⟩] [2, 3, 8]) (.cond (.t 8) (.seq (.reg [⟨some 4, none, .mov (.c (.i .i64 (0)))⟩, ⟨some 5, none, .mov (.c (.i .i64 (31)))⟩] [4, 5]) (.ret)) (.skip))) (.seq (.seq (.reg [⟨some 9, none, .ld (some 2) (.t 3)⟩, ⟨some 10, none, .calv (.c (.fn (.func f1) [] [])) [.t 9]⟩, ⟨some 11, none, .bin .neq (.t 10) (.c (.i .i64 (0)))⟩] [2, 3, 11]) (.cond (.t 11) (.seq (.reg [⟨some 4, none, .mov (.c (.i .i64 (0)))⟩, ⟨some 5, none, .mov (.c (.i .i64 (33)))⟩] [4, 5]) (.ret)) (.skip))) (.seq (.reg [⟨some 12, none, .ld (some 3) (.t 2)⟩, ⟨some 13, none, .ld (some 2) (.t 3)⟩, ⟨some 14, none, .calv (.c (.fn (.func f2) [] [])) [.t 12, .t 13]⟩, ⟨some 4, none, .mov (.t 14)⟩, ⟨some 5, none, .mov (.c (.i .i64 (0)))⟩] [4, 5]) (.ret))))
abbrev Low_potbankref03_Fits (P : Program) (f f0 f1 f2 : Nat) : Prop := lowF P f = some (15, [.tmp 4, .tmp 5], (ic_potbankref03_Fits f0 f1 f2).erase)
def ic_potbankref03_SameRanges : IC := .seq (.reg [⟨some 4, none, .mov (.c (.b false))⟩] [0, 1]) (.seq (.reg [⟨some 7, none, .mov (.t 0)⟩, ⟨some 8, none, .len false (.t 7)⟩, ⟨some 9, none, .mov (.t 1)⟩, ⟨some 10, none, .len false (.t 9)⟩, ⟨some 11, none, .bin .eql (.t 8) (.t 10)⟩, ⟨some 5, none, .mov (.t 11)⟩] [0, 1, 5]) (.seq (.seq (.reg [⟨some 6, none, .mov (.c (.i .i64 (0)))⟩] [0, 1, 5, 6]) (.block 0 (.loop (.seq (.seq (.reg [⟨some 12, none, .mov (.t 6)⟩, ⟨some 13, none, .mov (.t 0)⟩, ⟨some 14, none, .len false (.t 13)⟩, ⟨some 15, none, .bin .lss (.t 12) (.t 14)⟩, ⟨some 16, none, .mov (.t 15)⟩, ⟨some 17, some (16, true), .mov (.t 5)⟩, ⟨some 18, none, .pick (.t 16) (.t 17) (.c (.b false))⟩] [0, 1, 5, 6, 18]) (.cond (.t 18) (.skip) (.exit 0))) (.seq (.block 1 (.drg [(0, ⟨some 21, none, .mov (.t 0)⟩), (0, ⟨some 22, none, .mov (.t 6)⟩), (0, ⟨some 23, none, .ixs 2 (.t 21) (.t 22)⟩), (0, ⟨some 24, none, .ld (some 2) (.t 23)⟩), (0, ⟨some 25, none, .mov (.t 1)⟩), (0, ⟨some 26, none, .mov (.t 6)⟩), (0, ⟨some 27, none, .ixs 2 (.t 25) (.t 26)⟩), (0, ⟨some 28, none, .ld (some 2) (.t 27)⟩), (0, ⟨some 29, none, .eqs false [(0, 0), (1, 0)] (.t 24) (.t 28)⟩), (0, ⟨some 5, none, .mov (.t 29)⟩)] 8 [0, 1, 5, 6])) (.reg [⟨some 19, none, .mov (.t 6)⟩, ⟨some 20, none, .bin .add (.t 19) (.c (.i .i64 (1)))⟩, ⟨some 6, none, .mov (.t 20)⟩] [0, 1, 5, 6])))))) (.seq (.reg [⟨some 30, none, .mov (.t 5)⟩, ⟨some 4, none, .mov (.t 30)⟩] [4]) (.ret))))
abbrev Low_potbankref03_SameRanges (P : Program) (f : Nat) : Prop := lowF P f = some (31, [.tmp 4], (ic_potbankref03_SameRanges).erase)
def ic_potbankref01_Same : IC := .seq (.reg [⟨some 4, none, .mov (.c (.b false))⟩] [0, 1]) (.seq (.seq (.reg [⟨some 6, none, .mov (.t 0)⟩, ⟨some 7, none, .len false (.t 6)⟩, ⟨some 8, none, .mov (.t 1)⟩, ⟨some 9, none, .len false (.t 8)⟩, ⟨some 10, none, .bin .neq (.t 7) (.t 9)⟩] [0, 1, 10]) (.cond (.t 10) (.seq (.reg [⟨some 4, none, .mov (.c (.b false))⟩] [4]) (.ret)) (.skip))) (.seq (.seq (.reg [⟨some 5, none, .mov (.c (.i .i64 (0)))⟩] [0, 1, 5]) (.block 0 (.loop (.seq (.seq (.reg [⟨some 11, none, .mov (.t 5)⟩, ⟨some 12, none, .mov (.t 0)⟩, ⟨some 13, none, .len false (.t 12)⟩, ⟨some 14, none, .bin .lss (.t 11) (.t 13)⟩] [0, 1, 5, 14]) (.cond (.t 14) (.skip) (.exit 0))) (.seq (.block 1 (.seq (.drg [(0, ⟨some 17, none, .mov (.t 0)⟩), (0, ⟨some 18, none, .mov (.t 5)⟩), (0, ⟨some 19, none, .ixs 1 (.t 17) (.t 18)⟩), (0, ⟨some 20, none, .ld none (.t 19)⟩), (0, ⟨some 21, none, .mov (.t 1)⟩), (0, ⟨some 22, none, .mov (.t 5)⟩), (0, ⟨some 23, none, .ixs 1 (.t 21) (.t 22)⟩), (0, ⟨some 24, none, .ld none (.t 23)⟩), (0, ⟨some 25, none, .bin .neq (.t 20) (.t 24)⟩)] 8 [0, 1, 5, 25]) (.cond (.t 25) (.seq (.reg [⟨some 4, none, .mov (.c (.b false))⟩] [4]) (.ret)) (.skip)))) (.reg [⟨some 15, none, .mov (.t 5)⟩, ⟨some 16, none, .bin .add (.t 15) (.c (.i .i64 (1)))⟩, ⟨some 5, none, .mov (.t 16)⟩] [0, 1, 5])))))) (.seq (.reg [⟨some 4, none, .mov (.c (.b true))⟩] [4]) (.ret))))
abbrev Low_potbankref01_Same (P : Program) (f : Nat) : Prop := lowF P f = some (26, [.tmp 4], (ic_potbankref01_Same).erase)
def ic_potbankref01_Up (f0 : Nat) : IC := .seq (.reg [⟨some 4, none, .mov (.c (.i .i64 (0)))⟩] [0, 1]) (.seq (.reg [⟨some 5, none, .mov (.t 0)⟩, ⟨some 6, none, .un .neg (.t 5)⟩, ⟨some 7, none, .mov (.t 1)⟩, ⟨some 8, none, .calv (.c (.fn (.func f0) [] [])) [.t 6, .t 7]⟩, ⟨some 9, none, .un .neg (.t 8)⟩, ⟨some 4, none, .mov (.t 9)⟩] [4]) (.ret))
abbrev Low_potbankref01_Up (P : Program) (f f0 : Nat) : Prop := lowF P f = some (10, [.tmp 4], (ic_potbankref01_Up f0).erase)
def ic_potbankref01_Down : IC := .seq (.reg [⟨some 4, none, .mov (.c (.i .i64 (0)))⟩] [0, 1]) (.seq (.reg [⟨some 6, none, .mov (.t 0)⟩, ⟨some 7, none, .mov (.t 1)⟩, ⟨some 8, none, .bin .quo (.t 6) (.t 7)⟩, ⟨some 5, none, .mov (.t 8)⟩] [0, 1, 5]) (.seq (.seq (.reg [⟨some 9, none, .mov (.t 0)⟩, ⟨some 10, none, .mov (.t 1)⟩, ⟨some 11, none, .bin .rem (.t 9) (.t 10)⟩, ⟨some 12, none, .bin .lss (.t 11) (.c (.i .i64 (0)))⟩] [5, 12]) (.cond (.t 12) (.reg [⟨some 13, none, .mov (.t 5)⟩, ⟨some 14, none, .bin .sub (.t 13) (.c (.i .i64 (1)))⟩, ⟨some 5, none, .mov (.t 14)⟩] [5]) (.skip))) (.seq (.reg [⟨some 15, none, .mov (.t 5)⟩, ⟨some 4, none, .mov (.t 15)⟩] [4]) (.ret))))
abbrev Low_potbankref01_Down (P : Program) (f : Nat) : Prop := lowF P f = some (16, [.tmp 4], (ic_potbankref01_Down).erase)

theorem ok_rIn (hm : P.follows .mixedOrders = true) {f : Nat} (low : Low_potbankref03_In P f) : C_within P f := by
  intro n lo hi
  refine snd_ic hm low (by simp) ?_
  unfold ic_potbankref03_In
  simp -dsimp -implicitDefEqProofs only [qq, Nat.reduceBEq, reduceIte, Nat.reduceAdd, Nat.reduceSub, Nat.reduceLeDiff, Nat.reduceLT, Nat.reduceMul, Nat.reduceEqDiff, Int.reduceEq, Int.reduceBEq, Int.reduceBNe, Int.reduceLT, Int.reduceLE, Int.reduceGT, Int.reduceGE, Int.reduceNeg, Int.reduceAdd, Int.reduceSub, reduceCtorEq, List.reduceReplicate, ← List.map_take, ← List.map_drop]
  repeat' (first | (refine brG_of (fun h => ?_) (fun h => ?_) <;> simp -dsimp -implicitDefEqProofs only [h, qq, Nat.reduceBEq, reduceIte, Nat.reduceAdd, Nat.reduceSub, Nat.reduceLeDiff, Nat.reduceLT, Nat.reduceMul, Nat.reduceEqDiff, Int.reduceEq, Int.reduceBEq, Int.reduceBNe, Int.reduceLT, Int.reduceLE, Int.reduceGT, Int.reduceGE, Int.reduceNeg, Int.reduceAdd, Int.reduceSub, reduceCtorEq, List.reduceReplicate, ← List.map_take, ← List.map_drop]))
  all_goals exact Ends.plain rfl rfl (by first | (simp_all [resV, inR]; done) | (simp_all [resV, inR]; omega) | (simp only [resV, inR]; grind))
theorem ok_rpart (hm : P.follows .mixedOrders = true) {f : Nat} (low : Low_potbankref03_part P f) : C_isRange P f := by
  intro r lo hi
  refine snd_ic hm low (by simp) ?_
  unfold ic_potbankref03_part
  simp -dsimp -implicitDefEqProofs only [qq, Nat.reduceBEq, reduceIte, Nat.reduceAdd, Nat.reduceSub, Nat.reduceLeDiff, Nat.reduceLT, Nat.reduceMul, Nat.reduceEqDiff, Int.reduceEq, Int.reduceBEq, Int.reduceBNe, Int.reduceLT, Int.reduceLE, Int.reduceGT, Int.reduceGE, Int.reduceNeg, Int.reduceAdd, Int.reduceSub, reduceCtorEq, List.reduceReplicate, ← List.map_take, ← List.map_drop]
  repeat' (first | (refine brG_of (fun h => ?_) (fun h => ?_) <;> simp -dsimp -implicitDefEqProofs only [h, qq, Nat.reduceBEq, reduceIte, Nat.reduceAdd, Nat.reduceSub, Nat.reduceLeDiff, Nat.reduceLT, Nat.reduceMul, Nat.reduceEqDiff, Int.reduceEq, Int.reduceBEq, Int.reduceBNe, Int.reduceLT, Int.reduceLE, Int.reduceGT, Int.reduceGE, Int.reduceNeg, Int.reduceAdd, Int.reduceSub, reduceCtorEq, List.reduceReplicate, ← List.map_take, ← List.map_drop]))
  all_goals exact Ends.plain rfl rfl (by first | (simp_all [resV, rgB]; done) | (simp_all [resV, rgB]; omega) | (simp only [resV, rgB]; grind))
theorem ok_rCheckSaggar (hm : P.follows .mixedOrders = true) {f f0 f1 : Nat} (low : Low_potbankref03_CheckSaggar P f f0 f1) (h0 : C_within P f0) (h1 : C_isRange P f1) : C_CheckSaggar P f := by
  intro s
  refine snd_ic hm low (by simp) ?_
  unfold ic_potbankref03_CheckSaggar
  simp -dsimp -implicitDefEqProofs only [qq, Nat.reduceBEq, reduceIte, Nat.reduceAdd, Nat.reduceSub, Nat.reduceLeDiff, Nat.reduceLT, Nat.reduceMul, Nat.reduceEqDiff, Int.reduceEq, Int.reduceBEq, Int.reduceBNe, Int.reduceLT, Int.reduceLE, Int.reduceGT, Int.reduceGE, Int.reduceNeg, Int.reduceAdd, Int.reduceSub, reduceCtorEq, List.reduceReplicate, ← List.map_take, ← List.map_drop]
  repeat' (first | (refine brG_of (fun h => ?_) (fun h => ?_) <;> simp -dsimp -implicitDefEqProofs only [h, qq, Nat.reduceBEq, reduceIte, Nat.reduceAdd, Nat.reduceSub, Nat.reduceLeDiff, Nat.reduceLT, Nat.reduceMul, Nat.reduceEqDiff, Int.reduceEq, Int.reduceBEq, Int.reduceBNe, Int.reduceLT, Int.reduceLE, Int.reduceGT, Int.reduceGE, Int.reduceNeg, Int.reduceAdd, Int.reduceSub, reduceCtorEq, List.reduceReplicate, ← List.map_take, ← List.map_drop]) | (refine callI_pure (h0 _ _ _) rfl rfl ?_; simp -dsimp -implicitDefEqProofs only [qq, Nat.reduceBEq, reduceIte, Nat.reduceAdd, Nat.reduceSub, Nat.reduceLeDiff, Nat.reduceLT, Nat.reduceMul, Nat.reduceEqDiff, Int.reduceEq, Int.reduceBEq, Int.reduceBNe, Int.reduceLT, Int.reduceLE, Int.reduceGT, Int.reduceGE, Int.reduceNeg, Int.reduceAdd, Int.reduceSub, reduceCtorEq, List.reduceReplicate, ← List.map_take, ← List.map_drop]) | (refine callI_pure (h1 ⟨_, _⟩ _ _) rfl rfl ?_; simp -dsimp -implicitDefEqProofs only [qq, Nat.reduceBEq, reduceIte, Nat.reduceAdd, Nat.reduceSub, Nat.reduceLeDiff, Nat.reduceLT, Nat.reduceMul, Nat.reduceEqDiff, Int.reduceEq, Int.reduceBEq, Int.reduceBNe, Int.reduceLT, Int.reduceLE, Int.reduceGT, Int.reduceGE, Int.reduceNeg, Int.reduceAdd, Int.reduceSub, reduceCtorEq, List.reduceReplicate, ← List.map_take, ← List.map_drop]))
  all_goals exact Ends.plain rfl rfl (by first | (simp_all [resV, sagB]; done) | (simp_all [resV, sagB]; omega) | (simp only [resV, sagB]; grind))
def C_has (P : Program) (f : Nat) : Prop := ∀ (l : List Sag) (n : Int), l.length ≤ 1000 → Snd P f [.fsl (l.map Sag.c), .i .i64 n] [] (.b (decide (n ∈ l.map (·.id)))) []
theorem ok_has (hm : P.follows .mixedOrders = true) {f : Nat} (low : Low_potbankref03_has P f) : C_has P f := by
  intro l n hl
  refine snd_ic hm low (by simp) ?_
  unfold ic_potbankref03_has
  simp -dsimp -implicitDefEqProofs only [qq, Nat.reduceBEq, reduceIte, Nat.reduceAdd, Nat.reduceSub, Nat.reduceLeDiff, Nat.reduceLT, Nat.reduceMul, Nat.reduceEqDiff, Int.reduceEq, Int.reduceBEq, Int.reduceBNe, Int.reduceLT, Int.reduceLE, Int.reduceGT, Int.reduceGE, Int.reduceNeg, Int.reduceAdd, Int.reduceSub, reduceCtorEq, List.reduceReplicate, ← List.map_take, ← List.map_drop]
  refine loopI_st (fun k : Nat => l.length - k) (fun k E H => k ≤ l.length ∧ E = [(0, .fsl (l.map Sag.c)), (1, .i .i64 n), (5, .i .i64 k)] ∧ (∀ x ∈ l.take k, x.id ≠ n)) 0 ⟨by omega, rfl, by simp⟩ ?_
  rintro k _ H ⟨hk, rfl, hn⟩
  simp -dsimp -implicitDefEqProofs only [qq, Nat.reduceBEq, reduceIte, Nat.reduceAdd, Nat.reduceSub, Nat.reduceLeDiff, Nat.reduceLT, Nat.reduceMul, Nat.reduceEqDiff, Int.reduceEq, Int.reduceBEq, Int.reduceBNe, Int.reduceLT, Int.reduceLE, Int.reduceGT, Int.reduceGE, Int.reduceNeg, Int.reduceAdd, Int.reduceSub, reduceCtorEq, List.reduceReplicate, ← List.map_take, ← List.map_drop]
  refine brG_of (fun hlt => ?_) (fun hge => ?_)
  · have hkl : k < l.length := by simpa using hlt
    obtain ⟨x, hx, hxm, htk, _⟩ := next_of hkl
    have hwk : IntKind.i64.wrap ((k : Int) + 1) = ((k + 1 : Nat) : Int) := wrap_succ (by omega)
    simp -dsimp -implicitDefEqProofs only [hx, Sag.c, qq, Nat.reduceBEq, reduceIte, Nat.reduceAdd, Nat.reduceSub, Nat.reduceLeDiff, Nat.reduceLT, Nat.reduceMul, Nat.reduceEqDiff, Int.reduceEq, Int.reduceBEq, Int.reduceBNe, Int.reduceLT, Int.reduceLE, Int.reduceGT, Int.reduceGE, Int.reduceNeg, Int.reduceAdd, Int.reduceSub, reduceCtorEq, List.reduceReplicate, ← List.map_take, ← List.map_drop]
    refine brG_of (fun he => ?_) (fun he => ?_)
    · simp -dsimp -implicitDefEqProofs only [qq, Nat.reduceBEq, reduceIte, Nat.reduceAdd, Nat.reduceSub, Nat.reduceLeDiff, Nat.reduceLT, Nat.reduceMul, Nat.reduceEqDiff, Int.reduceEq, Int.reduceBEq, Int.reduceBNe, Int.reduceLT, Int.reduceLE, Int.reduceGT, Int.reduceGE, Int.reduceNeg, Int.reduceAdd, Int.reduceSub, reduceCtorEq, List.reduceReplicate, ← List.map_take, ← List.map_drop]
      refine Ends.plain rfl rfl ?_
      simp only [beq_iff_eq] at he
      have : n ∈ l.map (·.id) := List.mem_map.2 ⟨x, hxm, he⟩
      simp [resV, this]
    · simp -dsimp -implicitDefEqProofs only [hwk, qq, Nat.reduceBEq, reduceIte, Nat.reduceAdd, Nat.reduceSub, Nat.reduceLeDiff, Nat.reduceLT, Nat.reduceMul, Nat.reduceEqDiff, Int.reduceEq, Int.reduceBEq, Int.reduceBNe, Int.reduceLT, Int.reduceLE, Int.reduceGT, Int.reduceGE, Int.reduceNeg, Int.reduceAdd, Int.reduceSub, reduceCtorEq, List.reduceReplicate, ← List.map_take, ← List.map_drop]
      refine ⟨k + 1, by omega, by omega, rfl, ?_⟩
      rw [htk]
      intro y hy
      rcases List.mem_append.1 hy with h | h
      · exact hn y h
      · simp at h; subst h; simpa using he
  · obtain rfl : k = l.length := by simp at hge; omega
    simp -dsimp -implicitDefEqProofs only [qq, Nat.reduceBEq, reduceIte, Nat.reduceAdd, Nat.reduceSub, Nat.reduceLeDiff, Nat.reduceLT, Nat.reduceMul, Nat.reduceEqDiff, Int.reduceEq, Int.reduceBEq, Int.reduceBNe, Int.reduceLT, Int.reduceLE, Int.reduceGT, Int.reduceGE, Int.reduceNeg, Int.reduceAdd, Int.reduceSub, reduceCtorEq, List.reduceReplicate, ← List.map_take, ← List.map_drop]
    refine Ends.plain rfl rfl ?_
    rw [List.take_length] at hn
    have : n ∉ l.map (·.id) := fun h => by obtain ⟨x, hx, e⟩ := List.mem_map.1 h; exact hn x hx e
    simp [resV, this]
theorem ok_rCheckList (hm : P.follows .mixedOrders = true) {f f0 f1 : Nat} (low : Low_potbankref03_CheckList P f f0 f1) (h0 : C_CheckSaggar P f0) (h1 : C_has P f1) : C_CheckList P f := by
  intro l
  refine snd_ic hm low (by simp) ?_
  unfold ic_potbankref03_CheckList
  simp -dsimp -implicitDefEqProofs only [qq, Nat.reduceBEq, reduceIte, Nat.reduceAdd, Nat.reduceSub, Nat.reduceLeDiff, Nat.reduceLT, Nat.reduceMul, Nat.reduceEqDiff, Int.reduceEq, Int.reduceBEq, Int.reduceBNe, Int.reduceLT, Int.reduceLE, Int.reduceGT, Int.reduceGE, Int.reduceNeg, Int.reduceAdd, Int.reduceSub, reduceCtorEq, List.reduceReplicate, ← List.map_take, ← List.map_drop]
  refine brG_of (fun h => ?_) (fun h => ?_) <;> simp -dsimp -implicitDefEqProofs only [qq, Nat.reduceBEq, reduceIte, Nat.reduceAdd, Nat.reduceSub, Nat.reduceLeDiff, Nat.reduceLT, Nat.reduceMul, Nat.reduceEqDiff, Int.reduceEq, Int.reduceBEq, Int.reduceBNe, Int.reduceLT, Int.reduceLE, Int.reduceGT, Int.reduceGE, Int.reduceNeg, Int.reduceAdd, Int.reduceSub, reduceCtorEq, List.reduceReplicate, ← List.map_take, ← List.map_drop]
  · refine Ends.plain rfl rfl ?_
    have : listB l = false := by simp [listB]; intro h'; simp at h; omega
    simp [resV, this]
  have hl : l.length ≤ 30 := by simp at h; omega
  refine loopI_st (fun k : Nat => l.length - k) (fun k E H => k ≤ l.length ∧ E = [(0, .fsl (l.map Sag.c)), (3, .i .i64 k)] ∧ (l.take k).all sagB = true ∧ ((l.take k).map (·.id)).Nodup) 0 ⟨by omega, rfl, rfl, by simp⟩ ?_
  rintro k _ H ⟨hk, rfl, ha, hn⟩
  simp -dsimp -implicitDefEqProofs only [qq, Nat.reduceBEq, reduceIte, Nat.reduceAdd, Nat.reduceSub, Nat.reduceLeDiff, Nat.reduceLT, Nat.reduceMul, Nat.reduceEqDiff, Int.reduceEq, Int.reduceBEq, Int.reduceBNe, Int.reduceLT, Int.reduceLE, Int.reduceGT, Int.reduceGE, Int.reduceNeg, Int.reduceAdd, Int.reduceSub, reduceCtorEq, List.reduceReplicate, ← List.map_take, ← List.map_drop]
  refine brG_of (fun hlt => ?_) (fun hge => ?_)
  · have hkl : k < l.length := by simpa using hlt
    obtain ⟨x, hx, hxm, htk, _⟩ := next_of hkl
    have hwk : IntKind.i64.wrap ((k : Int) + 1) = ((k + 1 : Nat) : Int) := wrap_succ (by omega)
    simp -dsimp -implicitDefEqProofs only [hx, Sag.c, qq, Nat.reduceBEq, reduceIte, Nat.reduceAdd, Nat.reduceSub, Nat.reduceLeDiff, Nat.reduceLT, Nat.reduceMul, Nat.reduceEqDiff, Int.reduceEq, Int.reduceBEq, Int.reduceBNe, Int.reduceLT, Int.reduceLE, Int.reduceGT, Int.reduceGE, Int.reduceNeg, Int.reduceAdd, Int.reduceSub, reduceCtorEq, List.reduceReplicate, ← List.map_take, ← List.map_drop]
    refine callI_pure (h0 x) rfl rfl ?_
    cases hs : sagB x <;> simp -dsimp -implicitDefEqProofs only [qq, Nat.reduceBEq, reduceIte, Nat.reduceAdd, Nat.reduceSub, Nat.reduceLeDiff, Nat.reduceLT, Nat.reduceMul, Nat.reduceEqDiff, Int.reduceEq, Int.reduceBEq, Int.reduceBNe, Int.reduceLT, Int.reduceLE, Int.reduceGT, Int.reduceGE, Int.reduceNeg, Int.reduceAdd, Int.reduceSub, reduceCtorEq, List.reduceReplicate, ← List.map_take, ← List.map_drop]
    · refine Ends.plain rfl rfl ?_
      have : listB l = false := by
        simp only [listB]
        rw [show l.all sagB = false from by simp; exact ⟨x, hxm, hs⟩]
        simp
      simp [resV, this]
    · repeat (refine ⟨by first | omega | trivial | (intro row hr; obtain ⟨x, _, rfl⟩ := List.mem_map.1 hr; rfl), ?_⟩)
      simp -dsimp -implicitDefEqProofs only [hx, Sag.c, qq, Nat.reduceBEq, reduceIte, Nat.reduceAdd, Nat.reduceSub, Nat.reduceLeDiff, Nat.reduceLT, Nat.reduceMul, Nat.reduceEqDiff, Int.reduceEq, Int.reduceBEq, Int.reduceBNe, Int.reduceLT, Int.reduceLE, Int.reduceGT, Int.reduceGE, Int.reduceNeg, Int.reduceAdd, Int.reduceSub, reduceCtorEq, List.reduceReplicate, ← List.map_take, ← List.map_drop]
      refine callI_pure (h1 (l.take k) x.id (by rw [List.length_take]; omega)) rfl rfl ?_
      by_cases hid : x.id ∈ (l.take k).map (·.id)
      · simp -dsimp -implicitDefEqProofs only [decide_eq_true hid, qq, Nat.reduceBEq, reduceIte, Nat.reduceAdd, Nat.reduceSub, Nat.reduceLeDiff, Nat.reduceLT, Nat.reduceMul, Nat.reduceEqDiff, Int.reduceEq, Int.reduceBEq, Int.reduceBNe, Int.reduceLT, Int.reduceLE, Int.reduceGT, Int.reduceGE, Int.reduceNeg, Int.reduceAdd, Int.reduceSub, reduceCtorEq, List.reduceReplicate, ← List.map_take, ← List.map_drop]
        refine Ends.plain rfl rfl ?_
        have : listB l = false := by
          simp only [listB]
          rw [show decide ((l.map (·.id)).Nodup) = false from ?_]
          · simp
          · rw [decide_eq_false_iff_not]
            intro hnd
            rw [← List.take_append_drop k l, List.map_append, List.nodup_append] at hnd
            exact hnd.2.2 _ hid x.id (List.mem_map.2 ⟨x, List.mem_of_getElem? (i := 0) (by rw [List.getElem?_drop]; simpa using hx), rfl⟩) rfl
        simp [resV, this]
      · simp -dsimp -implicitDefEqProofs only [decide_eq_false hid, hwk, qq, Nat.reduceBEq, reduceIte, Nat.reduceAdd, Nat.reduceSub, Nat.reduceLeDiff, Nat.reduceLT, Nat.reduceMul, Nat.reduceEqDiff, Int.reduceEq, Int.reduceBEq, Int.reduceBNe, Int.reduceLT, Int.reduceLE, Int.reduceGT, Int.reduceGE, Int.reduceNeg, Int.reduceAdd, Int.reduceSub, reduceCtorEq, List.reduceReplicate, ← List.map_take, ← List.map_drop]
        refine ⟨k + 1, by omega, by omega, rfl, ?_, ?_⟩
        · rw [htk]; simp [List.all_append] at ha ⊢; exact ⟨ha, hs⟩
        · rw [htk]; simp [List.nodup_append] at hn ⊢; exact ⟨hn, fun a ha e => by subst e; simp at hid; exact hid ha⟩
  · obtain rfl : k = l.length := by simp at hge; omega
    simp -dsimp -implicitDefEqProofs only [qq, Nat.reduceBEq, reduceIte, Nat.reduceAdd, Nat.reduceSub, Nat.reduceLeDiff, Nat.reduceLT, Nat.reduceMul, Nat.reduceEqDiff, Int.reduceEq, Int.reduceBEq, Int.reduceBNe, Int.reduceLT, Int.reduceLE, Int.reduceGT, Int.reduceGE, Int.reduceNeg, Int.reduceAdd, Int.reduceSub, reduceCtorEq, List.reduceReplicate, ← List.map_take, ← List.map_drop]
    refine Ends.plain rfl rfl ?_
    rw [List.take_length] at ha hn
    have : listB l = true := by simp only [listB, ha, hn]; simp; exact hl
    simp [resV, this]
end Go.Sh.C3
end
section
namespace Go.Sh.C3
open Go.Sh
set_option maxRecDepth 10000
set_option linter.unusedVariables false
set_option linter.unusedSimpArgs false
variable {P : Program}

theorem ok_risWad (hm : P.follows .mixedOrders = true) {f f0 : Nat} (low : Low_potbankref03_isWad P f f0) (h0 : C_isRange P f0) : C_isWad P f := by
  intro w
  refine snd_ic hm low (by simp) ?_
  unfold ic_potbankref03_isWad
  simp -dsimp -implicitDefEqProofs only [qq, Nat.reduceBEq, reduceIte, Nat.reduceAdd, Nat.reduceSub, Nat.reduceLeDiff, Nat.reduceLT, Nat.reduceMul, Nat.reduceEqDiff, Int.reduceEq, Int.reduceBEq, Int.reduceBNe, Int.reduceLT, Int.reduceLE, Int.reduceGT, Int.reduceGE, Int.reduceNeg, Int.reduceAdd, Int.reduceSub, reduceCtorEq, List.reduceReplicate, ← List.map_take, ← List.map_drop]
  repeat' (first | (refine brG_of (fun h => ?_) (fun h => ?_) <;> simp -dsimp -implicitDefEqProofs only [h, qq, Nat.reduceBEq, reduceIte, Nat.reduceAdd, Nat.reduceSub, Nat.reduceLeDiff, Nat.reduceLT, Nat.reduceMul, Nat.reduceEqDiff, Int.reduceEq, Int.reduceBEq, Int.reduceBNe, Int.reduceLT, Int.reduceLE, Int.reduceGT, Int.reduceGE, Int.reduceNeg, Int.reduceAdd, Int.reduceSub, reduceCtorEq, List.reduceReplicate, ← List.map_take, ← List.map_drop]) | (refine callI_pure (h0 w _ _) rfl rfl ?_; simp -dsimp -implicitDefEqProofs only [qq, Nat.reduceBEq, reduceIte, Nat.reduceAdd, Nat.reduceSub, Nat.reduceLeDiff, Nat.reduceLT, Nat.reduceMul, Nat.reduceEqDiff, Int.reduceEq, Int.reduceBEq, Int.reduceBNe, Int.reduceLT, Int.reduceLE, Int.reduceGT, Int.reduceGE, Int.reduceNeg, Int.reduceAdd, Int.reduceSub, reduceCtorEq, List.reduceReplicate, ← List.map_take, ← List.map_drop]))
  all_goals exact Ends.plain rfl rfl (by first | (simp_all [resV, Rg.c]; done) | (simp_all [resV, Rg.c]; omega) | (simp only [resV, Rg.c]; grind))
theorem ok_rCheck (hm : P.follows .mixedOrders = true) {f f0 f1 : Nat} (low : Low_potbankref03_Check P f f0 f1) (h0 : C_isWad P f0) (h1 : C_CheckList P f1) : C_Check P f := by
  intro w l
  refine snd_ic hm low (by simp) ?_
  unfold ic_potbankref03_Check
  simp -dsimp -implicitDefEqProofs only [qq, Nat.reduceBEq, reduceIte, Nat.reduceAdd, Nat.reduceSub, Nat.reduceLeDiff, Nat.reduceLT, Nat.reduceMul, Nat.reduceEqDiff, Int.reduceEq, Int.reduceBEq, Int.reduceBNe, Int.reduceLT, Int.reduceLE, Int.reduceGT, Int.reduceGE, Int.reduceNeg, Int.reduceAdd, Int.reduceSub, reduceCtorEq, List.reduceReplicate, ← List.map_take, ← List.map_drop]
  refine callI_pure (h0 w) rfl rfl ?_
  cases hw : rgB w 0 200 <;> simp -dsimp -implicitDefEqProofs only [qq, Nat.reduceBEq, reduceIte, Nat.reduceAdd, Nat.reduceSub, Nat.reduceLeDiff, Nat.reduceLT, Nat.reduceMul, Nat.reduceEqDiff, Int.reduceEq, Int.reduceBEq, Int.reduceBNe, Int.reduceLT, Int.reduceLE, Int.reduceGT, Int.reduceGE, Int.reduceNeg, Int.reduceAdd, Int.reduceSub, reduceCtorEq, List.reduceReplicate, ← List.map_take, ← List.map_drop]
  · exact Ends.plain rfl rfl (by simp [resV, bungB, hw])
  cases he : ((l.length : Int) == 0) <;> simp -dsimp -implicitDefEqProofs only [he, qq, Nat.reduceBEq, reduceIte, Nat.reduceAdd, Nat.reduceSub, Nat.reduceLeDiff, Nat.reduceLT, Nat.reduceMul, Nat.reduceEqDiff, Int.reduceEq, Int.reduceBEq, Int.reduceBNe, Int.reduceLT, Int.reduceLE, Int.reduceGT, Int.reduceGE, Int.reduceNeg, Int.reduceAdd, Int.reduceSub, reduceCtorEq, List.reduceReplicate, ← List.map_take, ← List.map_drop]
  · refine callI_pure (h1 l) rfl rfl ?_
    cases hl : listB l <;> simp -dsimp -implicitDefEqProofs only [qq, Nat.reduceBEq, reduceIte, Nat.reduceAdd, Nat.reduceSub, Nat.reduceLeDiff, Nat.reduceLT, Nat.reduceMul, Nat.reduceEqDiff, Int.reduceEq, Int.reduceBEq, Int.reduceBNe, Int.reduceLT, Int.reduceLE, Int.reduceGT, Int.reduceGE, Int.reduceNeg, Int.reduceAdd, Int.reduceSub, reduceCtorEq, List.reduceReplicate, ← List.map_take, ← List.map_drop]
    · exact Ends.plain rfl rfl (by simp [resV, bungB, hl])
    · have : 0 < l.length := by simp at he; exact List.length_pos_iff.2 he
      exact Ends.plain rfl rfl (by simp [resV, bungB, hl, hw, this])
  · have : l.length = 0 := by simp at he; simp [he]
    exact Ends.plain rfl rfl (by simp [resV, bungB, this])
theorem ok_rCheckSpot (hm : P.follows .mixedOrders = true) {f f0 : Nat} (low : Low_potbankref03_CheckSpot P f f0) (h0 : C_within P f0) : C_CheckSpot P f := by
  intro s
  refine snd_ic hm low (by simp) ?_
  unfold ic_potbankref03_CheckSpot
  simp -dsimp -implicitDefEqProofs only [qq, Nat.reduceBEq, reduceIte, Nat.reduceAdd, Nat.reduceSub, Nat.reduceLeDiff, Nat.reduceLT, Nat.reduceMul, Nat.reduceEqDiff, Int.reduceEq, Int.reduceBEq, Int.reduceBNe, Int.reduceLT, Int.reduceLE, Int.reduceGT, Int.reduceGE, Int.reduceNeg, Int.reduceAdd, Int.reduceSub, reduceCtorEq, List.reduceReplicate, ← List.map_take, ← List.map_drop]
  repeat' (first | (refine brG_of (fun h => ?_) (fun h => ?_) <;> simp -dsimp -implicitDefEqProofs only [h, qq, Nat.reduceBEq, reduceIte, Nat.reduceAdd, Nat.reduceSub, Nat.reduceLeDiff, Nat.reduceLT, Nat.reduceMul, Nat.reduceEqDiff, Int.reduceEq, Int.reduceBEq, Int.reduceBNe, Int.reduceLT, Int.reduceLE, Int.reduceGT, Int.reduceGE, Int.reduceNeg, Int.reduceAdd, Int.reduceSub, reduceCtorEq, List.reduceReplicate, ← List.map_take, ← List.map_drop]) | (refine callI_pure (h0 _ _ _) rfl rfl ?_; simp -dsimp -implicitDefEqProofs only [qq, Nat.reduceBEq, reduceIte, Nat.reduceAdd, Nat.reduceSub, Nat.reduceLeDiff, Nat.reduceLT, Nat.reduceMul, Nat.reduceEqDiff, Int.reduceEq, Int.reduceBEq, Int.reduceBNe, Int.reduceLT, Int.reduceLE, Int.reduceGT, Int.reduceGE, Int.reduceNeg, Int.reduceAdd, Int.reduceSub, reduceCtorEq, List.reduceReplicate, ← List.map_take, ← List.map_drop]))
  all_goals exact Ends.plain rfl rfl (by first | (simp_all [resV, spotB]; done) | (simp_all [resV, spotB]; omega) | (simp only [resV, spotB]; grind))

def C_rload (P : Program) (f : Nat) : Prop := ∀ (l : List Sag) (c : Nat), listB l = true → c < l.length → Snd P f [.fsl (l.map Sag.c), .i .i64 c] [] (.agg (wOf (l.drop (c + 1))).c) []
theorem ok_rload (hm : P.follows .mixedOrders = true) {f : Nat} (low : Low_potbankref03_load P f) : C_rload P f := by
  intro l c hv hc
  have hlen := list_len hv
  refine snd_ic hm low (by simp) ?_
  unfold ic_potbankref03_load
  simp -dsimp -implicitDefEqProofs only [qq, Nat.reduceBEq, reduceIte, Nat.reduceAdd, Nat.reduceSub, Nat.reduceLeDiff, Nat.reduceLT, Nat.reduceMul, Nat.reduceEqDiff, Int.reduceEq, Int.reduceBEq, Int.reduceBNe, Int.reduceLT, Int.reduceLE, Int.reduceGT, Int.reduceGE, Int.reduceNeg, Int.reduceAdd, Int.reduceSub, reduceCtorEq, List.reduceReplicate, ← List.map_take, ← List.map_drop]
  refine loopI_st (fun j : Nat => l.length - j) (fun j E H => c + 1 ≤ j ∧ j ≤ l.length ∧ E = [(0, .fsl (l.map Sag.c)), (4, .rpt 0 2 0 0), (5, .rpt 1 2 0 0), (6, .i .i64 j)] ∧ H = [.row 2 [[.i .i64 0, .i .i64 0]], .row 2 [(wOf ((l.drop (c + 1)).take (j - (c + 1)))).c]]) (c + 1) ⟨by omega, by omega, by rw [wrap_succ (by omega)], by simp [wOf, sumR]⟩ ?_
  rintro j _ _ ⟨hj, hjl, rfl, rfl⟩
  simp -dsimp -implicitDefEqProofs only [qq, Nat.reduceBEq, reduceIte, Nat.reduceAdd, Nat.reduceSub, Nat.reduceLeDiff, Nat.reduceLT, Nat.reduceMul, Nat.reduceEqDiff, Int.reduceEq, Int.reduceBEq, Int.reduceBNe, Int.reduceLT, Int.reduceLE, Int.reduceGT, Int.reduceGE, Int.reduceNeg, Int.reduceAdd, Int.reduceSub, reduceCtorEq, List.reduceReplicate, ← List.map_take, ← List.map_drop]
  refine brG_of (fun hlt => ?_) (fun hge => ?_)
  · have hkl : j < l.length := by simp at hlt; omega
    obtain ⟨x, hx, hxm, _, _⟩ := next_of hkl
    have hwk : IntKind.i64.wrap ((j : Int) + 1) = ((j + 1 : Nat) : Int) := wrap_succ (by omega)
    have htk : (l.drop (c + 1)).take (j + 1 - (c + 1)) = (l.drop (c + 1)).take (j - (c + 1)) ++ [x] := by rw [show j + 1 - (c + 1) = j - (c + 1) + 1 by omega, List.take_add_one, List.getElem?_drop, show c + 1 + (j - (c + 1)) = j by omega, hx]; rfl
    have h1 := w_le hv (m := (l.drop (c + 1)).take (j - (c + 1))) (fun s hs => List.mem_of_mem_drop (List.mem_of_mem_take hs)) (by rw [List.length_take, List.length_drop]; omega)
    have h2 := w_le hv (m := [x]) (by simpa using hxm) (by simp)
    rw [wOf_one] at h2
    simp only [Rg.le] at h1 h2
    have hs : wOf ((l.drop (c + 1)).take (j + 1 - (c + 1))) = ⟨(wOf ((l.drop (c + 1)).take (j - (c + 1)))).lo + x.w.lo, (wOf ((l.drop (c + 1)).take (j - (c + 1)))).hi + x.w.hi⟩ := by rw [htk]; simp [wOf, sumR]
    have w1 := wrap_id (n := (wOf ((l.drop (c + 1)).take (j - (c + 1)))).lo + x.w.lo) (by omega) (by omega)
    have w2 := wrap_id (n := (wOf ((l.drop (c + 1)).take (j - (c + 1)))).hi + x.w.hi) (by omega) (by omega)
    simp -dsimp -implicitDefEqProofs only [hx, Sag.c, Rg.c, w1, w2, hwk, qq, Nat.reduceBEq, reduceIte, Nat.reduceAdd, Nat.reduceSub, Nat.reduceLeDiff, Nat.reduceLT, Nat.reduceMul, Nat.reduceEqDiff, Int.reduceEq, Int.reduceBEq, Int.reduceBNe, Int.reduceLT, Int.reduceLE, Int.reduceGT, Int.reduceGE, Int.reduceNeg, Int.reduceAdd, Int.reduceSub, reduceCtorEq, List.reduceReplicate, ← List.map_take, ← List.map_drop]
    refine ⟨j + 1, by omega, by omega, by omega, rfl, ?_⟩
    rw [hs]
  · obtain rfl : j = l.length := by simp at hge; omega
    have ht : (l.drop (c + 1)).take (l.length - (c + 1)) = l.drop (c + 1) := List.take_of_length_le (by simp)
    rw [ht]
    simp -dsimp -implicitDefEqProofs only [Rg.c, qq, Nat.reduceBEq, reduceIte, Nat.reduceAdd, Nat.reduceSub, Nat.reduceLeDiff, Nat.reduceLT, Nat.reduceMul, Nat.reduceEqDiff, Int.reduceEq, Int.reduceBEq, Int.reduceBNe, Int.reduceLT, Int.reduceLE, Int.reduceGT, Int.reduceGE, Int.reduceNeg, Int.reduceAdd, Int.reduceSub, reduceCtorEq, List.reduceReplicate, ← List.map_take, ← List.map_drop]
    exact Ends.plain rfl rfl rfl

theorem coursesS_at {l : List Sag} {k : Nat} {x : Sag} (h : l[k]? = some x) : (coursesS l)[k]? = some (answerS (wOf (l.drop (k + 1))) x.b) := by
  induction l generalizing k with
  | nil => simp at h
  | cons s r ih =>
    cases k with
    | zero => simp at h; subst h; simp [coursesS]
    | succ k => simpa [coursesS] using ih (by simpa using h)
theorem loadsS_at {l : List Sag} {k : Nat} (h : k < l.length) : (loadsS l)[k]? = some (wOf (l.drop (k + 1))) := by
  induction l generalizing k with
  | nil => simp at h
  | cons s r ih =>
    cases k with
    | zero => simp [loadsS]
    | succ k => simpa [loadsS] using ih (by simpa using h)

def C_ranswer (P : Program) (f : Nat) : Prop := ∀ (l : List Sag) (c : Nat) (x : Sag), listB l = true → l[c]? = some x → Snd P f [.fsl (l.map Sag.c), .i .i64 c] [] (.i .i64 (answerS (wOf (l.drop (c + 1))) x.b)) []
theorem ok_ranswer (hm : P.follows .mixedOrders = true) {f f0 : Nat} (low : Low_potbankref03_answer P f f0) (h0 : C_rload P f0) : C_ranswer P f := by
  intro l c x hv hx
  refine snd_ic hm low (by simp) ?_
  unfold ic_potbankref03_answer
  simp -dsimp -implicitDefEqProofs only [qq, Nat.reduceBEq, reduceIte, Nat.reduceAdd, Nat.reduceSub, Nat.reduceLeDiff, Nat.reduceLT, Nat.reduceMul, Nat.reduceEqDiff, Int.reduceEq, Int.reduceBEq, Int.reduceBNe, Int.reduceLT, Int.reduceLE, Int.reduceGT, Int.reduceGE, Int.reduceNeg, Int.reduceAdd, Int.reduceSub, reduceCtorEq, List.reduceReplicate, ← List.map_take, ← List.map_drop]
  refine callI_pure (h0 l c hv (get_lt hx)) rfl rfl ?_
  simp -dsimp -implicitDefEqProofs only [hx, Sag.c, Rg.c, qq, Nat.reduceBEq, reduceIte, Nat.reduceAdd, Nat.reduceSub, Nat.reduceLeDiff, Nat.reduceLT, Nat.reduceMul, Nat.reduceEqDiff, Int.reduceEq, Int.reduceBEq, Int.reduceBNe, Int.reduceLT, Int.reduceLE, Int.reduceGT, Int.reduceGE, Int.reduceNeg, Int.reduceAdd, Int.reduceSub, reduceCtorEq, List.reduceReplicate, ← List.map_take, ← List.map_drop]
  refine brG_of (fun h => ?_) (fun h => ?_) <;> simp -dsimp -implicitDefEqProofs only [h, hx, Sag.c, Rg.c, qq, Nat.reduceBEq, reduceIte, Nat.reduceAdd, Nat.reduceSub, Nat.reduceLeDiff, Nat.reduceLT, Nat.reduceMul, Nat.reduceEqDiff, Int.reduceEq, Int.reduceBEq, Int.reduceBNe, Int.reduceLT, Int.reduceLE, Int.reduceGT, Int.reduceGE, Int.reduceNeg, Int.reduceAdd, Int.reduceSub, reduceCtorEq, List.reduceReplicate, ← List.map_take, ← List.map_drop]
  · exact Ends.plain rfl rfl (by simp at h; simp [resV, answerS, h])
  refine brG_of (fun h2 => ?_) (fun h2 => ?_) <;> simp -dsimp -implicitDefEqProofs only [h2, qq, Nat.reduceBEq, reduceIte, Nat.reduceAdd, Nat.reduceSub, Nat.reduceLeDiff, Nat.reduceLT, Nat.reduceMul, Nat.reduceEqDiff, Int.reduceEq, Int.reduceBEq, Int.reduceBNe, Int.reduceLT, Int.reduceLE, Int.reduceGT, Int.reduceGE, Int.reduceNeg, Int.reduceAdd, Int.reduceSub, reduceCtorEq, List.reduceReplicate, ← List.map_take, ← List.map_drop]
  · exact Ends.plain rfl rfl (by simp at h h2; simp [resV, answerS]; rw [if_neg (by omega), if_pos h2])
  · exact Ends.plain rfl rfl (by simp at h h2; simp [resV, answerS]; rw [if_neg (by omega), if_neg (by omega)])

def C_rstands (P : Program) (f : Nat) : Prop := ∀ (l : List Sag), listB l = true → Snd P f [.fsl (l.map Sag.c)] [] (.i .i64 (standsS l)) []
theorem ok_rstands (hm : P.follows .mixedOrders = true) {f f0 : Nat} (low : Low_potbankref03_stands P f f0) (h0 : C_ranswer P f0) : C_rstands P f := by
  intro l hv
  have hlen := list_len hv
  refine snd_ic hm low (by simp) ?_
  unfold ic_potbankref03_stands
  simp -dsimp -implicitDefEqProofs only [qq, Nat.reduceBEq, reduceIte, Nat.reduceAdd, Nat.reduceSub, Nat.reduceLeDiff, Nat.reduceLT, Nat.reduceMul, Nat.reduceEqDiff, Int.reduceEq, Int.reduceBEq, Int.reduceBNe, Int.reduceLT, Int.reduceLE, Int.reduceGT, Int.reduceGE, Int.reduceNeg, Int.reduceAdd, Int.reduceSub, reduceCtorEq, List.reduceReplicate, ← List.map_take, ← List.map_drop]
  refine loopI_st (fun k : Nat => l.length - k) (fun k E H => k ≤ l.length ∧ E = [(0, .fsl (l.map Sag.c)), (3, .i .i64 (if 2 ∈ (coursesS l).take k then 2 else 1)), (4, .i .i64 k)] ∧ (0 ∉ (coursesS l).take k)) 0 ⟨by omega, by simp, by simp⟩ ?_
  rintro k _ H ⟨hk, rfl, hn⟩
  simp -dsimp -implicitDefEqProofs only [qq, Nat.reduceBEq, reduceIte, Nat.reduceAdd, Nat.reduceSub, Nat.reduceLeDiff, Nat.reduceLT, Nat.reduceMul, Nat.reduceEqDiff, Int.reduceEq, Int.reduceBEq, Int.reduceBNe, Int.reduceLT, Int.reduceLE, Int.reduceGT, Int.reduceGE, Int.reduceNeg, Int.reduceAdd, Int.reduceSub, reduceCtorEq, List.reduceReplicate, ← List.map_take, ← List.map_drop]
  refine brG_of (fun hlt => ?_) (fun hge => ?_)
  · have hkl : k < l.length := by simpa using hlt
    obtain ⟨x, hx, hxm, htk, _⟩ := next_of hkl
    have hwk : IntKind.i64.wrap ((k : Int) + 1) = ((k + 1 : Nat) : Int) := wrap_succ (by omega)
    have hc := coursesS_at hx
    have htc : (coursesS l).take (k + 1) = (coursesS l).take k ++ [answerS (wOf (l.drop (k + 1))) x.b] := by rw [List.take_add_one, hc]; rfl
    simp -dsimp -implicitDefEqProofs only [qq, Nat.reduceBEq, reduceIte, Nat.reduceAdd, Nat.reduceSub, Nat.reduceLeDiff, Nat.reduceLT, Nat.reduceMul, Nat.reduceEqDiff, Int.reduceEq, Int.reduceBEq, Int.reduceBNe, Int.reduceLT, Int.reduceLE, Int.reduceGT, Int.reduceGE, Int.reduceNeg, Int.reduceAdd, Int.reduceSub, reduceCtorEq, List.reduceReplicate, ← List.map_take, ← List.map_drop]
    refine callI_pure (h0 l k x hv hx) rfl rfl ?_
    simp -dsimp -implicitDefEqProofs only [qq, Nat.reduceBEq, reduceIte, Nat.reduceAdd, Nat.reduceSub, Nat.reduceLeDiff, Nat.reduceLT, Nat.reduceMul, Nat.reduceEqDiff, Int.reduceEq, Int.reduceBEq, Int.reduceBNe, Int.reduceLT, Int.reduceLE, Int.reduceGT, Int.reduceGE, Int.reduceNeg, Int.reduceAdd, Int.reduceSub, reduceCtorEq, List.reduceReplicate, ← List.map_take, ← List.map_drop]
    refine brG_of (fun h => ?_) (fun h => ?_) <;> simp -dsimp -implicitDefEqProofs only [qq, Nat.reduceBEq, reduceIte, Nat.reduceAdd, Nat.reduceSub, Nat.reduceLeDiff, Nat.reduceLT, Nat.reduceMul, Nat.reduceEqDiff, Int.reduceEq, Int.reduceBEq, Int.reduceBNe, Int.reduceLT, Int.reduceLE, Int.reduceGT, Int.reduceGE, Int.reduceNeg, Int.reduceAdd, Int.reduceSub, reduceCtorEq, List.reduceReplicate, ← List.map_take, ← List.map_drop]
    · refine Ends.plain rfl rfl ?_
      simp at h
      have : 0 ∈ coursesS l := by rw [← h]; exact List.mem_of_getElem? hc
      simp [resV, standsS, allS, this]
    · simp at h
      refine brG_of (fun h2 => ?_) (fun h2 => ?_) <;> simp -dsimp -implicitDefEqProofs only [hwk, qq, Nat.reduceBEq, reduceIte, Nat.reduceAdd, Nat.reduceSub, Nat.reduceLeDiff, Nat.reduceLT, Nat.reduceMul, Nat.reduceEqDiff, Int.reduceEq, Int.reduceBEq, Int.reduceBNe, Int.reduceLT, Int.reduceLE, Int.reduceGT, Int.reduceGE, Int.reduceNeg, Int.reduceAdd, Int.reduceSub, reduceCtorEq, List.reduceReplicate, ← List.map_take, ← List.map_drop]
      · simp at h2
        refine ⟨k + 1, by omega, by omega, ?_, ?_⟩
        · rw [htc, h2, if_pos (by simp)]
        · rw [htc]; simp; exact ⟨hn, fun e => h e.symm⟩
      · simp at h2
        refine ⟨k + 1, by omega, by omega, ?_, ?_⟩
        · have e : (2 ∈ (coursesS l).take (k + 1)) ↔ 2 ∈ (coursesS l).take k := by rw [htc]; simp; exact fun e => absurd e.symm h2
          simp only [e]
        · rw [htc]; simp; exact ⟨hn, fun e => h e.symm⟩
  · obtain rfl : k = l.length := by simp at hge; omega
    simp -dsimp -implicitDefEqProofs only [qq, Nat.reduceBEq, reduceIte, Nat.reduceAdd, Nat.reduceSub, Nat.reduceLeDiff, Nat.reduceLT, Nat.reduceMul, Nat.reduceEqDiff, Int.reduceEq, Int.reduceBEq, Int.reduceBNe, Int.reduceLT, Int.reduceLE, Int.reduceGT, Int.reduceGE, Int.reduceNeg, Int.reduceAdd, Int.reduceSub, reduceCtorEq, List.reduceReplicate, ← List.map_take, ← List.map_drop]
    refine Ends.plain rfl rfl ?_
    rw [List.take_of_length_le (by rw [coursesS_length]; omega)] at *
    simp [resV, standsS, allS, hn]
end Go.Sh.C3
end
section
namespace Go.Sh.C3
open Go.Sh
set_option maxRecDepth 10000
set_option linter.unusedVariables false
set_option linter.unusedSimpArgs false
variable {P : Program}

theorem floor_div {n d : Int} (hd : 0 < d) : n / d = if n.tmod d < 0 then n.tdiv d - 1 else n.tdiv d := by
  have h1 := Int.mul_tdiv_add_tmod n d
  have h2 := Int.tmod_lt_of_pos n hd
  have h3 : -d < n.tmod d := by
    have := Int.tmod_lt_of_pos (-n) hd
    rw [Int.neg_tmod] at this
    omega
  split
  · have := (Int.ediv_emod_unique (a := n) (b := d) (r := n.tmod d + d) (q := n.tdiv d - 1) hd).2 ⟨by rw [Int.mul_sub]; omega, by omega, by omega⟩
    exact this.1
  · have := (Int.ediv_emod_unique (a := n) (b := d) (r := n.tmod d) (q := n.tdiv d) hd).2 ⟨by omega, by omega, by omega⟩
    exact this.1

def C_Down (P : Program) (f : Nat) : Prop := ∀ n d : Int, 0 < d → -4611686018427387904 ≤ n → n ≤ 4611686018427387904 → Snd P f [.i .i64 n, .i .i64 d] [] (.i .i64 (n / d)) []
theorem ok_Down (hm : P.follows .mixedOrders = true) {f : Nat} (low : Low_potbankref01_Down P f) : C_Down P f := by
  intro n d hd h1 h2
  have hd0 : ¬ d = 0 := by omega
  have hb : -4611686018427387904 ≤ n.tdiv d ∧ n.tdiv d ≤ 4611686018427387904 := by
    have h := Int.natAbs_tdiv_le_natAbs n d
    omega
  have w1 : IntKind.i64.wrap (n.tdiv d) = n.tdiv d := wrap_id (by omega) (by omega)
  have w2 : IntKind.i64.wrap (n.tdiv d - 1) = n.tdiv d - 1 := wrap_id (by omega) (by omega)
  refine snd_ic hm low (by simp) ?_
  unfold ic_potbankref01_Down
  simp -dsimp -implicitDefEqProofs only [qq, Nat.reduceBEq, reduceIte, Nat.reduceAdd, Nat.reduceSub, Nat.reduceLeDiff, Nat.reduceLT, Nat.reduceMul, Nat.reduceEqDiff, Int.reduceEq, Int.reduceBEq, Int.reduceBNe, Int.reduceLT, Int.reduceLE, Int.reduceGT, Int.reduceGE, Int.reduceNeg, Int.reduceAdd, Int.reduceSub, reduceCtorEq, List.reduceReplicate, ← List.map_take, ← List.map_drop]
  simp -dsimp -implicitDefEqProofs only [if_neg hd0, w1, qq, Nat.reduceBEq, reduceIte, Nat.reduceAdd, Nat.reduceSub, Nat.reduceLeDiff, Nat.reduceLT, Nat.reduceMul, Nat.reduceEqDiff, Int.reduceEq, Int.reduceBEq, Int.reduceBNe, Int.reduceLT, Int.reduceLE, Int.reduceGT, Int.reduceGE, Int.reduceNeg, Int.reduceAdd, Int.reduceSub, reduceCtorEq, List.reduceReplicate, ← List.map_take, ← List.map_drop]
  refine brG_of (fun h => ?_) (fun h => ?_) <;> simp -dsimp -implicitDefEqProofs only [w2, qq, Nat.reduceBEq, reduceIte, Nat.reduceAdd, Nat.reduceSub, Nat.reduceLeDiff, Nat.reduceLT, Nat.reduceMul, Nat.reduceEqDiff, Int.reduceEq, Int.reduceBEq, Int.reduceBNe, Int.reduceLT, Int.reduceLE, Int.reduceGT, Int.reduceGE, Int.reduceNeg, Int.reduceAdd, Int.reduceSub, reduceCtorEq, List.reduceReplicate, ← List.map_take, ← List.map_drop]
  · simp at h
    exact Ends.plain rfl rfl (by simp only [resV]; rw [floor_div hd, if_pos h])
  · simp at h
    exact Ends.plain rfl rfl (by simp only [resV]; rw [floor_div hd, if_neg (by omega)])

def C_Up (P : Program) (f : Nat) : Prop := ∀ n d : Int, 0 < d → -4611686018427387904 ≤ n → n ≤ 4611686018427387904 → Snd P f [.i .i64 n, .i .i64 d] [] (.i .i64 (-((-n) / d))) []
theorem ok_Up (hm : P.follows .mixedOrders = true) {f f0 : Nat} (low : Low_potbankref01_Up P f f0) (h0 : C_Down P f0) : C_Up P f := by
  intro n d hd h1 h2
  have w1 : IntKind.i64.wrap (0 - n) = -n := by rw [wrap_id (by omega) (by omega)]; omega
  have hb : -4611686018427387904 ≤ (-n) / d ∧ (-n) / d ≤ 4611686018427387904 := by
    have h := Int.natAbs_ediv_le_natAbs (-n) d
    omega
  have w2 : IntKind.i64.wrap (0 - (-n) / d) = -((-n) / d) := by rw [wrap_id (by omega) (by omega)]; omega
  refine snd_ic hm low (by simp) ?_
  unfold ic_potbankref01_Up
  simp -dsimp -implicitDefEqProofs only [qq, Nat.reduceBEq, reduceIte, Nat.reduceAdd, Nat.reduceSub, Nat.reduceLeDiff, Nat.reduceLT, Nat.reduceMul, Nat.reduceEqDiff, Int.reduceEq, Int.reduceBEq, Int.reduceBNe, Int.reduceLT, Int.reduceLE, Int.reduceGT, Int.reduceGE, Int.reduceNeg, Int.reduceAdd, Int.reduceSub, reduceCtorEq, List.reduceReplicate, ← List.map_take, ← List.map_drop]
  simp -dsimp -implicitDefEqProofs only [w1, qq, Nat.reduceBEq, reduceIte, Nat.reduceAdd, Nat.reduceSub, Nat.reduceLeDiff, Nat.reduceLT, Nat.reduceMul, Nat.reduceEqDiff, Int.reduceEq, Int.reduceBEq, Int.reduceBNe, Int.reduceLT, Int.reduceLE, Int.reduceGT, Int.reduceGE, Int.reduceNeg, Int.reduceAdd, Int.reduceSub, reduceCtorEq, List.reduceReplicate, ← List.map_take, ← List.map_drop]
  refine callI_pure (h0 (-n) d hd (by omega) (by omega)) rfl rfl ?_
  simp -dsimp -implicitDefEqProofs only [w2, qq, Nat.reduceBEq, reduceIte, Nat.reduceAdd, Nat.reduceSub, Nat.reduceLeDiff, Nat.reduceLT, Nat.reduceMul, Nat.reduceEqDiff, Int.reduceEq, Int.reduceBEq, Int.reduceBNe, Int.reduceLT, Int.reduceLE, Int.reduceGT, Int.reduceGE, Int.reduceNeg, Int.reduceAdd, Int.reduceSub, reduceCtorEq, List.reduceReplicate, ← List.map_take, ← List.map_drop]
  exact Ends.plain rfl rfl rfl

theorem ok_rLoads (hm : P.follows .mixedOrders = true) {f f0 f1 : Nat} (low : Low_potbankref03_Loads P f f0 f1) (h0 : C_Check P f0) (h1 : C_rload P f1) : C_Loads P f := by
  intro w l
  refine snd_ic hm low (by simp) ?_
  unfold ic_potbankref03_Loads
  simp -dsimp -implicitDefEqProofs only [qq, Nat.reduceBEq, reduceIte, Nat.reduceAdd, Nat.reduceSub, Nat.reduceLeDiff, Nat.reduceLT, Nat.reduceMul, Nat.reduceEqDiff, Int.reduceEq, Int.reduceBEq, Int.reduceBNe, Int.reduceLT, Int.reduceLE, Int.reduceGT, Int.reduceGE, Int.reduceNeg, Int.reduceAdd, Int.reduceSub, reduceCtorEq, List.reduceReplicate, ← List.map_take, ← List.map_drop]
  refine callI_pure (h0 w l) rfl rfl ?_
  cases hb : bungB w l <;> simp -dsimp -implicitDefEqProofs only [qq, Nat.reduceBEq, reduceIte, Nat.reduceAdd, Nat.reduceSub, Nat.reduceLeDiff, Nat.reduceLT, Nat.reduceMul, Nat.reduceEqDiff, Int.reduceEq, Int.reduceBEq, Int.reduceBNe, Int.reduceLT, Int.reduceLE, Int.reduceGT, Int.reduceGE, Int.reduceNeg, Int.reduceAdd, Int.reduceSub, reduceCtorEq, List.reduceReplicate, ← List.map_take, ← List.map_drop]
  · exact Ends.ret rfl (frz2 .nil (.keep _ rfl))
  have hv := bung_list hb
  have hlen := list_len hv
  refine loopI_st (fun k : Nat => l.length - k) (fun k E H => k ≤ l.length ∧ 1 ≤ H.length ∧ H[0]? = some (.row 3 [bungC w l]) ∧ ∃ v, E = [(1, .rpt 0 3 0 0), (4, v), (5, .i .i64 k)] ∧ OwnF 1 H 2 (((loadsS l).take k).map Rg.c) v) 0 ⟨by omega, by simp, rfl, _, rfl, .nil _ _ _⟩ ?_
  rintro k _ H ⟨hk, hH, g0, v, rfl, ho⟩
  simp -dsimp -implicitDefEqProofs only [g0, qq, Nat.reduceBEq, reduceIte, Nat.reduceAdd, Nat.reduceSub, Nat.reduceLeDiff, Nat.reduceLT, Nat.reduceMul, Nat.reduceEqDiff, Int.reduceEq, Int.reduceBEq, Int.reduceBNe, Int.reduceLT, Int.reduceLE, Int.reduceGT, Int.reduceGE, Int.reduceNeg, Int.reduceAdd, Int.reduceSub, reduceCtorEq, List.reduceReplicate, ← List.map_take, ← List.map_drop]
  refine brG_of (fun hlt => ?_) (fun hge => ?_)
  · have hkl : k < l.length := by simpa using hlt
    have hwk : IntKind.i64.wrap ((k : Int) + 1) = ((k + 1 : Nat) : Int) := wrap_succ (by omega)
    simp -dsimp -implicitDefEqProofs only [g0, qq, Nat.reduceBEq, reduceIte, Nat.reduceAdd, Nat.reduceSub, Nat.reduceLeDiff, Nat.reduceLT, Nat.reduceMul, Nat.reduceEqDiff, Int.reduceEq, Int.reduceBEq, Int.reduceBNe, Int.reduceLT, Int.reduceLE, Int.reduceGT, Int.reduceGE, Int.reduceNeg, Int.reduceAdd, Int.reduceSub, reduceCtorEq, List.reduceReplicate, ← List.map_take, ← List.map_drop]
    refine callI_pure (h1 l k hv hkl) rfl rfl ?_
    simp -dsimp -implicitDefEqProofs only [Rg.c, qq, Nat.reduceBEq, reduceIte, Nat.reduceAdd, Nat.reduceSub, Nat.reduceLeDiff, Nat.reduceLT, Nat.reduceMul, Nat.reduceEqDiff, Int.reduceEq, Int.reduceBEq, Int.reduceBNe, Int.reduceLT, Int.reduceLE, Int.reduceGT, Int.reduceGE, Int.reduceNeg, Int.reduceAdd, Int.reduceSub, reduceCtorEq, List.reduceReplicate, ← List.map_take, ← List.map_drop]
    refine app_ownF (ys := [(wOf (l.drop (k + 1))).c]) ho (by omega) (by decide) (by decide) (by simp [Sh.shown, gapp]) (by simp [V.one]) (by simp only [List.length_map, List.length_take, List.length_cons, List.length_nil]; omega) fun v' H' ho' hH' hk' => ?_
    simp -dsimp -implicitDefEqProofs only [hwk, qq, Nat.reduceBEq, reduceIte, Nat.reduceAdd, Nat.reduceSub, Nat.reduceLeDiff, Nat.reduceLT, Nat.reduceMul, Nat.reduceEqDiff, Int.reduceEq, Int.reduceBEq, Int.reduceBNe, Int.reduceLT, Int.reduceLE, Int.reduceGT, Int.reduceGE, Int.reduceNeg, Int.reduceAdd, Int.reduceSub, reduceCtorEq, List.reduceReplicate, ← List.map_take, ← List.map_drop]
    refine ⟨k + 1, by omega, by omega, by simp at hH'; omega, hk' 0 _ (.inl (by omega)) (get_app g0 _), v', rfl, ?_⟩
    rw [List.take_add_one, loadsS_at hkl]
    simpa using ho'
  · obtain rfl : k = l.length := by simp at hge; omega
    simp -dsimp -implicitDefEqProofs only [qq, Nat.reduceBEq, reduceIte, Nat.reduceAdd, Nat.reduceSub, Nat.reduceLeDiff, Nat.reduceLT, Nat.reduceMul, Nat.reduceEqDiff, Int.reduceEq, Int.reduceBEq, Int.reduceBNe, Int.reduceLT, Int.reduceLE, Int.reduceGT, Int.reduceGE, Int.reduceNeg, Int.reduceAdd, Int.reduceSub, reduceCtorEq, List.reduceReplicate, ← List.map_take, ← List.map_drop]
    refine Ends.ret rfl (frz2 ?_ (.keep _ rfl))
    have := ho.own.frz (by intro row hr; obtain ⟨n, _, rfl⟩ := List.mem_map.1 hr; rfl)
    rwa [List.take_of_length_le (by rw [loadsS_length]; omega)] at this

theorem ok_rCourses (hm : P.follows .mixedOrders = true) {f f0 f1 : Nat} (low : Low_potbankref03_Courses P f f0 f1) (h0 : C_Check P f0) (h1 : C_ranswer P f1) : C_Courses P f := by
  intro w l
  refine snd_ic hm low (by simp) ?_
  unfold ic_potbankref03_Courses
  simp -dsimp -implicitDefEqProofs only [qq, Nat.reduceBEq, reduceIte, Nat.reduceAdd, Nat.reduceSub, Nat.reduceLeDiff, Nat.reduceLT, Nat.reduceMul, Nat.reduceEqDiff, Int.reduceEq, Int.reduceBEq, Int.reduceBNe, Int.reduceLT, Int.reduceLE, Int.reduceGT, Int.reduceGE, Int.reduceNeg, Int.reduceAdd, Int.reduceSub, reduceCtorEq, List.reduceReplicate, ← List.map_take, ← List.map_drop]
  refine callI_pure (h0 w l) rfl rfl ?_
  cases hb : bungB w l <;> simp -dsimp -implicitDefEqProofs only [qq, Nat.reduceBEq, reduceIte, Nat.reduceAdd, Nat.reduceSub, Nat.reduceLeDiff, Nat.reduceLT, Nat.reduceMul, Nat.reduceEqDiff, Int.reduceEq, Int.reduceBEq, Int.reduceBNe, Int.reduceLT, Int.reduceLE, Int.reduceGT, Int.reduceGE, Int.reduceNeg, Int.reduceAdd, Int.reduceSub, reduceCtorEq, List.reduceReplicate, ← List.map_take, ← List.map_drop]
  · exact Ends.ret rfl (frz2 .nil (.keep _ rfl))
  have hv := bung_list hb
  have hlen := list_len hv
  refine loopI_st (fun k : Nat => l.length - k) (fun k E H => k ≤ l.length ∧ 1 ≤ H.length ∧ H[0]? = some (.row 3 [bungC w l]) ∧ ∃ v, E = [(1, .rpt 0 3 0 0), (4, v), (5, .i .i64 k)] ∧ OwnF 1 H 1 (((coursesS l).take k).map intC) v) 0 ⟨by omega, by simp, rfl, _, rfl, .nil _ _ _⟩ ?_
  rintro k _ H ⟨hk, hH, g0, v, rfl, ho⟩
  simp -dsimp -implicitDefEqProofs only [g0, qq, Nat.reduceBEq, reduceIte, Nat.reduceAdd, Nat.reduceSub, Nat.reduceLeDiff, Nat.reduceLT, Nat.reduceMul, Nat.reduceEqDiff, Int.reduceEq, Int.reduceBEq, Int.reduceBNe, Int.reduceLT, Int.reduceLE, Int.reduceGT, Int.reduceGE, Int.reduceNeg, Int.reduceAdd, Int.reduceSub, reduceCtorEq, List.reduceReplicate, ← List.map_take, ← List.map_drop]
  refine brG_of (fun hlt => ?_) (fun hge => ?_)
  · have hkl : k < l.length := by simpa using hlt
    obtain ⟨x, hx, hxm, htk, _⟩ := next_of hkl
    have hwk : IntKind.i64.wrap ((k : Int) + 1) = ((k + 1 : Nat) : Int) := wrap_succ (by omega)
    simp -dsimp -implicitDefEqProofs only [g0, qq, Nat.reduceBEq, reduceIte, Nat.reduceAdd, Nat.reduceSub, Nat.reduceLeDiff, Nat.reduceLT, Nat.reduceMul, Nat.reduceEqDiff, Int.reduceEq, Int.reduceBEq, Int.reduceBNe, Int.reduceLT, Int.reduceLE, Int.reduceGT, Int.reduceGE, Int.reduceNeg, Int.reduceAdd, Int.reduceSub, reduceCtorEq, List.reduceReplicate, ← List.map_take, ← List.map_drop]
    refine callI_pure (h1 l k x hv hx) rfl rfl ?_
    simp -dsimp -implicitDefEqProofs only [qq, Nat.reduceBEq, reduceIte, Nat.reduceAdd, Nat.reduceSub, Nat.reduceLeDiff, Nat.reduceLT, Nat.reduceMul, Nat.reduceEqDiff, Int.reduceEq, Int.reduceBEq, Int.reduceBNe, Int.reduceLT, Int.reduceLE, Int.reduceGT, Int.reduceGE, Int.reduceNeg, Int.reduceAdd, Int.reduceSub, reduceCtorEq, List.reduceReplicate, ← List.map_take, ← List.map_drop]
    refine app_ownF (ys := [intC (answerS (wOf (l.drop (k + 1))) x.b)]) ho (by omega) (by decide) (by decide) (by simp [Sh.shown, gapp]) (by simp [V.one]) (by simp only [List.length_map, List.length_take, List.length_cons, List.length_nil]; omega) fun v' H' ho' hH' hk' => ?_
    simp -dsimp -implicitDefEqProofs only [hwk, qq, Nat.reduceBEq, reduceIte, Nat.reduceAdd, Nat.reduceSub, Nat.reduceLeDiff, Nat.reduceLT, Nat.reduceMul, Nat.reduceEqDiff, Int.reduceEq, Int.reduceBEq, Int.reduceBNe, Int.reduceLT, Int.reduceLE, Int.reduceGT, Int.reduceGE, Int.reduceNeg, Int.reduceAdd, Int.reduceSub, reduceCtorEq, List.reduceReplicate, ← List.map_take, ← List.map_drop]
    refine ⟨k + 1, by omega, by omega, by simp at hH'; omega, hk' 0 _ (.inl (by omega)) (get_app g0 _), v', rfl, ?_⟩
    rw [List.take_add_one, coursesS_at hx]
    simpa using ho'
  · obtain rfl : k = l.length := by simp at hge; omega
    simp -dsimp -implicitDefEqProofs only [qq, Nat.reduceBEq, reduceIte, Nat.reduceAdd, Nat.reduceSub, Nat.reduceLeDiff, Nat.reduceLT, Nat.reduceMul, Nat.reduceEqDiff, Int.reduceEq, Int.reduceBEq, Int.reduceBNe, Int.reduceLT, Int.reduceLE, Int.reduceGT, Int.reduceGE, Int.reduceNeg, Int.reduceAdd, Int.reduceSub, reduceCtorEq, List.reduceReplicate, ← List.map_take, ← List.map_drop]
    refine Ends.ret rfl (frz2 ?_ (.keep _ rfl))
    have := ho.own.frz (by intro row hr; obtain ⟨n, _, rfl⟩ := List.mem_map.1 hr; rfl)
    rwa [List.take_of_length_le (by rw [coursesS_length]; omega)] at this

theorem ok_rStands (hm : P.follows .mixedOrders = true) {f f0 f1 : Nat} (low : Low_potbankref03_Stands P f f0 f1) (h0 : C_Check P f0) (h1 : C_rstands P f1) : C_Stands P f := by
  intro w l
  refine snd_ic hm low (by simp) ?_
  unfold ic_potbankref03_Stands
  simp -dsimp -implicitDefEqProofs only [qq, Nat.reduceBEq, reduceIte, Nat.reduceAdd, Nat.reduceSub, Nat.reduceLeDiff, Nat.reduceLT, Nat.reduceMul, Nat.reduceEqDiff, Int.reduceEq, Int.reduceBEq, Int.reduceBNe, Int.reduceLT, Int.reduceLE, Int.reduceGT, Int.reduceGE, Int.reduceNeg, Int.reduceAdd, Int.reduceSub, reduceCtorEq, List.reduceReplicate, ← List.map_take, ← List.map_drop]
  refine callI_pure (h0 w l) rfl rfl ?_
  cases hb : bungB w l <;> simp -dsimp -implicitDefEqProofs only [qq, Nat.reduceBEq, reduceIte, Nat.reduceAdd, Nat.reduceSub, Nat.reduceLeDiff, Nat.reduceLT, Nat.reduceMul, Nat.reduceEqDiff, Int.reduceEq, Int.reduceBEq, Int.reduceBNe, Int.reduceLT, Int.reduceLE, Int.reduceGT, Int.reduceGE, Int.reduceNeg, Int.reduceAdd, Int.reduceSub, reduceCtorEq, List.reduceReplicate, ← List.map_take, ← List.map_drop]
  · exact Ends.ret rfl (frz_keep2 rfl rfl)
  · refine callI_pure (h1 l (bung_list hb)) rfl rfl ?_
    simp -dsimp -implicitDefEqProofs only [qq, Nat.reduceBEq, reduceIte, Nat.reduceAdd, Nat.reduceSub, Nat.reduceLeDiff, Nat.reduceLT, Nat.reduceMul, Nat.reduceEqDiff, Int.reduceEq, Int.reduceBEq, Int.reduceBNe, Int.reduceLT, Int.reduceLE, Int.reduceGT, Int.reduceGE, Int.reduceNeg, Int.reduceAdd, Int.reduceSub, reduceCtorEq, List.reduceReplicate, ← List.map_take, ← List.map_drop]
    exact Ends.ret rfl (frz_keep2 rfl rfl)
end Go.Sh.C3
end
section
namespace Go.Sh.C3
open Go.Sh
set_option maxRecDepth 10000
set_option linter.unusedVariables false
set_option linter.unusedSimpArgs false
variable {P : Program}

def hOf (l : List Sag) : Rg := sumR (l.map (·.h))
theorem hOf_snoc (l : List Sag) (x : Sag) : hOf (l ++ [x]) = ⟨(hOf l).lo + x.h.lo, (hOf l).hi + x.h.hi⟩ := by simp [hOf, sumR]
theorem heightS_eq (w : Rg) {l : List Sag} (h : 0 < l.length) : heightS w l = ⟨((l.length : Int) - 1) * w.lo + (hOf l).lo, ((l.length : Int) - 1) * w.hi + (hOf l).hi⟩ := by
  cases l with
  | nil => simp at h
  | cons s r =>
    have key : ∀ r : List Sag, sumR (r.flatMap fun x => [w, x.h]) = ⟨(r.length : Int) * w.lo + (hOf r).lo, (r.length : Int) * w.hi + (hOf r).hi⟩ := by
      intro r
      induction r with
      | nil => simp [hOf, sumR]
      | cons x r ih =>
        rw [List.flatMap_cons, sumR_append, ih]
        simp [sumR, hOf, Int.add_mul]
        omega
    have h1 : sumR (s.h :: r.flatMap fun x => [w, x.h]) = ⟨s.h.lo + (sumR (r.flatMap fun x => [w, x.h])).lo, s.h.hi + (sumR (r.flatMap fun x => [w, x.h])).hi⟩ := by simp [sumR]
    simp only [heightS, hsL]
    rw [h1, key]
    simp [hOf, sumR]
    omega
theorem h_le {l : List Sag} (hl : ∀ s ∈ l, sagB s = true) (hn : l.length ≤ 30) : (hOf l).le 300000 := by
  have h1 := sumR_le (M := 10000) (by decide) (l.map (·.h)) (fun r hr => by
    obtain ⟨s, hs, rfl⟩ := List.mem_map.1 hr
    have := hl s hs
    simp [sagB, rgB, inR] at this
    simp [Rg.le]; omega)
  simp only [Rg.le, List.length_map] at h1 ⊢
  have : (l.length : Int) * 10000 ≤ 30 * 10000 := Int.mul_le_mul_of_nonneg_right (by omega) (by decide)
  simp only [hOf]
  omega

def C_rheight (P : Program) (f : Nat) : Prop := ∀ (w : Rg) (l : List Sag), rgB w 0 200 = true → (∀ s ∈ l, sagB s = true) → l.length ≤ 30 → 0 < l.length → Snd P f [.agg (bungC w l)] [] (.agg (heightS w l).c) []
theorem ok_rheight (hm : P.follows .mixedOrders = true) {f : Nat} (low : Low_potbankref03_height P f) : C_rheight P f := by
  intro w l hw hs hlen hpos
  have hw' : 0 ≤ w.lo ∧ w.lo ≤ 200 ∧ 0 ≤ w.hi ∧ w.hi ≤ 200 := by simp [rgB] at hw; omega
  have m1 : 0 ≤ ((l.length : Int) - 1) * w.lo ∧ ((l.length : Int) - 1) * w.lo ≤ 30 * 200 := ⟨Int.mul_nonneg (by omega) (by omega), Int.mul_le_mul (by omega) (by omega) (by omega) (by decide)⟩
  have m2 : 0 ≤ ((l.length : Int) - 1) * w.hi ∧ ((l.length : Int) - 1) * w.hi ≤ 30 * 200 := ⟨Int.mul_nonneg (by omega) (by omega), Int.mul_le_mul (by omega) (by omega) (by omega) (by decide)⟩
  have w0 : IntKind.i64.wrap ((l.length : Int) - 1) = (l.length : Int) - 1 := wrap_id (by omega) (by omega)
  have w1 : IntKind.i64.wrap (((l.length : Int) - 1) * w.lo) = ((l.length : Int) - 1) * w.lo := wrap_id (by omega) (by omega)
  have w2 : IntKind.i64.wrap (((l.length : Int) - 1) * w.hi) = ((l.length : Int) - 1) * w.hi := wrap_id (by omega) (by omega)
  refine snd_ic hm low (by simp) ?_
  unfold ic_potbankref03_height
  simp -dsimp -implicitDefEqProofs only [qq, Nat.reduceBEq, reduceIte, Nat.reduceAdd, Nat.reduceSub, Nat.reduceLeDiff, Nat.reduceLT, Nat.reduceMul, Nat.reduceEqDiff, Int.reduceEq, Int.reduceBEq, Int.reduceBNe, Int.reduceLT, Int.reduceLE, Int.reduceGT, Int.reduceGE, Int.reduceNeg, Int.reduceAdd, Int.reduceSub, reduceCtorEq, List.reduceReplicate, ← List.map_take, ← List.map_drop]
  simp -dsimp -implicitDefEqProofs only [Rg.c, w0, w1, w2, qq, Nat.reduceBEq, reduceIte, Nat.reduceAdd, Nat.reduceSub, Nat.reduceLeDiff, Nat.reduceLT, Nat.reduceMul, Nat.reduceEqDiff, Int.reduceEq, Int.reduceBEq, Int.reduceBNe, Int.reduceLT, Int.reduceLE, Int.reduceGT, Int.reduceGE, Int.reduceNeg, Int.reduceAdd, Int.reduceSub, reduceCtorEq, List.reduceReplicate, ← List.map_take, ← List.map_drop]
  refine loopI_st (fun k : Nat => l.length - k) (fun k E H => k ≤ l.length ∧ E = [(1, .rpt 0 3 0 0), (2, .rpt 1 2 0 0), (4, .rpt 2 2 0 0), (5, .i .i64 k)] ∧ H = [.row 3 [bungC w l], .row 2 [[.i .i64 0, .i .i64 0]], .row 2 [[.i .i64 (((l.length : Int) - 1) * w.lo + (hOf (l.take k)).lo), .i .i64 (((l.length : Int) - 1) * w.hi + (hOf (l.take k)).hi)]]]) 0 ⟨by omega, rfl, by simp [hOf, sumR]⟩ ?_
  rintro k _ _ ⟨hk, rfl, rfl⟩
  simp -dsimp -implicitDefEqProofs only [qq, Nat.reduceBEq, reduceIte, Nat.reduceAdd, Nat.reduceSub, Nat.reduceLeDiff, Nat.reduceLT, Nat.reduceMul, Nat.reduceEqDiff, Int.reduceEq, Int.reduceBEq, Int.reduceBNe, Int.reduceLT, Int.reduceLE, Int.reduceGT, Int.reduceGE, Int.reduceNeg, Int.reduceAdd, Int.reduceSub, reduceCtorEq, List.reduceReplicate, ← List.map_take, ← List.map_drop]
  refine brG_of (fun hlt => ?_) (fun hge => ?_)
  · have hkl : k < l.length := by simpa using hlt
    obtain ⟨x, hx, hxm, htk, _⟩ := next_of hkl
    have hwk : IntKind.i64.wrap ((k : Int) + 1) = ((k + 1 : Nat) : Int) := wrap_succ (by omega)
    have h1 := h_le (l := l.take k) (fun s h => hs s (List.mem_of_mem_take h)) (by rw [List.length_take]; omega)
    have hxs := hs x hxm
    simp [sagB, rgB, inR] at hxs
    simp only [Rg.le] at h1
    have w3 := wrap_id (n := ((l.length : Int) - 1) * w.lo + (hOf (l.take k)).lo + x.h.lo) (by omega) (by omega)
    have w4 := wrap_id (n := ((l.length : Int) - 1) * w.hi + (hOf (l.take k)).hi + x.h.hi) (by omega) (by omega)
    simp -dsimp -implicitDefEqProofs only [hx, Sag.c, bungC, Rg.c, w3, w4, hwk, qq, Nat.reduceBEq, reduceIte, Nat.reduceAdd, Nat.reduceSub, Nat.reduceLeDiff, Nat.reduceLT, Nat.reduceMul, Nat.reduceEqDiff, Int.reduceEq, Int.reduceBEq, Int.reduceBNe, Int.reduceLT, Int.reduceLE, Int.reduceGT, Int.reduceGE, Int.reduceNeg, Int.reduceAdd, Int.reduceSub, reduceCtorEq, List.reduceReplicate, ← List.map_take, ← List.map_drop]
    refine ⟨k + 1, by omega, by omega, rfl, ?_⟩
    rw [htk, hOf_snoc]
    simp only [Int.add_assoc]
  · obtain rfl : k = l.length := by simp at hge; omega
    rw [List.take_length]
    simp -dsimp -implicitDefEqProofs only [qq, Nat.reduceBEq, reduceIte, Nat.reduceAdd, Nat.reduceSub, Nat.reduceLeDiff, Nat.reduceLT, Nat.reduceMul, Nat.reduceEqDiff, Int.reduceEq, Int.reduceBEq, Int.reduceBNe, Int.reduceLT, Int.reduceLE, Int.reduceGT, Int.reduceGE, Int.reduceNeg, Int.reduceAdd, Int.reduceSub, reduceCtorEq, List.reduceReplicate, ← List.map_take, ← List.map_drop]
    refine Ends.plain rfl rfl ?_
    rw [heightS_eq w hpos]
    rfl

theorem ok_rHeight (hm : P.follows .mixedOrders = true) {f f0 f1 : Nat} (low : Low_potbankref03_Height P f f0 f1) (h0 : C_Check P f0) (h1 : C_rheight P f1) : C_Height P f := by
  intro w l
  refine snd_ic hm low (by simp) ?_
  unfold ic_potbankref03_Height
  simp -dsimp -implicitDefEqProofs only [qq, Nat.reduceBEq, reduceIte, Nat.reduceAdd, Nat.reduceSub, Nat.reduceLeDiff, Nat.reduceLT, Nat.reduceMul, Nat.reduceEqDiff, Int.reduceEq, Int.reduceBEq, Int.reduceBNe, Int.reduceLT, Int.reduceLE, Int.reduceGT, Int.reduceGE, Int.reduceNeg, Int.reduceAdd, Int.reduceSub, reduceCtorEq, List.reduceReplicate, ← List.map_take, ← List.map_drop]
  refine callI_pure (h0 w l) rfl rfl ?_
  cases hb : bungB w l <;> simp -dsimp -implicitDefEqProofs only [qq, Nat.reduceBEq, reduceIte, Nat.reduceAdd, Nat.reduceSub, Nat.reduceLeDiff, Nat.reduceLT, Nat.reduceMul, Nat.reduceEqDiff, Int.reduceEq, Int.reduceBEq, Int.reduceBNe, Int.reduceLT, Int.reduceLE, Int.reduceGT, Int.reduceGE, Int.reduceNeg, Int.reduceAdd, Int.reduceSub, reduceCtorEq, List.reduceReplicate, ← List.map_take, ← List.map_drop]
  · exact Ends.ret rfl (frz_keep2 rfl rfl)
  · refine callI_pure (h1 w l (bung_wad hb) (fun s h => sag_w (bung_list hb) h) (list_len (bung_list hb)) (bung_pos hb)) rfl rfl ?_
    simp -dsimp -implicitDefEqProofs only [Rg.c, qq, Nat.reduceBEq, reduceIte, Nat.reduceAdd, Nat.reduceSub, Nat.reduceLeDiff, Nat.reduceLT, Nat.reduceMul, Nat.reduceEqDiff, Int.reduceEq, Int.reduceBEq, Int.reduceBNe, Int.reduceLT, Int.reduceLE, Int.reduceGT, Int.reduceGE, Int.reduceNeg, Int.reduceAdd, Int.reduceSub, reduceCtorEq, List.reduceReplicate, ← List.map_take, ← List.map_drop]
    exact Ends.ret rfl (frz_keep2 rfl rfl)
end Go.Sh.C3
end
section
namespace Go.Sh.C3
open Go.Sh
set_option maxRecDepth 10000
set_option linter.unusedVariables false
set_option linter.unusedSimpArgs false
variable {P : Program}

def leanT (w : Rg) : List Sag → Int
  | [] => 0
  | s :: r => s.tilt * (heightS w (s :: r)).hi + leanT w r
theorem leanG_T (w : Rg) : ∀ l, (leanG w.hi l).1 = leanT w l ∧ (leanG w.hi l).2 = (l.length : Int) * w.hi + (hOf l).hi
  | [] => by simp [leanG, leanT, hOf, sumR]
  | s :: r => by
    obtain ⟨h1, h2⟩ := leanG_T w r
    have h3 := heightS_eq w (l := s :: r) (by simp)
    have h4 : hOf (s :: r) = ⟨s.h.lo + (hOf r).lo, s.h.hi + (hOf r).hi⟩ := by simp [hOf, sumR]
    have e1 : (((r.length + 1 : Nat)) : Int) - 1 = (r.length : Int) := by omega
    simp only [leanG, leanT, h1, h2, h3, h4, List.length_cons, e1]
    rw [show (r.length : Int) * w.hi + (hOf r).hi + s.h.hi = (r.length : Int) * w.hi + (s.h.hi + (hOf r).hi) by omega]
    refine ⟨by omega, ?_⟩
    rw [show ((r.length + 1 : Nat) : Int) = (r.length : Int) + 1 by omega, Int.add_mul]
    omega
theorem leanT_le {w : Rg} (hw : rgB w 0 200 = true) {l : List Sag} (hs : ∀ s ∈ l, sagB s = true) (hn : l.length ≤ 30) : 0 ≤ leanT w l ∧ leanT w l ≤ 2000000000 := by
  have hw' : 0 ≤ w.hi ∧ w.hi ≤ 200 := by simp [rgB] at hw; omega
  obtain ⟨a1, a2, a3, a4⟩ := leanG_le hw'.1 hw'.2 l hs
  rw [(leanG_T w l).1] at a3 a4
  have : (l.length : Int) * (200 * (l.length * 10200)) ≤ 30 * (200 * (30 * 10200)) := Int.mul_le_mul (by omega) (by omega) (by omega) (by decide)
  omega
theorem height_le {w : Rg} (hw : rgB w 0 200 = true) {l : List Sag} (hs : ∀ s ∈ l, sagB s = true) (hn : l.length ≤ 30) (hp : 0 < l.length) : 0 ≤ (heightS w l).hi ∧ (heightS w l).hi ≤ 400000 := by
  have hw' : 0 ≤ w.hi ∧ w.hi ≤ 200 := by simp [rgB] at hw; omega
  have m2 : 0 ≤ ((l.length : Int) - 1) * w.hi ∧ ((l.length : Int) - 1) * w.hi ≤ 30 * 200 := ⟨Int.mul_nonneg (by omega) (by omega), Int.mul_le_mul (by omega) (by omega) (by omega) (by decide)⟩
  have h1 := h_le hs hn
  simp only [Rg.le] at h1
  have h0 : 0 ≤ (hOf l).hi := by
    have : ∀ l : List Sag, (∀ s ∈ l, sagB s = true) → 0 ≤ (hOf l).hi := by
      intro l
      induction l with
      | nil => simp [hOf, sumR]
      | cons s r ih =>
        intro h
        have h2 := ih (fun x hx => h x (by simp [hx]))
        have h3 := h s (by simp)
        simp [sagB, rgB, inR] at h3
        simp [hOf, sumR] at h2 ⊢
        omega
    exact this l hs
  rw [heightS_eq w hp]
  simp only
  omega

def C_rlean (P : Program) (f : Nat) : Prop := ∀ (w : Rg) (l : List Sag), rgB w 0 200 = true → listB l = true → 0 < l.length → Snd P f [.agg (bungC w l)] [] (.i .i64 (leanS w l)) []
theorem ok_rlean (hm : P.follows .mixedOrders = true) {f f0 f1 : Nat} (low : Low_potbankref03_lean P f f0 f1) (h0 : C_rheight P f0) (h1 : C_Up P f1) : C_lean P f := by
  intro w l hw hv hpos
  have hlen := list_len hv
  have hsl : ∀ {m : List Sag}, (∀ s ∈ m, s ∈ l) → ∀ s ∈ m, sagB s = true := fun h s hs => sag_w hv (h s hs)
  have htl : l.tail = l.drop 1 := by simp
  refine snd_ic hm low (by simp) ?_
  unfold ic_potbankref03_lean
  simp -dsimp -implicitDefEqProofs only [qq, Nat.reduceBEq, reduceIte, Nat.reduceAdd, Nat.reduceSub, Nat.reduceLeDiff, Nat.reduceLT, Nat.reduceMul, Nat.reduceEqDiff, Int.reduceEq, Int.reduceBEq, Int.reduceBNe, Int.reduceLT, Int.reduceLE, Int.reduceGT, Int.reduceGE, Int.reduceNeg, Int.reduceAdd, Int.reduceSub, reduceCtorEq, List.reduceReplicate, ← List.map_take, ← List.map_drop]
  refine loopI_st (fun k : Nat => l.length - k) (fun k E H => 1 ≤ k ∧ k ≤ l.length ∧ E = [(1, .rpt 0 3 0 0), (3, .i .i64 (leanT w (l.drop 1) - leanT w (l.drop k))), (4, .i .i64 k)] ∧ ∃ G, H = .row 3 [bungC w l] :: G) 1 ⟨by omega, by omega, by simp, [], rfl⟩ ?_
  rintro k _ _ ⟨hk1, hk, rfl, G, rfl⟩
  simp -dsimp -implicitDefEqProofs only [qq, Nat.reduceBEq, reduceIte, Nat.reduceAdd, Nat.reduceSub, Nat.reduceLeDiff, Nat.reduceLT, Nat.reduceMul, Nat.reduceEqDiff, Int.reduceEq, Int.reduceBEq, Int.reduceBNe, Int.reduceLT, Int.reduceLE, Int.reduceGT, Int.reduceGE, Int.reduceNeg, Int.reduceAdd, Int.reduceSub, reduceCtorEq, List.reduceReplicate, ← List.map_take, ← List.map_drop]
  refine brG_of (fun hlt => ?_) (fun hge => ?_)
  · have hkl : k < l.length := by simpa using hlt
    obtain ⟨x, hx, hxm, htk, hdk⟩ := next_of hkl
    have hwk : IntKind.i64.wrap ((k : Int) + 1) = ((k + 1 : Nat) : Int) := wrap_succ (by omega)
    have b1 := leanT_le hw (hsl (m := l.drop 1) (fun s h => List.mem_of_mem_drop h)) (by simp; omega)
    have b2 := leanT_le hw (hsl (m := l.drop k) (fun s h => List.mem_of_mem_drop h)) (by simp; omega)
    have b3 := leanT_le hw (hsl (m := l.drop (k + 1)) (fun s h => List.mem_of_mem_drop h)) (by simp; omega)
    have hh := height_le hw (hsl (m := l.drop k) (fun s h => List.mem_of_mem_drop h)) (by simp; omega) (by simp; omega)
    have hT : leanT w (l.drop k) = x.tilt * (heightS w (l.drop k)).hi + leanT w (l.drop (k + 1)) := by rw [hdk]; rfl
    have hxs := sag_w hv hxm
    simp [sagB, rgB, inR] at hxs
    have hp : 0 ≤ x.tilt * (heightS w (l.drop k)).hi ∧ x.tilt * (heightS w (l.drop k)).hi ≤ 200 * 400000 := ⟨Int.mul_nonneg (by omega) (by omega), Int.mul_le_mul (by omega) (by omega) (by omega) (by decide)⟩
    have w1 := wrap_id (n := x.tilt * (heightS w (l.drop k)).hi) (by omega) (by omega)
    have w2 : IntKind.i64.wrap (leanT w (l.drop 1) - leanT w (l.drop k) + x.tilt * (heightS w (l.drop k)).hi) = leanT w (l.drop 1) - leanT w (l.drop (k + 1)) := by rw [wrap_id (by omega) (by omega)]; omega
    simp -dsimp -implicitDefEqProofs only [bungC, Rg.c, qq, Nat.reduceBEq, reduceIte, Nat.reduceAdd, Nat.reduceSub, Nat.reduceLeDiff, Nat.reduceLT, Nat.reduceMul, Nat.reduceEqDiff, Int.reduceEq, Int.reduceBEq, Int.reduceBNe, Int.reduceLT, Int.reduceLE, Int.reduceGT, Int.reduceGE, Int.reduceNeg, Int.reduceAdd, Int.reduceSub, reduceCtorEq, List.reduceReplicate, ← List.map_take, ← List.map_drop]
    repeat (refine ⟨by first | omega | trivial | (intro row hr; obtain ⟨x, _, rfl⟩ := List.mem_map.1 hr; rfl), ?_⟩)
    simp -dsimp -implicitDefEqProofs only [hx, Sag.c, bungC, Rg.c, qq, Nat.reduceBEq, reduceIte, Nat.reduceAdd, Nat.reduceSub, Nat.reduceLeDiff, Nat.reduceLT, Nat.reduceMul, Nat.reduceEqDiff, Int.reduceEq, Int.reduceBEq, Int.reduceBNe, Int.reduceLT, Int.reduceLE, Int.reduceGT, Int.reduceGE, Int.reduceNeg, Int.reduceAdd, Int.reduceSub, reduceCtorEq, List.reduceReplicate, ← List.map_take, ← List.map_drop]
    refine callI_pure (h0 w (l.drop k) hw (hsl (fun s h => List.mem_of_mem_drop h)) (by simp; omega) (by simp; omega)) rfl rfl ?_
    simp -dsimp -implicitDefEqProofs only [Rg.c, w1, w2, hwk, qq, Nat.reduceBEq, reduceIte, Nat.reduceAdd, Nat.reduceSub, Nat.reduceLeDiff, Nat.reduceLT, Nat.reduceMul, Nat.reduceEqDiff, Int.reduceEq, Int.reduceBEq, Int.reduceBNe, Int.reduceLT, Int.reduceLE, Int.reduceGT, Int.reduceGE, Int.reduceNeg, Int.reduceAdd, Int.reduceSub, reduceCtorEq, List.reduceReplicate, ← List.map_take, ← List.map_drop]
    exact ⟨k + 1, by omega, by omega, by omega, rfl, _, rfl⟩
  · obtain rfl : k = l.length := by simp at hge; omega
    have b1 := leanT_le hw (hsl (m := l.drop 1) (fun s h => List.mem_of_mem_drop h)) (by simp; omega)
    have e0 : leanT w (l.drop l.length) = 0 := by simp [leanT]
    simp -dsimp -implicitDefEqProofs only [e0, qq, Nat.reduceBEq, reduceIte, Nat.reduceAdd, Nat.reduceSub, Nat.reduceLeDiff, Nat.reduceLT, Nat.reduceMul, Nat.reduceEqDiff, Int.reduceEq, Int.reduceBEq, Int.reduceBNe, Int.reduceLT, Int.reduceLE, Int.reduceGT, Int.reduceGE, Int.reduceNeg, Int.reduceAdd, Int.reduceSub, reduceCtorEq, List.reduceReplicate, ← List.map_take, ← List.map_drop]
    refine callI_pure (h1 _ 1000 (by decide) (by omega) (by omega)) rfl rfl ?_
    simp -dsimp -implicitDefEqProofs only [qq, Nat.reduceBEq, reduceIte, Nat.reduceAdd, Nat.reduceSub, Nat.reduceLeDiff, Nat.reduceLT, Nat.reduceMul, Nat.reduceEqDiff, Int.reduceEq, Int.reduceBEq, Int.reduceBNe, Int.reduceLT, Int.reduceLE, Int.reduceGT, Int.reduceGE, Int.reduceNeg, Int.reduceAdd, Int.reduceSub, reduceCtorEq, List.reduceReplicate, ← List.map_take, ← List.map_drop]
    refine Ends.plain rfl rfl ?_
    simp only [resV, leanS, htl, (leanG_T w (l.drop 1)).1]
    congr 1
    rw [Int.tdiv_eq_ediv_of_nonneg (by omega)]
    omega

theorem ok_rLean (hm : P.follows .mixedOrders = true) {f f0 f1 : Nat} (low : Low_potbankref03_Lean P f f0 f1) (h0 : C_Check P f0) (h1 : C_lean P f1) : C_Lean P f := by
  intro w l
  refine snd_ic hm low (by simp) ?_
  unfold ic_potbankref03_Lean
  simp -dsimp -implicitDefEqProofs only [qq, Nat.reduceBEq, reduceIte, Nat.reduceAdd, Nat.reduceSub, Nat.reduceLeDiff, Nat.reduceLT, Nat.reduceMul, Nat.reduceEqDiff, Int.reduceEq, Int.reduceBEq, Int.reduceBNe, Int.reduceLT, Int.reduceLE, Int.reduceGT, Int.reduceGE, Int.reduceNeg, Int.reduceAdd, Int.reduceSub, reduceCtorEq, List.reduceReplicate, ← List.map_take, ← List.map_drop]
  refine callI_pure (h0 w l) rfl rfl ?_
  cases hb : bungB w l <;> simp -dsimp -implicitDefEqProofs only [qq, Nat.reduceBEq, reduceIte, Nat.reduceAdd, Nat.reduceSub, Nat.reduceLeDiff, Nat.reduceLT, Nat.reduceMul, Nat.reduceEqDiff, Int.reduceEq, Int.reduceBEq, Int.reduceBNe, Int.reduceLT, Int.reduceLE, Int.reduceGT, Int.reduceGE, Int.reduceNeg, Int.reduceAdd, Int.reduceSub, reduceCtorEq, List.reduceReplicate, ← List.map_take, ← List.map_drop]
  · exact Ends.ret rfl (frz_keep2 rfl rfl)
  · refine callI_pure (h1 w l (bung_wad hb) (bung_list hb) (bung_pos hb)) rfl rfl ?_
    simp -dsimp -implicitDefEqProofs only [qq, Nat.reduceBEq, reduceIte, Nat.reduceAdd, Nat.reduceSub, Nat.reduceLeDiff, Nat.reduceLT, Nat.reduceMul, Nat.reduceEqDiff, Int.reduceEq, Int.reduceBEq, Int.reduceBNe, Int.reduceLT, Int.reduceLE, Int.reduceGT, Int.reduceGE, Int.reduceNeg, Int.reduceAdd, Int.reduceSub, reduceCtorEq, List.reduceReplicate, ← List.map_take, ← List.map_drop]
    exact Ends.ret rfl (frz_keep2 rfl rfl)

theorem ok_rfits (hm : P.follows .mixedOrders = true) {f f0 f1 f2 : Nat} (low : Low_potbankref03_fits P f f0 f1 f2) (h0 : C_rheight P f0) (h1 : C_rstands P f1) (h2 : C_lean P f2) : C_fits P f := by
  intro w l s hb
  refine snd_ic hm low (by simp) ?_
  unfold ic_potbankref03_fits
  simp -dsimp -implicitDefEqProofs only [qq, Nat.reduceBEq, reduceIte, Nat.reduceAdd, Nat.reduceSub, Nat.reduceLeDiff, Nat.reduceLT, Nat.reduceMul, Nat.reduceEqDiff, Int.reduceEq, Int.reduceBEq, Int.reduceBNe, Int.reduceLT, Int.reduceLE, Int.reduceGT, Int.reduceGE, Int.reduceNeg, Int.reduceAdd, Int.reduceSub, reduceCtorEq, List.reduceReplicate, ← List.map_take, ← List.map_drop]
  refine callI_pure (h0 w l (bung_wad hb) (fun s h => sag_w (bung_list hb) h) (list_len (bung_list hb)) (bung_pos hb)) rfl rfl ?_
  simp -dsimp -implicitDefEqProofs only [qq, Nat.reduceBEq, reduceIte, Nat.reduceAdd, Nat.reduceSub, Nat.reduceLeDiff, Nat.reduceLT, Nat.reduceMul, Nat.reduceEqDiff, Int.reduceEq, Int.reduceBEq, Int.reduceBNe, Int.reduceLT, Int.reduceLE, Int.reduceGT, Int.reduceGE, Int.reduceNeg, Int.reduceAdd, Int.reduceSub, reduceCtorEq, List.reduceReplicate, ← List.map_take, ← List.map_drop]
  refine callI_pure (h1 l (bung_list hb)) rfl rfl ?_
  simp -dsimp -implicitDefEqProofs only [Rg.c, Spt.c, qq, Nat.reduceBEq, reduceIte, Nat.reduceAdd, Nat.reduceSub, Nat.reduceLeDiff, Nat.reduceLT, Nat.reduceMul, Nat.reduceEqDiff, Int.reduceEq, Int.reduceBEq, Int.reduceBNe, Int.reduceLT, Int.reduceLE, Int.reduceGT, Int.reduceGE, Int.reduceNeg, Int.reduceAdd, Int.reduceSub, reduceCtorEq, List.reduceReplicate, ← List.map_take, ← List.map_drop]
  repeat' (first | (refine brG_of (fun h => ?_) (fun h => ?_) <;> simp -dsimp -implicitDefEqProofs only [h, Rg.c, Spt.c, qq, Nat.reduceBEq, reduceIte, Nat.reduceAdd, Nat.reduceSub, Nat.reduceLeDiff, Nat.reduceLT, Nat.reduceMul, Nat.reduceEqDiff, Int.reduceEq, Int.reduceBEq, Int.reduceBNe, Int.reduceLT, Int.reduceLE, Int.reduceGT, Int.reduceGE, Int.reduceNeg, Int.reduceAdd, Int.reduceSub, reduceCtorEq, List.reduceReplicate, ← List.map_take, ← List.map_drop]) | (refine callI_pure (h2 w l (bung_wad hb) (bung_list hb) (bung_pos hb)) rfl rfl ?_; simp -dsimp -implicitDefEqProofs only [Rg.c, Spt.c, qq, Nat.reduceBEq, reduceIte, Nat.reduceAdd, Nat.reduceSub, Nat.reduceLeDiff, Nat.reduceLT, Nat.reduceMul, Nat.reduceEqDiff, Int.reduceEq, Int.reduceBEq, Int.reduceBNe, Int.reduceLT, Int.reduceLE, Int.reduceGT, Int.reduceGE, Int.reduceNeg, Int.reduceAdd, Int.reduceSub, reduceCtorEq, List.reduceReplicate, ← List.map_take, ← List.map_drop]))
  all_goals exact Ends.plain rfl rfl (by first | (simp_all [resV, fitsS]; done) | (simp_all [resV, fitsS]; omega) | (simp only [resV, fitsS]; grind))

theorem ok_rFits (hm : P.follows .mixedOrders = true) {f f0 f1 f2 : Nat} (low : Low_potbankref03_Fits P f f0 f1 f2) (h0 : C_Check P f0) (h1 : C_CheckSpot P f1) (h2 : C_fits P f2) : C_Fits P f := by
  intro w l s
  refine snd_ic hm low (by simp) ?_
  unfold ic_potbankref03_Fits
  simp -dsimp -implicitDefEqProofs only [qq, Nat.reduceBEq, reduceIte, Nat.reduceAdd, Nat.reduceSub, Nat.reduceLeDiff, Nat.reduceLT, Nat.reduceMul, Nat.reduceEqDiff, Int.reduceEq, Int.reduceBEq, Int.reduceBNe, Int.reduceLT, Int.reduceLE, Int.reduceGT, Int.reduceGE, Int.reduceNeg, Int.reduceAdd, Int.reduceSub, reduceCtorEq, List.reduceReplicate, ← List.map_take, ← List.map_drop]
  refine callI_pure (h0 w l) rfl rfl ?_
  cases hb : bungB w l <;> simp -dsimp -implicitDefEqProofs only [qq, Nat.reduceBEq, reduceIte, Nat.reduceAdd, Nat.reduceSub, Nat.reduceLeDiff, Nat.reduceLT, Nat.reduceMul, Nat.reduceEqDiff, Int.reduceEq, Int.reduceBEq, Int.reduceBNe, Int.reduceLT, Int.reduceLE, Int.reduceGT, Int.reduceGE, Int.reduceNeg, Int.reduceAdd, Int.reduceSub, reduceCtorEq, List.reduceReplicate, ← List.map_take, ← List.map_drop]
  · exact Ends.ret rfl (frz_keep2 rfl rfl)
  refine callI_pure (h1 s) rfl rfl ?_
  cases hs : spotB s <;> simp -dsimp -implicitDefEqProofs only [qq, Nat.reduceBEq, reduceIte, Nat.reduceAdd, Nat.reduceSub, Nat.reduceLeDiff, Nat.reduceLT, Nat.reduceMul, Nat.reduceEqDiff, Int.reduceEq, Int.reduceBEq, Int.reduceBNe, Int.reduceLT, Int.reduceLE, Int.reduceGT, Int.reduceGE, Int.reduceNeg, Int.reduceAdd, Int.reduceSub, reduceCtorEq, List.reduceReplicate, ← List.map_take, ← List.map_drop]
  · exact Ends.ret rfl (frz_keep2 rfl rfl)
  refine callI_pure (h2 w l s hb) rfl rfl ?_
  simp -dsimp -implicitDefEqProofs only [qq, Nat.reduceBEq, reduceIte, Nat.reduceAdd, Nat.reduceSub, Nat.reduceLeDiff, Nat.reduceLT, Nat.reduceMul, Nat.reduceEqDiff, Int.reduceEq, Int.reduceBEq, Int.reduceBNe, Int.reduceLT, Int.reduceLE, Int.reduceGT, Int.reduceGE, Int.reduceNeg, Int.reduceAdd, Int.reduceSub, reduceCtorEq, List.reduceReplicate, ← List.map_take, ← List.map_drop]
  exact Ends.ret rfl (frz_keep2 rfl rfl)

theorem take_same {α : Type} {a b : List α} {k : Nat} {x y : α} (h : a.take k = b.take k) (hx : a[k]? = some x) (hy : b[k]? = some y) : (a.take (k + 1) = b.take (k + 1)) ↔ x = y := by
  rw [List.take_add_one, List.take_add_one, h, hx, hy]
  simp

def C_SameRanges (P : Program) (f : Nat) : Prop := ∀ (a b : List Rg), a.length ≤ 1000000 → Snd P f [.fsl (a.map Rg.c), .fsl (b.map Rg.c)] [] (.b (decide (a = b))) []
theorem ok_SameRanges (hm : P.follows .mixedOrders = true) {f : Nat} (low : Low_potbankref03_SameRanges P f) : C_SameRanges P f := by
  intro a b hl
  refine snd_ic hm low (by simp) ?_
  unfold ic_potbankref03_SameRanges
  simp -dsimp -implicitDefEqProofs only [qq, Nat.reduceBEq, reduceIte, Nat.reduceAdd, Nat.reduceSub, Nat.reduceLeDiff, Nat.reduceLT, Nat.reduceMul, Nat.reduceEqDiff, Int.reduceEq, Int.reduceBEq, Int.reduceBNe, Int.reduceLT, Int.reduceLE, Int.reduceGT, Int.reduceGE, Int.reduceNeg, Int.reduceAdd, Int.reduceSub, reduceCtorEq, List.reduceReplicate, ← List.map_take, ← List.map_drop]
  refine loopI_st (fun k : Nat => a.length - k) (fun k E H => k ≤ a.length ∧ E = [(0, .fsl (a.map Rg.c)), (1, .fsl (b.map Rg.c)), (5, .b (decide (a.length = b.length ∧ a.take k = b.take k))), (6, .i .i64 k)]) 0 ⟨by omega, by simp; rw [Bool.eq_iff_iff]; simp; omega⟩ ?_
  rintro k _ H ⟨hk, rfl⟩
  simp -dsimp -implicitDefEqProofs only [qq, Nat.reduceBEq, reduceIte, Nat.reduceAdd, Nat.reduceSub, Nat.reduceLeDiff, Nat.reduceLT, Nat.reduceMul, Nat.reduceEqDiff, Int.reduceEq, Int.reduceBEq, Int.reduceBNe, Int.reduceLT, Int.reduceLE, Int.reduceGT, Int.reduceGE, Int.reduceNeg, Int.reduceAdd, Int.reduceSub, reduceCtorEq, List.reduceReplicate, ← List.map_take, ← List.map_drop]
  refine brG_of (fun hlt => ?_) (fun hlt => ?_) <;> simp -dsimp -implicitDefEqProofs only [hlt, qq, Nat.reduceBEq, reduceIte, Nat.reduceAdd, Nat.reduceSub, Nat.reduceLeDiff, Nat.reduceLT, Nat.reduceMul, Nat.reduceEqDiff, Int.reduceEq, Int.reduceBEq, Int.reduceBNe, Int.reduceLT, Int.reduceLE, Int.reduceGT, Int.reduceGE, Int.reduceNeg, Int.reduceAdd, Int.reduceSub, reduceCtorEq, List.reduceReplicate, ← List.map_take, ← List.map_drop]
  · have hkl : k < a.length := by simpa using hlt
    by_cases hs : a.length = b.length ∧ a.take k = b.take k
    · simp -dsimp -implicitDefEqProofs only [decide_eq_true hs, qq, Nat.reduceBEq, reduceIte, Nat.reduceAdd, Nat.reduceSub, Nat.reduceLeDiff, Nat.reduceLT, Nat.reduceMul, Nat.reduceEqDiff, Int.reduceEq, Int.reduceBEq, Int.reduceBNe, Int.reduceLT, Int.reduceLE, Int.reduceGT, Int.reduceGE, Int.reduceNeg, Int.reduceAdd, Int.reduceSub, reduceCtorEq, List.reduceReplicate, ← List.map_take, ← List.map_drop]
      obtain ⟨x, hx, hxm, htk, hdk⟩ := next_of hkl
      obtain ⟨y, hy, _, _, _⟩ := next_of (show k < b.length by omega)
      have hwk : IntKind.i64.wrap ((k : Int) + 1) = ((k + 1 : Nat) : Int) := wrap_succ (by omega)
      simp -dsimp -implicitDefEqProofs only [hx, hy, Rg.c, eqS, hwk, qq, Nat.reduceBEq, reduceIte, Nat.reduceAdd, Nat.reduceSub, Nat.reduceLeDiff, Nat.reduceLT, Nat.reduceMul, Nat.reduceEqDiff, Int.reduceEq, Int.reduceBEq, Int.reduceBNe, Int.reduceLT, Int.reduceLE, Int.reduceGT, Int.reduceGE, Int.reduceNeg, Int.reduceAdd, Int.reduceSub, reduceCtorEq, List.reduceReplicate, ← List.map_take, ← List.map_drop]
      refine ⟨k + 1, by omega, by omega, ?_⟩
      have e : decide (a.length = b.length ∧ a.take (k + 1) = b.take (k + 1)) = (x.lo == y.lo && x.hi == y.hi) := by
        rw [Bool.eq_iff_iff]
        simp only [decide_eq_true_eq, take_same hs.2 hx hy, hs.1, true_and, Bool.and_eq_true, beq_iff_eq]
        constructor
        · rintro rfl; exact ⟨rfl, rfl⟩
        · rintro ⟨h1, h2⟩; cases x; cases y; simp_all
      rw [e]
    · simp -dsimp -implicitDefEqProofs only [decide_eq_false hs, qq, Nat.reduceBEq, reduceIte, Nat.reduceAdd, Nat.reduceSub, Nat.reduceLeDiff, Nat.reduceLT, Nat.reduceMul, Nat.reduceEqDiff, Int.reduceEq, Int.reduceBEq, Int.reduceBNe, Int.reduceLT, Int.reduceLE, Int.reduceGT, Int.reduceGE, Int.reduceNeg, Int.reduceAdd, Int.reduceSub, reduceCtorEq, List.reduceReplicate, ← List.map_take, ← List.map_drop]
      refine Ends.plain rfl rfl ?_
      have : a ≠ b := fun e => hs (by rw [e]; exact ⟨rfl, rfl⟩)
      simp [resV, this]
  · obtain rfl : k = a.length := by simp at hlt; omega
    refine Ends.plain rfl rfl ?_
    simp only [resV]
    congr 1
    rw [Bool.eq_iff_iff, decide_eq_true_eq, decide_eq_true_eq]
    constructor
    · rintro ⟨h1, h2⟩; rwa [List.take_length, h1, List.take_length] at h2
    · rintro rfl; exact ⟨rfl, rfl⟩

def C_Same (P : Program) (f : Nat) : Prop := ∀ (a b : List Int), a.length ≤ 1000000 → Snd P f [.fsl (a.map intC), .fsl (b.map intC)] [] (.b (decide (a = b))) []
theorem ok_Same (hm : P.follows .mixedOrders = true) {f : Nat} (low : Low_potbankref01_Same P f) : C_Same P f := by
  intro a b hl
  refine snd_ic hm low (by simp) ?_
  unfold ic_potbankref01_Same
  simp -dsimp -implicitDefEqProofs only [qq, Nat.reduceBEq, reduceIte, Nat.reduceAdd, Nat.reduceSub, Nat.reduceLeDiff, Nat.reduceLT, Nat.reduceMul, Nat.reduceEqDiff, Int.reduceEq, Int.reduceBEq, Int.reduceBNe, Int.reduceLT, Int.reduceLE, Int.reduceGT, Int.reduceGE, Int.reduceNeg, Int.reduceAdd, Int.reduceSub, reduceCtorEq, List.reduceReplicate, ← List.map_take, ← List.map_drop]
  refine brG_of (fun h => ?_) (fun h => ?_) <;> simp -dsimp -implicitDefEqProofs only [qq, Nat.reduceBEq, reduceIte, Nat.reduceAdd, Nat.reduceSub, Nat.reduceLeDiff, Nat.reduceLT, Nat.reduceMul, Nat.reduceEqDiff, Int.reduceEq, Int.reduceBEq, Int.reduceBNe, Int.reduceLT, Int.reduceLE, Int.reduceGT, Int.reduceGE, Int.reduceNeg, Int.reduceAdd, Int.reduceSub, reduceCtorEq, List.reduceReplicate, ← List.map_take, ← List.map_drop]
  · refine Ends.plain rfl rfl ?_
    have : a ≠ b := fun e => by subst e; simp at h
    simp [resV, this]
  have hlen : a.length = b.length := by simp at h; omega
  refine loopI_st (fun k : Nat => a.length - k) (fun k E H => k ≤ a.length ∧ E = [(0, .fsl (a.map intC)), (1, .fsl (b.map intC)), (5, .i .i64 k)] ∧ a.take k = b.take k) 0 ⟨by omega, rfl, rfl⟩ ?_
  rintro k _ H ⟨hk, rfl, hs⟩
  simp -dsimp -implicitDefEqProofs only [qq, Nat.reduceBEq, reduceIte, Nat.reduceAdd, Nat.reduceSub, Nat.reduceLeDiff, Nat.reduceLT, Nat.reduceMul, Nat.reduceEqDiff, Int.reduceEq, Int.reduceBEq, Int.reduceBNe, Int.reduceLT, Int.reduceLE, Int.reduceGT, Int.reduceGE, Int.reduceNeg, Int.reduceAdd, Int.reduceSub, reduceCtorEq, List.reduceReplicate, ← List.map_take, ← List.map_drop]
  refine brG_of (fun hlt => ?_) (fun hge => ?_) <;> simp -dsimp -implicitDefEqProofs only [qq, Nat.reduceBEq, reduceIte, Nat.reduceAdd, Nat.reduceSub, Nat.reduceLeDiff, Nat.reduceLT, Nat.reduceMul, Nat.reduceEqDiff, Int.reduceEq, Int.reduceBEq, Int.reduceBNe, Int.reduceLT, Int.reduceLE, Int.reduceGT, Int.reduceGE, Int.reduceNeg, Int.reduceAdd, Int.reduceSub, reduceCtorEq, List.reduceReplicate, ← List.map_take, ← List.map_drop]
  · have hkl : k < a.length := by simpa using hlt
    obtain ⟨x, hx, hxm, htk, hdk⟩ := next_of hkl
    obtain ⟨y, hy, _, _, _⟩ := next_of (show k < b.length by omega)
    have hwk : IntKind.i64.wrap ((k : Int) + 1) = ((k + 1 : Nat) : Int) := wrap_succ (by omega)
    simp -dsimp -implicitDefEqProofs only [hx, hy, intC, qq, Nat.reduceBEq, reduceIte, Nat.reduceAdd, Nat.reduceSub, Nat.reduceLeDiff, Nat.reduceLT, Nat.reduceMul, Nat.reduceEqDiff, Int.reduceEq, Int.reduceBEq, Int.reduceBNe, Int.reduceLT, Int.reduceLE, Int.reduceGT, Int.reduceGE, Int.reduceNeg, Int.reduceAdd, Int.reduceSub, reduceCtorEq, List.reduceReplicate, ← List.map_take, ← List.map_drop]
    refine brG_of (fun h => ?_) (fun h => ?_) <;> simp -dsimp -implicitDefEqProofs only [hwk, qq, Nat.reduceBEq, reduceIte, Nat.reduceAdd, Nat.reduceSub, Nat.reduceLeDiff, Nat.reduceLT, Nat.reduceMul, Nat.reduceEqDiff, Int.reduceEq, Int.reduceBEq, Int.reduceBNe, Int.reduceLT, Int.reduceLE, Int.reduceGT, Int.reduceGE, Int.reduceNeg, Int.reduceAdd, Int.reduceSub, reduceCtorEq, List.reduceReplicate, ← List.map_take, ← List.map_drop]
    · refine Ends.plain rfl rfl ?_
      have : a ≠ b := fun e => by subst e; rw [hx] at hy; cases hy; simp at h
      simp [resV, this]
    · exact ⟨k + 1, by omega, by omega, rfl, (take_same hs hx hy).2 (by simpa using h)⟩
  · obtain rfl : k = a.length := by simp at hge; omega
    refine Ends.plain rfl rfl ?_
    rw [List.take_length, hlen, List.take_length] at hs
    simp [resV, hs]
end Go.Sh.C3
end
section
namespace Go.Sh.C3
open Go.Sh
set_option maxRecDepth 10000
set_option linter.unusedVariables false
set_option linter.unusedSimpArgs false
variable {P : Program}
def ic_bung_packer_pack (f0 f1 f2 f3 : Nat) : IC := .seq (.reg [⟨some 4, none, .box (.t 0)⟩, ⟨some 8, none, .mov (.c (.nsl))⟩] [1, 2, 3, 4]) (.seq (.seq (.reg [⟨some 12, none, .mov (.t 2)⟩, ⟨some 13, none, .fad 2 (.t 4)⟩, ⟨some 14, none, .ld none (.t 13)⟩, ⟨some 15, none, .len false (.t 14)⟩, ⟨some 16, none, .bin .eql (.t 12) (.t 15)⟩] [1, 2, 3, 4, 16]) (.cond (.t 16) (.seq (.seq (.reg [⟨some 17, none, .mov (.t 1)⟩, ⟨some 18, none, .len false (.t 17)⟩, ⟨some 19, none, .mov (.t 3)⟩, ⟨some 20, none, .bin .eql (.t 18) (.t 19)⟩] [1, 20]) (.cond (.t 20) (.seq (.reg [⟨some 21, none, .mov (.t 1)⟩, ⟨some 8, none, .mov (.t 21)⟩] [8]) (.ret)) (.skip))) (.seq (.reg [⟨some 8, none, .mov (.c (.nsl))⟩] [8]) (.ret))) (.skip))) (.seq (.seq (.reg [⟨some 9, none, .mov (.c (.i .i64 (0)))⟩] [1, 2, 3, 4, 9]) (.block 0 (.loop (.seq (.seq (.reg [⟨some 22, none, .mov (.t 9)⟩, ⟨some 23, none, .mov (.t 1)⟩, ⟨some 24, none, .len false (.t 23)⟩, ⟨some 25, none, .bin .leq (.t 22) (.t 24)⟩, ⟨some 26, none, .mov (.t 25)⟩, ⟨some 27, some (26, true), .mov (.t 9)⟩, ⟨some 28, some (26, true), .mov (.t 3)⟩, ⟨some 29, some (26, true), .bin .lss (.t 27) (.t 28)⟩, ⟨some 30, none, .pick (.t 26) (.t 29) (.c (.b false))⟩] [1, 2, 3, 4, 9, 30]) (.cond (.t 30) (.skip) (.exit 0))) (.seq (.block 1 (.seq (.reg [⟨some 33, none, .mov (.t 1)⟩, ⟨some 34, none, .calv (.c (.fn (.func f0) [] [])) [.t 33]⟩, ⟨some 10, none, .mov (.t 34)⟩] [1, 2, 3, 4, 9, 10]) (.seq (.seq (.reg [⟨some 35, none, .mov (.t 9)⟩, ⟨some 36, none, .mov (.t 1)⟩, ⟨some 37, none, .len false (.t 36)⟩, ⟨some 38, none, .bin .eql (.t 35) (.t 37)⟩] [1, 2, 3, 4, 9, 10, 38]) (.cond (.t 38) (.reg [⟨some 39, none, .mov (.t 10)⟩, ⟨some 40, none, .bsl false 1 1 [.nsl] [(0, (.c (.nsl)))]⟩, ⟨some 41, none, .app 1 24 (.t 39) (.t 40)⟩, ⟨some 10, none, .mov (.t 41)⟩] [1, 2, 3, 4, 9, 10]) (.skip))) (.seq (.reg [⟨some 42, none, .mov (.t 10)⟩, ⟨some 43, none, .mov (.t 9)⟩, ⟨some 44, none, .mov (.t 10)⟩, ⟨some 45, none, .mov (.t 9)⟩, ⟨some 46, none, .ixs 1 (.t 44) (.t 45)⟩, ⟨some 47, none, .ld none (.t 46)⟩, ⟨some 48, none, .calv (.c (.fn (.func f1) [] [])) [.t 47]⟩, ⟨some 49, none, .mov (.t 2)⟩, ⟨some 50, none, .bsl false 1 1 [.i .i64 (0)] [(0, (.t 49))]⟩, ⟨some 51, none, .app 1 8 (.t 48) (.t 50)⟩, ⟨some 52, none, .ixs 1 (.t 42) (.t 43)⟩, ⟨none, none, .st 1 (.t 52) (.t 51)⟩] [1, 2, 3, 4, 9, 10]) (.seq (.seq (.drg [(0, ⟨some 53, none, .ld (some 6) (.t 4)⟩), (0, ⟨some 54, none, .mov (.t 10)⟩), (0, ⟨some 55, none, .mov (.t 9)⟩), (0, ⟨some 56, none, .ixs 1 (.t 54) (.t 55)⟩), (0, ⟨some 57, none, .ld none (.t 56)⟩), (0, ⟨some 58, none, .calv (.c (.fn (.func f2) [] [])) [.t 53, .t 57]⟩), (0, ⟨some 59, none, .un .not (.t 58)⟩)] 5 [1, 2, 3, 4, 9, 10, 59]) (.cond (.t 59) (.exit 1) (.skip))) (.seq (.reg [⟨some 60, none, .ld (some 6) (.t 4)⟩, ⟨some 61, none, .mov (.t 10)⟩, ⟨some 62, none, .mov (.t 2)⟩, ⟨some 63, none, .bin .add (.t 62) (.c (.i .i64 (1)))⟩, ⟨some 64, none, .mov (.t 3)⟩, ⟨some 65, none, .calv (.c (.fn (.func f3) [] [])) [.t 60, .t 61, .t 63, .t 64]⟩, ⟨some 11, none, .mov (.t 65)⟩] [1, 2, 3, 4, 9, 11]) (.seq (.reg [⟨some 66, none, .mov (.t 11)⟩, ⟨some 67, none, .eqb 1 true (.t 66) (.c (.nsl))⟩] [1, 2, 3, 4, 9, 11, 67]) (.cond (.t 67) (.seq (.reg [⟨some 68, none, .mov (.t 11)⟩, ⟨some 8, none, .mov (.t 68)⟩] [8]) (.ret)) (.skip))))))))) (.reg [⟨some 31, none, .mov (.t 9)⟩, ⟨some 32, none, .bin .add (.t 31) (.c (.i .i64 (1)))⟩, ⟨some 9, none, .mov (.t 32)⟩] [1, 2, 3, 4, 9])))))) (.seq (.reg [⟨some 8, none, .mov (.c (.nsl))⟩] [8]) (.ret))))
abbrev Low_bung_packer_pack (P : Program) (f f0 f1 f2 f3 : Nat) : Prop := lowF P f = some (69, [.tmp 8], (ic_bung_packer_pack f0 f1 f2 f3).erase)
def ic_bung_Fewest (f0 f1 : Nat) : IC := .seq (.reg [⟨some 3, none, .box (.t 0)⟩, ⟨some 5, none, .box (.t 2)⟩, ⟨some 6, none, .mov (.c (.nsl))⟩, ⟨some 7, none, .mov (.c (.i .i64 (0)))⟩] [1, 3, 5]) (.seq (.reg [⟨some 12, none, .ld (some 2) (.t 3)⟩, ⟨some 13, none, .mov (.t 1)⟩, ⟨some 14, none, .ld (some 2) (.t 5)⟩, ⟨some 15, none, .calv (.c (.fn (.func f0) [] [])) [.t 12, .t 13, .t 14]⟩, ⟨some 8, none, .mov (.t 15)⟩] [1, 3, 5, 8]) (.seq (.block 0 (.seq (.reg [⟨some 17, none, .mov (.t 8)⟩, ⟨some 18, none, .bin .neq (.t 17) (.c (.i .i64 (0)))⟩, ⟨some 16, none, .mov (.t 18)⟩] [1, 3, 5, 8, 16]) (.cond (.t 16) (.seq (.reg [⟨some 19, none, .mov (.t 8)⟩, ⟨some 6, none, .mov (.c (.nsl))⟩, ⟨some 7, none, .mov (.t 19)⟩] [6, 7]) (.ret)) (.seq (.reg [⟨some 21, none, .mov (.t 1)⟩, ⟨some 22, none, .len false (.t 21)⟩, ⟨some 23, none, .bin .gtr (.t 22) (.c (.i .i64 (9)))⟩, ⟨some 20, none, .mov (.t 23)⟩] [1, 3, 5, 20]) (.cond (.t 20) (.seq (.reg [⟨some 6, none, .mov (.c (.nsl))⟩, ⟨some 7, none, .mov (.c (.i .i64 (36)))⟩] [6, 7]) (.ret)) (.seq (.reg [⟨some 25, none, .mov (.t 1)⟩, ⟨some 26, none, .len false (.t 25)⟩, ⟨some 27, none, .bin .eql (.t 26) (.c (.i .i64 (0)))⟩, ⟨some 24, none, .mov (.t 27)⟩] [1, 3, 5, 24]) (.cond (.t 24) (.seq (.reg [⟨some 6, none, .mov (.c (.nsl))⟩, ⟨some 7, none, .mov (.c (.i .i64 (0)))⟩] [6, 7]) (.ret)) (.skip)))))))) (.seq (.reg [⟨some 28, none, .ld (some 2) (.t 3)⟩, ⟨some 29, none, .mov (.t 1)⟩, ⟨some 30, none, .ld (some 2) (.t 5)⟩, ⟨some 31, none, .mkm⟩, ⟨some 32, none, .bld [.i .i64 (0), .i .i64 (0), .nsl, .i .i64 (0), .i .i64 (0), .nmp] [(0, 2, (.t 28)), (2, 1, (.t 29)), (3, 2, (.t 30)), (5, 1, (.t 31))]⟩, ⟨some 9, none, .alloc [.i .i64 (0), .i .i64 (0), .nsl, .i .i64 (0), .i .i64 (0), .nmp]⟩, ⟨none, none, .st 6 (.t 9) (.t 32)⟩] [1, 9]) (.seq (.seq (.reg [⟨some 10, none, .mov (.c (.i .i64 (1)))⟩] [1, 9, 10]) (.block 1 (.loop (.seq (.seq (.reg [⟨some 33, none, .mov (.t 10)⟩, ⟨some 34, none, .mov (.t 1)⟩, ⟨some 35, none, .len false (.t 34)⟩, ⟨some 36, none, .bin .leq (.t 33) (.t 35)⟩] [1, 9, 10, 36]) (.cond (.t 36) (.skip) (.exit 1))) (.seq (.block 2 (.seq (.reg [⟨some 39, none, .ld (some 6) (.t 9)⟩, ⟨some 40, none, .mov (.t 10)⟩, ⟨some 41, none, .calv (.c (.fn (.func f1) [] [])) [.t 39, .c (.nsl), .c (.i .i64 (0)), .t 40]⟩, ⟨some 11, none, .mov (.t 41)⟩] [1, 9, 10, 11]) (.seq (.reg [⟨some 42, none, .mov (.t 11)⟩, ⟨some 43, none, .eqb 1 true (.t 42) (.c (.nsl))⟩] [1, 9, 10, 11, 43]) (.cond (.t 43) (.seq (.reg [⟨some 44, none, .mov (.t 11)⟩, ⟨some 6, none, .mov (.t 44)⟩, ⟨some 7, none, .mov (.c (.i .i64 (0)))⟩] [6, 7]) (.ret)) (.skip))))) (.reg [⟨some 37, none, .mov (.t 10)⟩, ⟨some 38, none, .bin .add (.t 37) (.c (.i .i64 (1)))⟩, ⟨some 10, none, .mov (.t 38)⟩] [1, 9, 10])))))) (.seq (.reg [⟨some 6, none, .mov (.c (.nsl))⟩, ⟨some 7, none, .mov (.c (.i .i64 (3)))⟩] [6, 7]) (.ret))))))
abbrev Low_bung_Fewest (P : Program) (f f0 f1 : Nat) : Prop := lowF P f = some (45, [.tmp 6, .tmp 7], (ic_bung_Fewest f0 f1).erase)
def ic_slices_Clone_SSint_Sint : IC := .seq (.reg [⟨some 2, none, .mov (.c (.nsl))⟩] [0]) (.seq (.seq (.reg [⟨some 3, none, .mov (.t 0)⟩, ⟨some 4, none, .eqb 1 false (.t 3) (.c (.nsl))⟩] [0, 4]) (.cond (.t 4) (.seq (.reg [⟨some 2, none, .mov (.c (.nsl))⟩] [2]) (.ret)) (.skip))) (.seq (.reg [⟨some 5, none, .bsl false 1 0 [.nsl] []⟩, ⟨some 6, none, .mov (.t 0)⟩, ⟨some 7, none, .app 1 24 (.t 5) (.t 6)⟩, ⟨some 2, none, .mov (.t 7)⟩] [2]) (.ret)))
abbrev Low_slices_Clone_SSint_Sint (P : Program) (f : Nat) : Prop := lowF P f = some (8, [.tmp 2], (ic_slices_Clone_SSint_Sint).erase)

abbrev rowC (l : List Int) : List V := [.fsl (l.map intC)]
def C_CloneR (P : Program) (f : Nat) : Prop := ∀ (H : List Blk) (l : List (List Int)), l.length ≤ 1000000 → SndX P (.fn (.func f) [] []) [.fsl (l.map rowC)] H fun r H' => New H H' 1 (l.map rowC) r
theorem ok_CloneR (hm : P.follows .mixedOrders = true) {f : Nat} (low : Low_slices_Clone_SSint_Sint P f) : C_CloneR P f := by
  intro H l hl
  have hrow : ∀ r ∈ l.map rowC, r.length = 1 ∧ r.all V.one = true := by intro r hr; obtain ⟨x, _, rfl⟩ := List.mem_map.1 hr; exact ⟨rfl, rfl⟩
  refine sndx_ic hm low (by simp) ?_
  unfold ic_slices_Clone_SSint_Sint
  cases l with
  | nil =>
    simp -dsimp -implicitDefEqProofs only [qq, Nat.reduceBEq, reduceIte, Nat.reduceAdd, Nat.reduceSub, Nat.reduceLeDiff, Nat.reduceLT, Nat.reduceMul, Nat.reduceEqDiff, Int.reduceEq, Int.reduceBEq, Int.reduceBNe, Int.reduceLT, Int.reduceLE, Int.reduceGT, Int.reduceGE, Int.reduceNeg, Int.reduceAdd, Int.reduceSub, reduceCtorEq, List.reduceReplicate, ← List.map_take, ← List.map_drop]
    intro t
    cases t <;> simp -dsimp -implicitDefEqProofs only [qq, Nat.reduceBEq, reduceIte, Nat.reduceAdd, Nat.reduceSub, Nat.reduceLeDiff, Nat.reduceLT, Nat.reduceMul, Nat.reduceEqDiff, Int.reduceEq, Int.reduceBEq, Int.reduceBNe, Int.reduceLT, Int.reduceLE, Int.reduceGT, Int.reduceGE, Int.reduceNeg, Int.reduceAdd, Int.reduceSub, reduceCtorEq, List.reduceReplicate, ← List.map_take, ← List.map_drop]
    · refine app_emp (ys := []) (by decide) (by decide) rfl (by simp) (by simp) fun v' H' hn => ?_
      simp -dsimp -implicitDefEqProofs only [qq, Nat.reduceBEq, reduceIte, Nat.reduceAdd, Nat.reduceSub, Nat.reduceLeDiff, Nat.reduceLT, Nat.reduceMul, Nat.reduceEqDiff, Int.reduceEq, Int.reduceBEq, Int.reduceBNe, Int.reduceLT, Int.reduceLE, Int.reduceGT, Int.reduceGE, Int.reduceNeg, Int.reduceAdd, Int.reduceSub, reduceCtorEq, List.reduceReplicate, ← List.map_take, ← List.map_drop]
      exact ends_own (.inr rfl) rfl hn
    · exact ends_own (.inr rfl) rfl ⟨.nil _ _, Nat.le_refl _, fun _ _ h => h, fun _ _ _ _ _ _ h => by cases h⟩
  | cons n l =>
    simp -dsimp -implicitDefEqProofs only [qq, Nat.reduceBEq, reduceIte, Nat.reduceAdd, Nat.reduceSub, Nat.reduceLeDiff, Nat.reduceLT, Nat.reduceMul, Nat.reduceEqDiff, Int.reduceEq, Int.reduceBEq, Int.reduceBNe, Int.reduceLT, Int.reduceLE, Int.reduceGT, Int.reduceGE, Int.reduceNeg, Int.reduceAdd, Int.reduceSub, reduceCtorEq, List.reduceReplicate, ← List.map_take, ← List.map_drop]
    refine app_emp (ys := (n :: l).map rowC) (by decide) (by decide) rfl hrow (by simpa using hl) fun v' H' hn => ?_
    simp -dsimp -implicitDefEqProofs only [qq, Nat.reduceBEq, reduceIte, Nat.reduceAdd, Nat.reduceSub, Nat.reduceLeDiff, Nat.reduceLT, Nat.reduceMul, Nat.reduceEqDiff, Int.reduceEq, Int.reduceBEq, Int.reduceBNe, Int.reduceLT, Int.reduceLE, Int.reduceGT, Int.reduceGE, Int.reduceNeg, Int.reduceAdd, Int.reduceSub, reduceCtorEq, List.reduceReplicate, ← List.map_take, ← List.map_drop]
    exact ends_own (.inr rfl) rfl hn

/-- Bungs with one more index in the k-th one. -/
def addS (bs : List (List Int)) (k : Nat) (i : Int) : List (List Int) := if k < bs.length then bs.set k ((bs[k]?).getD [] ++ [i]) else bs ++ [[i]]
def newB (bs : List (List Int)) (k : Nat) (i : Int) : List Int := (bs[k]?).getD [] ++ [i]
/-- The first bungs, just so many, that have the r last ones of n saggars besides. -/
def packS (d : List Int → Bool) (n many : Nat) : Nat → List (List Int) → Option (List (List Int))
  | 0, bs => if bs.length = many then some bs else none
  | r + 1, bs => (List.range (min (bs.length + 1) many)).findSome? fun k => if d (newB bs k ((n - (r + 1) : Nat) : Int)) then packS d n many r (addS bs k ((n - (r + 1) : Nat) : Int)) else none

theorem killB_no (H : List Blk) : killB (fun _ => false) H = H := List.ext_getElem? fun i => by rw [killB_keep rfl]
theorem callI_nil {d : Bool} {fv : V} {H : List Blk} {K : V → List Blk → Prop} (h : callI d P fv [.fsl []] H K) : callI d P fv [.nsl] H K :=
  callI_give (fun _ => false) (.cons .nil .nil) (by rw [killB_no]; exact h)

theorem findSome_range {α : Type} {f : Nat → Option α} {n k : Nat} {b : α} (hk : k < n) (h : ∀ j, j < k → f j = none) (hf : f k = some b) : (List.range n).findSome? f = some b := by
  have e : List.range n = List.range k ++ (k :: (List.range (n - k - 1)).map (k + 1 + ·)) := by
    have := List.range_add (n := k) (m := n - k)
    rw [show k + (n - k) = n by omega] at this
    rw [this]
    congr 1
    obtain ⟨q, hq⟩ : ∃ q, n - k = q + 1 := ⟨n - k - 1, by omega⟩
    rw [hq, show q + 1 - 1 = q by omega, List.range_succ_eq_map, List.map_cons, List.map_map]
    simp only [Nat.add_zero, List.cons.injEq, true_and]
    refine List.map_congr_left fun x _ => ?_
    simp only [Function.comp]; omega
  rw [e, List.findSome?_append, List.findSome?_eq_none_iff.2 (fun j hj => h j (by simpa using hj))]
  simp [hf]
theorem packS_none {d : List Int → Bool} {n many r : Nat} {bs : List (List Int)} (h : ∀ j, j < min (bs.length + 1) many → (if d (newB bs j (n - (r + 1) : Nat)) then packS d n many r (addS bs j (n - (r + 1) : Nat)) else none) = none) : packS d n many (r + 1) bs = none := by
  rw [packS, List.findSome?_eq_none_iff]
  exact fun j hj => h j (by simpa using hj)
theorem packS_some {d : List Int → Bool} {n many r : Nat} {bs : List (List Int)} {k : Nat} {b : List (List Int)} (hk : k < min (bs.length + 1) many) (h : ∀ j, j < k → (if d (newB bs j (n - (r + 1) : Nat)) then packS d n many r (addS bs j (n - (r + 1) : Nat)) else none) = none)
    (hf : (if d (newB bs k (n - (r + 1) : Nat)) then packS d n many r (addS bs k (n - (r + 1) : Nat)) else none) = some b) : packS d n many (r + 1) bs = some b := by
  rw [packS]
  exact findSome_range hk h hf
theorem own_pos {H : List Blk} {k : Nat} {rows : List (List V)} {v : V} (h : OwnS H k rows v) (hr : rows ≠ []) : ∃ p c e, v = .rsl p k 0 rows.length c e ∧ H[p]? = some (.row k rows) := by
  rcases h with ⟨h, _⟩ | h
  · exact absurd h hr
  · exact h
theorem callI_nil' {d : Bool} {fv : V} {H : List Blk} {K : V → List Blk → Prop} {b : List Int} (hb : b = []) (h : callI d P fv [.fsl (b.map intC)] H K) : callI d P fv [.nsl] H K := by
  subst hb; exact callI_nil h
theorem give_lit {k : Nat → Bool} {H : List Blk} {p kk n c : Nat} {e : Bool} {rows : List (List V)} (hk : k p = true) (h : H[p]? = some (.row kk rows)) (hn : rows.length = n) (hb : ∀ row ∈ rows, belL 0 row = true) : Give k H (.rsl p kk 0 n c e) (.fsl rows) := by
  subst hn
  refine .sl p kk 0 rows.length c e rows rows hk h (by simp) rfl hb ?_ ?_
  · intro i row row' h1 h3
    simp at h1
    rw [h1] at h3; cases h3; rfl
  · intro i row row' j x x' h1 h3 e1 e2
    simp at h1
    rw [h1] at h3; cases h3
    rw [e1] at e2; cases e2
    exact .keep _
theorem give_set {k : Nat → Bool} {H : List Blk} {p i n c : Nat} {e : Bool} {rows : List (List V)} {u u' : V} (hk : k p = true) (h : H[p]? = some (.row 1 (rows.set i [u]))) (hn : rows.length = n) (hb : ∀ row ∈ rows.set i [u'], belL 0 row = true) (hu : Give k H u u') : Give k H (.rsl p 1 0 n c e) (.fsl (rows.set i [u'])) := by
  subst hn
  refine .sl p 1 0 rows.length c e _ _ hk h (by simp) (by simp) hb ?_ ?_
  · intro j row row' h1 h3
    rw [List.drop_zero, List.take_of_length_le (by simp)] at h1
    rw [List.getElem?_set] at h1 h3
    split at h1
    · rename_i hij
      rw [if_pos hij] at h3
      split at h1
      · rename_i hl
        rw [if_pos hl] at h3
        cases h1; cases h3; rfl
      · cases h1
    · rename_i hij
      rw [if_neg hij] at h3
      rw [h1] at h3; cases h3; rfl
  · intro j row row' q x x' h1 h3 e1 e2
    rw [List.drop_zero, List.take_of_length_le (by simp)] at h1
    rw [List.getElem?_set] at h1 h3
    split at h1
    · rename_i hij
      rw [if_pos hij] at h3
      split at h1
      · rename_i hl
        rw [if_pos hl] at h3
        cases h1; cases h3
        cases q with
        | zero => simp at e1 e2; subst e1 e2; exact hu
        | succ q => simp at e1
      · cases h1
    · rename_i hij
      rw [if_neg hij] at h3
      rw [h1] at h3; cases h3
      rw [e1] at e2; cases e2; exact .keep _
theorem bel_ints (l : List Int) : ∀ row ∈ l.map intC, belL 0 row = true := by intro row hr; obtain ⟨n, _, rfl⟩ := List.mem_map.1 hr; rfl
theorem bel_rows (l : List (List Int)) : ∀ row ∈ l.map rowC, belL 0 row = true := by intro row hr; obtain ⟨n, _, rfl⟩ := List.mem_map.1 hr; rfl

theorem callI_known {f : Nat} (h2 : C_known P f) {H : List Blk} {w : Rg} {l : List Sag} {s : Spt} {m q n c : Nat} {e : Bool} {ts : List (List Bool × Bool)} {some : List Int} {K : V → List Blk → Prop} (hmap : H[m]? = Option.some (.mp (tmap ts))) (hF : Faith w l s ts) (hw : rgB w 0 200 = true) (hv : listB l = true) (h9 : l.length ≤ 9)
    (hs : okIx l.length some) (hn : some.Nodup) (hne : some ≠ []) (hq : H[q]? = Option.some (.row 1 (some.map intC))) (hl : some.length = n) (hK : ∀ ts2, Faith w l s ts2 → K (.b (doS w l s some)) (H.set m (.mp (tmap ts2)))) :
    callI false P (.fn (.func f) [] []) [.agg (packC w l s (.rmp m)), .rsl q 1 0 n c e] H K := by
  have hml := get_lt hmap
  have hqm : q ≠ m := fun h => by rw [h, hmap] at hq; cases hq
  refine sndx_lend (fun i => decide (i < H.length) && decide (i ≠ m)) (fun i hi => by simp at hi; exact hi.1) (.cons (.keep _) (.cons (give_lit (by simp [get_lt hq, hqm]) hq (by simpa using hl) (bel_ints _)) .nil)) (h2 _ w l s m ts some (by rw [killB_keep (by simp)]; exact hmap) hF hw hv h9 hs hn hne) ?_
  rintro r H' ⟨rfl, ts2, hF2, rfl⟩
  refine ⟨rfl, by simp [killB_length], fun id blk hk hb => ?_, ?_⟩
  · by_cases hid : m = id
    · subst hid
      rw [List.getElem?_set_self (by rw [killB_length]; exact hml)] at hb
      cases hb
      intro x hx
      obtain ⟨t, _, rfl⟩ := List.mem_map.1 hx
      refine ⟨?_, rfl⟩
      simp only [keyV, V.flat]
      generalize t.1 = kk
      induction kk with
      | nil => rfl
      | cons a kk ih => simp [flatL, V.flat, ih]
    · rw [List.getElem?_set_ne hid, killB_get] at hb
      have : ¬ id < H.length := fun h => by simp [h] at hk; exact hid hk.symm
      rw [List.getElem?_eq_none (by omega)] at hb
      cases hb
  · have : restB (fun i => decide (i < H.length) && decide (i ≠ m)) H ((killB (fun i => decide (i < H.length) && decide (i ≠ m)) H).set m (.mp (tmap ts2))) = H.set m (.mp (tmap ts2)) := by
      apply List.ext_getElem?
      intro i
      rw [restB_get]
      by_cases hi : i < H.length
      · by_cases him : m = i
        · subst him
          rw [List.getElem?_set_self (by rw [killB_length]; exact hi), List.getElem?_set_self hi]
          simp
        · rw [List.getElem?_set_ne him, List.getElem?_set_ne him, killB_get, List.getElem?_eq_getElem hi]
          have : ¬ i = m := fun h => him h.symm
          simp [hi, this]
      · rw [List.getElem?_eq_none (l := List.set _ _ _) (by rw [List.length_set, killB_length]; omega), List.getElem?_eq_none (l := List.set _ _ _) (by rw [List.length_set]; omega)]
        rfl
    rw [this]
    exact hK ts2 hF2
structure okBs (n : Nat) (bs : List (List Int)) : Prop where
  ix : ∀ b ∈ bs, ∀ i ∈ b, 0 ≤ i ∧ i < n
  nd : bs.flatten.Nodup
  ne : ∀ b ∈ bs, b ≠ []
  len : bs.length ≤ n
  pos : 0 < n → bs ≠ []

theorem okBs_add {n k : Nat} {bs : List (List Int)} (h : okBs n bs) (hk : k ≤ bs.length) : okBs (n + 1) (addS bs k n) := by
  have hn : ((n : Nat) : Int) ∉ bs.flatten := fun hm => by
    obtain ⟨b, hb, hi⟩ := List.mem_flatten.1 hm
    have := h.ix b hb _ hi; omega
  have hp : (addS bs k n).flatten.Perm (bs.flatten ++ [(n : Int)]) := by
    unfold addS
    split
    · rename_i hlt
      obtain ⟨b, hb, _, htk, hdr⟩ := next_of hlt
      rw [hb, List.set_eq_take_append_cons_drop, if_pos hlt]
      have e : bs.flatten = (bs.take k).flatten ++ (b ++ (bs.drop (k + 1)).flatten) := by
        conv => lhs; rw [← List.take_append_drop k bs, hdr]
        simp
      rw [e]
      simp only [Option.getD_some, List.flatten_append, List.flatten_cons, List.append_assoc]
      refine List.Perm.append_left _ (List.Perm.append_left _ ?_)
      exact List.perm_append_comm
    · simp
  refine ⟨fun b hb i hi => ?_, ?_, fun b hb => ?_, ?_, fun _ => ?_⟩
  · have : i ∈ (addS bs k n).flatten := List.mem_flatten.2 ⟨b, hb, hi⟩
    rcases List.mem_append.1 (hp.mem_iff.1 this) with g | g
    · obtain ⟨b', hb', hi'⟩ := List.mem_flatten.1 g
      have := h.ix b' hb' i hi'; omega
    · simp at g; omega
  · rw [hp.nodup_iff, List.nodup_append]
    exact ⟨h.nd, by simp, fun a ha c hc e => by simp at hc; subst hc; subst e; exact hn ha⟩
  · unfold addS at hb
    split at hb
    · rcases List.mem_or_eq_of_mem_set hb with g | g
      · exact h.ne b g
      · rw [g]; simp
    · rcases List.mem_append.1 hb with g | g
      · exact h.ne b g
      · simp at g; rw [g]; simp
  · have := h.len
    unfold addS
    split
    · simp; omega
    · simp; omega
  · unfold addS
    split
    · rename_i hlt
      intro e
      have := congrArg List.length e
      simp at this
      rw [this] at hlt; simp at hlt
    · simp
theorem okBs_new {n k : Nat} {bs : List (List Int)} (h : okBs n bs) : okIx (n + 1) (newB bs k n) ∧ (newB bs k n).Nodup ∧ newB bs k n ≠ [] := by
  unfold newB
  cases hb : bs[k]? with
  | none => refine ⟨fun i hi => by simp at hi; omega, by simp, by simp⟩
  | some b =>
    have hbm := List.mem_of_getElem? hb
    refine ⟨fun i hi => ?_, ?_, by simp⟩
    · simp at hi
      rcases hi with hi | rfl
      · have := h.ix b hbm i hi; omega
      · omega
    · simp only [Option.getD_some, List.nodup_append]
      exact ⟨(List.pairwise_flatten.1 h.nd).1 b hbm, by simp, fun a ha c hc e => by simp at hc; subst hc; subst e; have := h.ix b hbm _ ha; omega⟩

def PackR (w : Rg) (l : List Sag) (s : Spt) (m : Nat) (H : List Blk) (res : Option (List (List Int))) (v : V) (H' : List Blk) : Prop :=
  (∃ ts', Faith w l s ts' ∧ H' = H.set m (.mp (tmap ts'))) ∧ match res with | none => v = .nsl | some b => b ≠ [] ∧ v = .fsl (b.map rowC)
def C_pack (P : Program) (f : Nat) : Prop := ∀ (r : Nat) (H : List Blk) (w : Rg) (l : List Sag) (s : Spt) (m : Nat) (ts : List (List Bool × Bool)) (bs : List (List Int)) (many : Nat), H[m]? = some (.mp (tmap ts)) → Faith w l s ts → rgB w 0 200 = true → listB l = true →
  0 < l.length → l.length ≤ 9 → r ≤ l.length → okBs (l.length - r) bs → many ≤ 9 → SndX P (.fn (.func f) [] []) [.agg (packC w l s (.rmp m)), .fsl (bs.map rowC), .i .i64 (l.length - r : Nat), .i .i64 many] H (PackR w l s m H (packS (doS w l s) l.length many r bs))

/-- Left, where one map alone of the blocks that were there has been turned. -/
theorem endsx_at {H H2 : List Blk} {K : V → List Blk → Prop} {ress : List IRes} {E : Env} {vs : List V} {m : Nat} {ts ts' : List (List Bool × Bool)} (hmap : H[m]? = some (.mp (tmap ts))) (hm2 : H2[m]? = some (.mp (tmap ts'))) (hl : H.length ≤ H2.length) (hk : ∀ p, p < H.length → p ≠ m → H2[p]? = H[p]?) (h : resIs E H2 ress = some vs) (hb : (resV vs).bel 0 = true) (hK : K (resV vs) (H.set m (.mp (tmap ts')))) :
    EndsX ress H K .ret E H2 := by
  have hml := get_lt hmap
  have he : H2 = H.set m (.mp (tmap ts')) ++ H2.drop H.length := by
    apply List.ext_getElem?
    intro p
    by_cases hp : p < H.length
    · rw [List.getElem?_append_left (by simpa using hp)]
      by_cases hpm : p = m
      · subst hpm; rw [hm2, List.getElem?_set_self hml]
      · rw [List.getElem?_set_ne (fun e => hpm e.symm), hk p hp hpm]
    · rw [List.getElem?_append_right (by simp; omega), List.getElem?_drop]
      congr 1; simp; omega
  rw [he] at h ⊢
  exact endsx_map hmap h hb hK

set_option maxHeartbeats 4000000 in
theorem ok_pack (hm : P.follows .mixedOrders = true) {f f0 f1 f2 : Nat} (low : Low_bung_packer_pack P f f0 f1 f2 f) (h0 : C_CloneR P f0) (h1 : C_CloneI P f1) (h2 : C_known P f2) : C_pack P f := by
  intro r
  induction r with
  | zero =>
    intro H w l s m ts bs many hmap hF hw hv hpos h9 hr hok hmany
    have hlen := list_len hv
    unfold packC
    refine sndx_ic hm low (by simp) ?_
    unfold ic_bung_packer_pack
    simp -dsimp -implicitDefEqProofs only [Nat.sub_zero, qq, Nat.reduceBEq, reduceIte, Nat.reduceAdd, Nat.reduceSub, Nat.reduceLeDiff, Nat.reduceLT, Nat.reduceMul, Nat.reduceEqDiff, Int.reduceEq, Int.reduceBEq, Int.reduceBNe, Int.reduceLT, Int.reduceLE, Int.reduceGT, Int.reduceGE, Int.reduceNeg, Int.reduceAdd, Int.reduceSub, reduceCtorEq, List.reduceReplicate, ← List.map_take, ← List.map_drop]
    refine brG_of (fun h => ?_) (fun h => ?_) <;> simp -dsimp -implicitDefEqProofs only [qq, Nat.reduceBEq, reduceIte, Nat.reduceAdd, Nat.reduceSub, Nat.reduceLeDiff, Nat.reduceLT, Nat.reduceMul, Nat.reduceEqDiff, Int.reduceEq, Int.reduceBEq, Int.reduceBNe, Int.reduceLT, Int.reduceLE, Int.reduceGT, Int.reduceGE, Int.reduceNeg, Int.reduceAdd, Int.reduceSub, reduceCtorEq, List.reduceReplicate, ← List.map_take, ← List.map_drop]
    · have e : bs.length = many := by simp at h; omega
      refine endsx_at (ts' := ts) hmap (get_app hmap _) (by simp) (fun p hp _ => List.getElem?_append_left hp) rfl rfl ⟨⟨ts, hF, rfl⟩, ?_⟩
      simp only [packS, if_pos e]
      exact ⟨hok.pos (by omega), rfl⟩
    · have e : ¬ bs.length = many := by simp at h; omega
      refine endsx_at (ts' := ts) hmap (get_app hmap _) (by simp) (fun p hp _ => List.getElem?_append_left hp) rfl rfl ⟨⟨ts, hF, rfl⟩, ?_⟩
      simp only [packS, if_neg e]
      rfl
  | succ r ih =>
    intro H w l s m ts bs many hmap hF hw hv hpos h9 hr hok hmany
    have hlen := list_len hv
    have hat : (((l.length - (r + 1) : Nat) : Int) == (l.length : Int)) = false := by simp; omega
    have hml := get_lt hmap
    refine sndx_ic hm low (by simp) ?_
    unfold ic_bung_packer_pack packC
    simp -dsimp -implicitDefEqProofs only [hat, qq, Nat.reduceBEq, reduceIte, Nat.reduceAdd, Nat.reduceSub, Nat.reduceLeDiff, Nat.reduceLT, Nat.reduceMul, Nat.reduceEqDiff, Int.reduceEq, Int.reduceBEq, Int.reduceBNe, Int.reduceLT, Int.reduceLE, Int.reduceGT, Int.reduceGE, Int.reduceNeg, Int.reduceAdd, Int.reduceSub, reduceCtorEq, List.reduceReplicate, ← List.map_take, ← List.map_drop]
    refine loopI_st (fun k : Nat => bs.length + 1 - k) (fun k E H' => k ≤ min (bs.length + 1) many ∧ E = [(1, .fsl (bs.map rowC)), (2, .i .i64 (l.length - (r + 1) : Nat)), (3, .i .i64 many), (4, .rpt H.length 6 0 0), (9, .i .i64 k)] ∧ ∃ ts', Faith w l s ts' ∧ H'[m]? = some (.mp (tmap ts')) ∧ H'[H.length]? = some (.row 6 [packC w l s (.rmp m)]) ∧ H.length + 1 ≤ H'.length ∧ (∀ p, p < H.length → p ≠ m → H'[p]? = H[p]?) ∧
      (∀ j, j < k → (if doS w l s (newB bs j (l.length - (r + 1) : Nat)) then packS (doS w l s) l.length many r (addS bs j (l.length - (r + 1) : Nat)) else none) = none)) 0 ⟨by omega, rfl, ts, hF, get_app hmap _, by simp [packC], by simp, fun p hp _ => List.getElem?_append_left hp, fun j hj => by omega⟩ ?_
    rintro k _ H' ⟨hk, rfl, ts', hF', hm', hp', hl', hk', hno⟩
    simp -dsimp -implicitDefEqProofs only [qq, Nat.reduceBEq, reduceIte, Nat.reduceAdd, Nat.reduceSub, Nat.reduceLeDiff, Nat.reduceLT, Nat.reduceMul, Nat.reduceEqDiff, Int.reduceEq, Int.reduceBEq, Int.reduceBNe, Int.reduceLT, Int.reduceLE, Int.reduceGT, Int.reduceGE, Int.reduceNeg, Int.reduceAdd, Int.reduceSub, reduceCtorEq, List.reduceReplicate, ← List.map_take, ← List.map_drop]
    have hat2 : l.length - (r + 1) < l.length := by omega
    have hbl := hok.len
    have gone : ¬ k < min (bs.length + 1) many → EndsX [IRes.tmp 8] H (PackR w l s m H (packS (doS w l s) l.length many (r + 1) bs)) Exit.ret [(8, V.nsl)] H' := fun hge => by
      refine endsx_at hmap hm' (by omega) hk' rfl rfl ⟨⟨ts', hF', rfl⟩, ?_⟩
      rw [packS_none fun j hj => hno j (by omega)]
      rfl
    cases hc : decide ((k : Int) ≤ (bs.length : Int)) <;> simp -dsimp -implicitDefEqProofs only [hc, qq, Nat.reduceBEq, reduceIte, Nat.reduceAdd, Nat.reduceSub, Nat.reduceLeDiff, Nat.reduceLT, Nat.reduceMul, Nat.reduceEqDiff, Int.reduceEq, Int.reduceBEq, Int.reduceBNe, Int.reduceLT, Int.reduceLE, Int.reduceGT, Int.reduceGE, Int.reduceNeg, Int.reduceAdd, Int.reduceSub, reduceCtorEq, List.reduceReplicate, ← List.map_take, ← List.map_drop]
    · exact gone (by simp at hc; omega)
    cases hc2 : decide ((k : Int) < (many : Int)) <;> simp -dsimp -implicitDefEqProofs only [hc2, qq, Nat.reduceBEq, reduceIte, Nat.reduceAdd, Nat.reduceSub, Nat.reduceLeDiff, Nat.reduceLT, Nat.reduceMul, Nat.reduceEqDiff, Int.reduceEq, Int.reduceBEq, Int.reduceBNe, Int.reduceLT, Int.reduceLE, Int.reduceGT, Int.reduceGE, Int.reduceNeg, Int.reduceAdd, Int.reduceSub, reduceCtorEq, List.reduceReplicate, ← List.map_take, ← List.map_drop]
    · exact gone (by simp at hc2; omega)
    have hkb : k ≤ bs.length := by simp at hc; omega
    have hkm : k < many := by simp at hc2; omega
    have hwk : IntKind.i64.wrap ((k : Int) + 1) = ((k + 1 : Nat) : Int) := wrap_succ (by omega)
    have hwa : IntKind.i64.wrap (((l.length - (r + 1) : Nat) : Int) + 1) = ((l.length - r : Nat) : Int) := by rw [wrap_succ (by omega)]; omega
    refine callI_x (h0 H' bs (by omega)) fun v Hn hn => ?_
    simp -dsimp -implicitDefEqProofs only [qq, Nat.reduceBEq, reduceIte, Nat.reduceAdd, Nat.reduceSub, Nat.reduceLeDiff, Nat.reduceLT, Nat.reduceMul, Nat.reduceEqDiff, Int.reduceEq, Int.reduceBEq, Int.reduceBNe, Int.reduceLT, Int.reduceLE, Int.reduceGT, Int.reduceGE, Int.reduceNeg, Int.reduceAdd, Int.reduceSub, reduceCtorEq, List.reduceReplicate, ← List.map_take, ← List.map_drop]
    refine brG_of (fun hx => ?_) (fun hx => ?_) <;> simp -dsimp -implicitDefEqProofs only [qq, Nat.reduceBEq, reduceIte, Nat.reduceAdd, Nat.reduceSub, Nat.reduceLeDiff, Nat.reduceLT, Nat.reduceMul, Nat.reduceEqDiff, Int.reduceEq, Int.reduceBEq, Int.reduceBNe, Int.reduceLT, Int.reduceLE, Int.reduceGT, Int.reduceGE, Int.reduceNeg, Int.reduceAdd, Int.reduceSub, reduceCtorEq, List.reduceReplicate, ← List.map_take, ← List.map_drop]
    case' refine_1 =>
      have hkk : k = bs.length := by simp at hx; omega
      refine app_own (ys := [[.nsl]]) (hn.own.app _) (by decide) (by decide) (by simp [Sh.shown, gapp]) (by simp [V.one]) (by simp; omega) fun v2 H2 ho2 ha2 hf2 => ?_
      obtain ⟨p2, c2, e2, rfl, hp2⟩ := own_pos ho2 (by simp)
      have hrow : (bs.map rowC ++ [[.nsl]])[k]? = some [V.nsl] := by rw [hkk, List.getElem?_append_right (by simp)]; simp
      have keep2 : ∀ p b, H'[p]? = some b → H2[p]? = some b := fun p b hb => ha2.keep p b (get_app (hn.keep p b hb) _) fun k' o l' c' e' hv' => by have := hn.fresh _ _ _ _ _ _ hv'; have := get_lt hb; omega
      have hfr : H'.length ≤ p2 := by
        rcases hf2 _ _ _ _ _ _ rfl with h | h
        · exact hn.fresh _ _ _ _ _ _ h
        · have := hn.len; simp at h; omega
      have hl2 : H'.length ≤ H2.length := by have := ha2.len; have := hn.len; simp at *; omega
      obtain ⟨b, hbe⟩ : ∃ b : List Int, b = [] := ⟨_, rfl⟩
      have hbl9 : b.length ≤ 9 := by simp [hbe]
      have hnew : newB bs k (l.length - (r + 1) : Nat) = b ++ [((l.length - (r + 1) : Nat) : Int)] := by simp [newB, hkk, hbe]
      have hset : (bs.map rowC ++ [[V.nsl]]).set k [V.fsl ((b ++ [((l.length - (r + 1) : Nat) : Int)]).map intC)] = (addS bs k (l.length - (r + 1) : Nat)).map rowC := by
        simp [addS, hkk, hbe, List.set_append_right]
      generalize hrows2 : bs.map rowC ++ [[V.nsl]] = rows2 at *
      have hlr : k < rows2.length := (List.getElem?_eq_some_iff.1 hrow).1
      simp -dsimp -implicitDefEqProofs only [hp2, hrow, qq, Nat.reduceBEq, reduceIte, Nat.reduceAdd, Nat.reduceSub, Nat.reduceLeDiff, Nat.reduceLT, Nat.reduceMul, Nat.reduceEqDiff, Int.reduceEq, Int.reduceBEq, Int.reduceBNe, Int.reduceLT, Int.reduceLE, Int.reduceGT, Int.reduceGE, Int.reduceNeg, Int.reduceAdd, Int.reduceSub, reduceCtorEq, List.reduceReplicate, ← List.map_take, ← List.map_drop]
      refine ⟨by omega, by omega, callI_nil' hbe ?_⟩
    case' refine_2 =>
      have hkl : k < bs.length := by simp at hx; omega
      obtain ⟨b, hb, hbm, _, _⟩ := next_of hkl
      obtain ⟨p2, c2, e2, rfl, hp2⟩ := own_pos hn.own (by simp; intro e; rw [e] at hkl; simp at hkl)
      have hrow : (bs.map rowC)[k]? = some [V.fsl (b.map intC)] := by rw [List.getElem?_map, hb]; rfl
      have keep2 := hn.keep
      have hfr : H'.length ≤ p2 := hn.fresh _ _ _ _ _ _ rfl
      have hl2 : H'.length ≤ Hn.length := hn.len
      have hbl9 : b.length ≤ 9 := by
        have h1 : b.Nodup := (List.pairwise_flatten.1 hok.nd).1 b hbm
        have := nodup_bound _ b h1 (hok.ix b hbm)
        omega
      have hnew : newB bs k (l.length - (r + 1) : Nat) = b ++ [((l.length - (r + 1) : Nat) : Int)] := by simp [newB, hb]
      have hset : (bs.map rowC).set k [V.fsl ((b ++ [((l.length - (r + 1) : Nat) : Int)]).map intC)] = (addS bs k (l.length - (r + 1) : Nat)).map rowC := by
        rw [addS, if_pos hkl, List.map_set, hb]; rfl
      have hlr2 : (bs.map rowC).length = bs.length := List.length_map _
      obtain ⟨rows2, hrows2⟩ : ∃ rows2, rows2 = bs.map rowC := ⟨_, rfl⟩
      obtain ⟨H2, rfl⟩ : ∃ H2, H2 = Hn := ⟨_, rfl⟩
      rw [← hrows2] at hp2 hrow hset hlr2
      have hlr : k < rows2.length := (List.getElem?_eq_some_iff.1 hrow).1
      simp -dsimp -implicitDefEqProofs only [hp2, hrow, qq, Nat.reduceBEq, reduceIte, Nat.reduceAdd, Nat.reduceSub, Nat.reduceLeDiff, Nat.reduceLT, Nat.reduceMul, Nat.reduceEqDiff, Int.reduceEq, Int.reduceBEq, Int.reduceBNe, Int.reduceLT, Int.reduceLE, Int.reduceGT, Int.reduceGE, Int.reduceNeg, Int.reduceAdd, Int.reduceSub, reduceCtorEq, List.reduceReplicate, ← List.map_take, ← List.map_drop]
      refine ⟨by omega, by omega, ?_⟩
    all_goals
      refine callI_x (h1 H2 b (by omega)) fun u Hu hu => ?_
      simp -dsimp -implicitDefEqProofs only [qq, Nat.reduceBEq, reduceIte, Nat.reduceAdd, Nat.reduceSub, Nat.reduceLeDiff, Nat.reduceLT, Nat.reduceMul, Nat.reduceEqDiff, Int.reduceEq, Int.reduceBEq, Int.reduceBNe, Int.reduceLT, Int.reduceLE, Int.reduceGT, Int.reduceGE, Int.reduceNeg, Int.reduceAdd, Int.reduceSub, reduceCtorEq, List.reduceReplicate, ← List.map_take, ← List.map_drop]
      refine app_own (ys := [[.i .i64 (l.length - (r + 1) : Nat)]]) (hu.own.app _) (by decide) (by decide) (by simp [Sh.shown, gapp]) (by simp [V.one]) (by simp; omega) fun u3 H3 hu3 ha3 hf3 => ?_
      obtain ⟨q3, c3, e3, rfl, hq3⟩ := own_pos hu3 (by simp)
      have keep3 : ∀ p b, H2[p]? = some b → H3[p]? = some b := fun p b hb => ha3.keep p b (get_app (hu.keep p b hb) _) fun k' o l' c' e' hv' => by have := hu.fresh _ _ _ _ _ _ hv'; have := get_lt hb; omega
      have hfr3 : H2.length ≤ q3 := by
        rcases hf3 _ _ _ _ _ _ rfl with h | h
        · exact hu.fresh _ _ _ _ _ _ h
        · have := hu.len; simp at h; omega
      have hp3 := keep3 _ _ hp2
      have hpl2 := get_lt hp2
      have eP : ∀ B, (H3.set p2 B)[H.length]? = some (.row 6 [packC w l s (.rmp m)]) := fun B => get_setne (keep3 _ _ (keep2 _ _ hp')) (by omega)
      have eM : ∀ B, (H3.set p2 B)[m]? = some (.mp (tmap ts')) := fun B => get_setne (keep3 _ _ (keep2 _ _ hm')) (by omega)
      have eQ : ∀ B, (H3.set p2 B)[p2]? = some B := fun B => get_setsame hp3
      have eR : ∀ B, (H3.set p2 B)[q3]? = some (.row 1 ((b ++ [((l.length - (r + 1) : Nat) : Int)]).map intC)) := fun B => by rw [get_setne hq3 (by omega)]; simp
      have hsr : ∀ y, (rows2.set k y)[k]? = some y := fun y => List.getElem?_set_self hlr
      simp -dsimp -implicitDefEqProofs only [hp3, hrow, eP, eQ, packC, hsr, qq, Nat.reduceBEq, reduceIte, Nat.reduceAdd, Nat.reduceSub, Nat.reduceLeDiff, Nat.reduceLT, Nat.reduceMul, Nat.reduceEqDiff, Int.reduceEq, Int.reduceBEq, Int.reduceBNe, Int.reduceLT, Int.reduceLE, Int.reduceGT, Int.reduceGE, Int.reduceNeg, Int.reduceAdd, Int.reduceSub, reduceCtorEq, List.reduceReplicate, ← List.map_take, ← List.map_drop]
      refine ⟨by omega, by omega, by omega, by omega, ?_⟩
      obtain ⟨o1, o2, o3⟩ := okBs_new (k := k) hok
      rw [show l.length - (r + 1) + 1 = l.length - r by omega] at o1
      refine callI_known h2 (some := newB bs k (l.length - (r + 1) : Nat)) (eM _) hF' hw hv h9 (fun i hi => by have := o1 i hi; omega) o2 o3 (by rw [hnew]; exact eR _) (by rw [hnew]; simp) fun ts2 hF2 => ?_
      have eP2 : ∀ B C, ((H3.set p2 B).set m C)[H.length]? = some (.row 6 [packC w l s (.rmp m)]) := fun B C => get_setne (eP B) (by omega)
      have eM2 : ∀ B C, ((H3.set p2 B).set m C)[m]? = some C := fun B C => get_setsame (eM B)
      have eQ2 : ∀ B C, ((H3.set p2 B).set m C)[p2]? = some B := fun B C => get_setne (eQ B) (by omega)
      have eR2 : ∀ B C, ((H3.set p2 B).set m C)[q3]? = some (.row 1 ((b ++ [((l.length - (r + 1) : Nat) : Int)]).map intC)) := fun B C => get_setne (eR B) (by omega)
      have step : ∀ (H6 : List Blk) (ts3 : List (List Bool × Bool)), Faith w l s ts3 → H6[m]? = some (.mp (tmap ts3)) → H6[H.length]? = some (.row 6 [packC w l s (.rmp m)]) → H3.length ≤ H6.length → (∀ p, p < H.length → p ≠ m → H6[p]? = H3[p]?) → (if doS w l s (newB bs k (l.length - (r + 1) : Nat)) then packS (doS w l s) l.length many r (addS bs k (l.length - (r + 1) : Nat)) else none) = none →
          ∃ s', bs.length + 1 - s' < bs.length + 1 - k ∧ s' ≤ min (bs.length + 1) many ∧ [(1, V.fsl (List.map rowC bs)), (2, V.i IntKind.i64 (l.length - (r + 1) : Nat)), (3, V.i IntKind.i64 many), (4, V.rpt H.length 6 0 0), (9, V.i IntKind.i64 (k + 1 : Nat))] = [(1, V.fsl (List.map rowC bs)), (2, V.i IntKind.i64 (l.length - (r + 1) : Nat)), (3, V.i IntKind.i64 many), (4, V.rpt H.length 6 0 0), (9, V.i IntKind.i64 s')] ∧
            ∃ ts', Faith w l s ts' ∧ H6[m]? = some (Blk.mp (tmap ts')) ∧ H6[H.length]? = some (Blk.row 6 [packC w l s (V.rmp m)]) ∧ H.length + 1 ≤ H6.length ∧ (∀ p, p < H.length → p ≠ m → H6[p]? = H[p]?) ∧ ∀ j, j < s' → (if doS w l s (newB bs j (l.length - (r + 1) : Nat)) then packS (doS w l s) l.length many r (addS bs j (l.length - (r + 1) : Nat)) else none) = none := fun H6 ts3 g1 g2 g3 g4 g5 g6 =>
        ⟨k + 1, by omega, by omega, rfl, ts3, g1, g2, g3, by have := get_lt hp3; omega, fun p hp hpm => by
          obtain ⟨y, hy⟩ : ∃ y, H'[p]? = some y := ⟨H'[p], by simp⟩
          rw [g5 p hp hpm, keep3 p y (keep2 p y hy), ← hy, hk' p hp hpm], fun j hj => by
          rcases Nat.lt_succ_iff_lt_or_eq.1 hj with h | rfl
          · exact hno j h
          · exact g6⟩
      cases hd : doS w l s (newB bs k (l.length - (r + 1) : Nat)) <;> simp -dsimp -implicitDefEqProofs only [hwk, qq, Nat.reduceBEq, reduceIte, Nat.reduceAdd, Nat.reduceSub, Nat.reduceLeDiff, Nat.reduceLT, Nat.reduceMul, Nat.reduceEqDiff, Int.reduceEq, Int.reduceBEq, Int.reduceBNe, Int.reduceLT, Int.reduceLE, Int.reduceGT, Int.reduceGE, Int.reduceNeg, Int.reduceAdd, Int.reduceSub, reduceCtorEq, List.reduceReplicate, ← List.map_take, ← List.map_drop]
      · refine step _ ts2 hF2 (eM2 _ _) (eP2 _ _) (by simp) (fun p hp hpm => ?_) (by simp [hd])
        rw [List.getElem?_set_ne (by omega), List.getElem?_set_ne (by omega)]
      · simp -dsimp -implicitDefEqProofs only [eP2, packC, hwa, qq, Nat.reduceBEq, reduceIte, Nat.reduceAdd, Nat.reduceSub, Nat.reduceLeDiff, Nat.reduceLT, Nat.reduceMul, Nat.reduceEqDiff, Int.reduceEq, Int.reduceBEq, Int.reduceBNe, Int.reduceLT, Int.reduceLE, Int.reduceGT, Int.reduceGE, Int.reduceNeg, Int.reduceAdd, Int.reduceSub, reduceCtorEq, List.reduceReplicate, ← List.map_take, ← List.map_drop]
        refine callI_give (fun i => i == p2 || i == q3) (.cons (.keep _) (.cons (give_set (by simp) (eQ2 _ _) (by omega) ?_ (give_lit (rows := (b ++ [((l.length - (r + 1) : Nat) : Int)]).map intC) (by simp) (eR2 _ _) (by simp) (bel_ints _))) (.same _))) ?_
        · rw [hset]; exact bel_rows _
        rw [hset]
        have hkm' : (fun i => i == p2 || i == q3) m = false := by simp; omega
        have hkH : (fun i => i == p2 || i == q3) H.length = false := by simp; omega
        have hok2 := okBs_add hok hkb
        rw [show l.length - (r + 1) + 1 = l.length - r by omega] at hok2
        refine callI_x (ih (killB (fun i => i == p2 || i == q3) _) w l s m ts2 (addS bs k (l.length - (r + 1) : Nat)) many (by rw [killB_keep hkm']; exact eM2 _ _) hF2 hw hv hpos h9 (by omega) hok2 hmany) ?_
        rintro v' H6 ⟨⟨ts3, hF3, rfl⟩, hres⟩
        have e1 : ∀ B C D, ((killB (fun i => i == p2 || i == q3) ((H3.set p2 B).set m C)).set m D)[m]? = some D := fun B C D => by rw [List.getElem?_set_self (by rw [killB_length]; exact get_lt (eM2 B C))]
        have e2 : ∀ B C D, ((killB (fun i => i == p2 || i == q3) ((H3.set p2 B).set m C)).set m D)[H.length]? = some (.row 6 [packC w l s (.rmp m)]) := fun B C D => by rw [List.getElem?_set_ne (by omega), killB_keep hkH]; exact eP2 B C
        have e4 : ∀ B C D, H3.length ≤ ((killB (fun i => i == p2 || i == q3) ((H3.set p2 B).set m C)).set m D).length := fun B C D => by rw [List.length_set, killB_length]; simp
        have e5 : ∀ B C D p, p < H.length → p ≠ m → ((killB (fun i => i == p2 || i == q3) ((H3.set p2 B).set m C)).set m D)[p]? = H3[p]? := fun B C D p hp hpm => by
          rw [List.getElem?_set_ne (by omega), killB_keep (by simp; omega), List.getElem?_set_ne (by omega), List.getElem?_set_ne (by omega)]
        cases hr2 : packS (doS w l s) l.length many r (addS bs k (l.length - (r + 1) : Nat)) with
        | none =>
          rw [hr2] at hres
          subst hres
          simp -dsimp -implicitDefEqProofs only [hwk, qq, Nat.reduceBEq, reduceIte, Nat.reduceAdd, Nat.reduceSub, Nat.reduceLeDiff, Nat.reduceLT, Nat.reduceMul, Nat.reduceEqDiff, Int.reduceEq, Int.reduceBEq, Int.reduceBNe, Int.reduceLT, Int.reduceLE, Int.reduceGT, Int.reduceGE, Int.reduceNeg, Int.reduceAdd, Int.reduceSub, reduceCtorEq, List.reduceReplicate, ← List.map_take, ← List.map_drop]
          exact step _ ts3 hF3 (e1 _ _ _) (e2 _ _ _) (e4 _ _ _) (e5 _ _ _) (by simp [hd, hr2])
        | some out =>
          rw [hr2] at hres
          obtain ⟨hne, rfl⟩ := hres
          obtain ⟨x, out', rfl⟩ : ∃ x out', out = x :: out' := by cases out with | nil => exact absurd rfl hne | cons x o => exact ⟨x, o, rfl⟩
          simp -dsimp -implicitDefEqProofs only [qq, Nat.reduceBEq, reduceIte, Nat.reduceAdd, Nat.reduceSub, Nat.reduceLeDiff, Nat.reduceLT, Nat.reduceMul, Nat.reduceEqDiff, Int.reduceEq, Int.reduceBEq, Int.reduceBNe, Int.reduceLT, Int.reduceLE, Int.reduceGT, Int.reduceGE, Int.reduceNeg, Int.reduceAdd, Int.reduceSub, reduceCtorEq, List.reduceReplicate, ← List.map_take, ← List.map_drop]
          refine endsx_at hmap (e1 _ _ _) (by have := e4 (.row 1 (rows2.set k [V.rsl q3 1 0 (b.length + 1) c3 e3])) (.mp (tmap ts2)) (.mp (tmap ts3)); have := get_lt hp3; omega) (fun p hp hpm => ?_) rfl rfl ⟨⟨ts3, hF3, rfl⟩, ?_⟩
          · obtain ⟨y, hy⟩ : ∃ y, H'[p]? = some y := ⟨H'[p], by simp⟩
            rw [e5 _ _ _ p hp hpm, keep3 p y (keep2 p y hy), ← hy, hk' p hp hpm]
          · rw [packS_some (k := k) (by omega) hno (by rw [if_pos hd, hr2])]
            exact ⟨by simp, rfl⟩
end Go.Sh.C3
end
section
namespace Go.Sh.C3
open Go.Sh
set_option maxRecDepth 10000
set_option linter.unusedVariables false
set_option linter.unusedSimpArgs false
variable {P : Program}
def ic_potbankref03_SameParts (f0 : Nat) : IC := .seq (.reg [⟨some 4, none, .mov (.c (.b false))⟩] [0, 1]) (.seq (.reg [⟨some 7, none, .mov (.t 0)⟩, ⟨some 8, none, .len false (.t 7)⟩, ⟨some 9, none, .mov (.t 1)⟩, ⟨some 10, none, .len false (.t 9)⟩, ⟨some 11, none, .bin .eql (.t 8) (.t 10)⟩, ⟨some 5, none, .mov (.t 11)⟩] [0, 1, 5]) (.seq (.seq (.reg [⟨some 6, none, .mov (.c (.i .i64 (0)))⟩] [0, 1, 5, 6]) (.block 0 (.loop (.seq (.seq (.reg [⟨some 12, none, .mov (.t 6)⟩, ⟨some 13, none, .mov (.t 0)⟩, ⟨some 14, none, .len false (.t 13)⟩, ⟨some 15, none, .bin .lss (.t 12) (.t 14)⟩, ⟨some 16, none, .mov (.t 15)⟩, ⟨some 17, some (16, true), .mov (.t 5)⟩, ⟨some 18, none, .pick (.t 16) (.t 17) (.c (.b false))⟩] [0, 1, 5, 6, 18]) (.cond (.t 18) (.skip) (.exit 0))) (.seq (.block 1 (.drg [(0, ⟨some 21, none, .mov (.t 0)⟩), (0, ⟨some 22, none, .mov (.t 6)⟩), (0, ⟨some 23, none, .ixs 1 (.t 21) (.t 22)⟩), (0, ⟨some 24, none, .ld none (.t 23)⟩), (0, ⟨some 25, none, .mov (.t 1)⟩), (0, ⟨some 26, none, .mov (.t 6)⟩), (0, ⟨some 27, none, .ixs 1 (.t 25) (.t 26)⟩), (0, ⟨some 28, none, .ld none (.t 27)⟩), (0, ⟨some 29, none, .calv (.c (.fn (.func f0) [] [])) [.t 24, .t 28]⟩), (0, ⟨some 5, none, .mov (.t 29)⟩)] 8 [0, 1, 5, 6])) (.reg [⟨some 19, none, .mov (.t 6)⟩, ⟨some 20, none, .bin .add (.t 19) (.c (.i .i64 (1)))⟩, ⟨some 6, none, .mov (.t 20)⟩] [0, 1, 5, 6])))))) (.seq (.reg [⟨some 30, none, .mov (.t 5)⟩, ⟨some 4, none, .mov (.t 30)⟩] [4]) (.ret))))
abbrev Low_potbankref03_SameParts (P : Program) (f f0 : Nat) : Prop := lowF P f = some (31, [.tmp 4], (ic_potbankref03_SameParts f0).erase)

def C_SameParts (P : Program) (f : Nat) : Prop := ∀ (a b : List (List Int)), a.length ≤ 1000000 → (∀ x ∈ a, x.length ≤ 1000000) → Snd P f [.fsl (a.map rowC), .fsl (b.map rowC)] [] (.b (decide (a = b))) []
theorem ok_SameParts (hm : P.follows .mixedOrders = true) {f f0 : Nat} (low : Low_potbankref03_SameParts P f f0) (h0 : C_Same P f0) : C_SameParts P f := by
  intro a b hl hal
  refine snd_ic hm low (by simp) ?_
  unfold ic_potbankref03_SameParts
  simp -dsimp -implicitDefEqProofs only [qq, Nat.reduceBEq, reduceIte, Nat.reduceAdd, Nat.reduceSub, Nat.reduceLeDiff, Nat.reduceLT, Nat.reduceMul, Nat.reduceEqDiff, Int.reduceEq, Int.reduceBEq, Int.reduceBNe, Int.reduceLT, Int.reduceLE, Int.reduceGT, Int.reduceGE, Int.reduceNeg, Int.reduceAdd, Int.reduceSub, reduceCtorEq, List.reduceReplicate, ← List.map_take, ← List.map_drop]
  refine loopI_st (fun k : Nat => a.length - k) (fun k E H => k ≤ a.length ∧ E = [(0, .fsl (a.map rowC)), (1, .fsl (b.map rowC)), (5, .b (decide (a.length = b.length ∧ a.take k = b.take k))), (6, .i .i64 k)]) 0 ⟨by omega, by simp; rw [Bool.eq_iff_iff]; simp; omega⟩ ?_
  rintro k _ H ⟨hk, rfl⟩
  simp -dsimp -implicitDefEqProofs only [qq, Nat.reduceBEq, reduceIte, Nat.reduceAdd, Nat.reduceSub, Nat.reduceLeDiff, Nat.reduceLT, Nat.reduceMul, Nat.reduceEqDiff, Int.reduceEq, Int.reduceBEq, Int.reduceBNe, Int.reduceLT, Int.reduceLE, Int.reduceGT, Int.reduceGE, Int.reduceNeg, Int.reduceAdd, Int.reduceSub, reduceCtorEq, List.reduceReplicate, ← List.map_take, ← List.map_drop]
  refine brG_of (fun hlt => ?_) (fun hlt => ?_) <;> simp -dsimp -implicitDefEqProofs only [hlt, qq, Nat.reduceBEq, reduceIte, Nat.reduceAdd, Nat.reduceSub, Nat.reduceLeDiff, Nat.reduceLT, Nat.reduceMul, Nat.reduceEqDiff, Int.reduceEq, Int.reduceBEq, Int.reduceBNe, Int.reduceLT, Int.reduceLE, Int.reduceGT, Int.reduceGE, Int.reduceNeg, Int.reduceAdd, Int.reduceSub, reduceCtorEq, List.reduceReplicate, ← List.map_take, ← List.map_drop]
  · have hkl : k < a.length := by simpa using hlt
    by_cases hs : a.length = b.length ∧ a.take k = b.take k
    · simp -dsimp -implicitDefEqProofs only [decide_eq_true hs, qq, Nat.reduceBEq, reduceIte, Nat.reduceAdd, Nat.reduceSub, Nat.reduceLeDiff, Nat.reduceLT, Nat.reduceMul, Nat.reduceEqDiff, Int.reduceEq, Int.reduceBEq, Int.reduceBNe, Int.reduceLT, Int.reduceLE, Int.reduceGT, Int.reduceGE, Int.reduceNeg, Int.reduceAdd, Int.reduceSub, reduceCtorEq, List.reduceReplicate, ← List.map_take, ← List.map_drop]
      obtain ⟨x, hx, hxm, htk, hdk⟩ := next_of hkl
      obtain ⟨y, hy, _, _, _⟩ := next_of (show k < b.length by omega)
      have hwk : IntKind.i64.wrap ((k : Int) + 1) = ((k + 1 : Nat) : Int) := wrap_succ (by omega)
      simp -dsimp -implicitDefEqProofs only [hx, hy, rowC, hwk, qq, Nat.reduceBEq, reduceIte, Nat.reduceAdd, Nat.reduceSub, Nat.reduceLeDiff, Nat.reduceLT, Nat.reduceMul, Nat.reduceEqDiff, Int.reduceEq, Int.reduceBEq, Int.reduceBNe, Int.reduceLT, Int.reduceLE, Int.reduceGT, Int.reduceGE, Int.reduceNeg, Int.reduceAdd, Int.reduceSub, reduceCtorEq, List.reduceReplicate, ← List.map_take, ← List.map_drop]
      refine callI_pure (h0 x y (hal x hxm)) rfl rfl ?_
      simp -dsimp -implicitDefEqProofs only [hwk, qq, Nat.reduceBEq, reduceIte, Nat.reduceAdd, Nat.reduceSub, Nat.reduceLeDiff, Nat.reduceLT, Nat.reduceMul, Nat.reduceEqDiff, Int.reduceEq, Int.reduceBEq, Int.reduceBNe, Int.reduceLT, Int.reduceLE, Int.reduceGT, Int.reduceGE, Int.reduceNeg, Int.reduceAdd, Int.reduceSub, reduceCtorEq, List.reduceReplicate, ← List.map_take, ← List.map_drop]
      refine ⟨k + 1, by omega, by omega, ?_⟩
      have e : decide (a.length = b.length ∧ a.take (k + 1) = b.take (k + 1)) = decide (x = y) := by
        rw [Bool.eq_iff_iff]
        simp only [decide_eq_true_eq, take_same hs.2 hx hy, hs.1, true_and]
      rw [e]
    · simp -dsimp -implicitDefEqProofs only [decide_eq_false hs, qq, Nat.reduceBEq, reduceIte, Nat.reduceAdd, Nat.reduceSub, Nat.reduceLeDiff, Nat.reduceLT, Nat.reduceMul, Nat.reduceEqDiff, Int.reduceEq, Int.reduceBEq, Int.reduceBNe, Int.reduceLT, Int.reduceLE, Int.reduceGT, Int.reduceGE, Int.reduceNeg, Int.reduceAdd, Int.reduceSub, reduceCtorEq, List.reduceReplicate, ← List.map_take, ← List.map_drop]
      refine Ends.plain rfl rfl ?_
      have : a ≠ b := fun e => hs (by rw [e]; exact ⟨rfl, rfl⟩)
      simp [resV, this]
  · obtain rfl : k = a.length := by simp at hlt; omega
    refine Ends.plain rfl rfl ?_
    simp only [resV]
    congr 1
    rw [Bool.eq_iff_iff, decide_eq_true_eq, decide_eq_true_eq]
    constructor
    · rintro ⟨h1, h2⟩; rwa [List.take_length, h1, List.take_length] at h2
    · rintro rfl; exact ⟨rfl, rfl⟩
end Go.Sh.C3
end
section
namespace Go.Sh.C3
open Go.Sh
set_option maxRecDepth 10000
set_option linter.unusedVariables false
set_option linter.unusedSimpArgs false
variable {P : Program}
def ic_potbankref03_lower : IC := .seq (.reg [⟨some 2, none, .box (.t 0)⟩, ⟨some 3, none, .box (.t 1)⟩, ⟨some 4, none, .mov (.c (.b false))⟩] [2, 3]) (.seq (.reg [⟨some 7, none, .fad 1 (.t 2)⟩, ⟨some 8, none, .fad 1 (.t 7)⟩, ⟨some 9, none, .ld none (.t 8)⟩, ⟨some 10, none, .fad 3 (.t 2)⟩, ⟨some 11, none, .fad 0 (.t 10)⟩, ⟨some 12, none, .ld none (.t 11)⟩, ⟨some 13, none, .bin .add (.t 9) (.t 12)⟩, ⟨some 5, none, .mov (.t 13)⟩] [2, 3, 5]) (.seq (.reg [⟨some 14, none, .fad 1 (.t 3)⟩, ⟨some 15, none, .fad 1 (.t 14)⟩, ⟨some 16, none, .ld none (.t 15)⟩, ⟨some 17, none, .fad 3 (.t 3)⟩, ⟨some 18, none, .fad 0 (.t 17)⟩, ⟨some 19, none, .ld none (.t 18)⟩, ⟨some 20, none, .bin .add (.t 16) (.t 19)⟩, ⟨some 6, none, .mov (.t 20)⟩] [2, 3, 5, 6]) (.seq (.reg [⟨some 21, none, .mov (.t 5)⟩, ⟨some 22, none, .mov (.t 6)⟩, ⟨some 23, none, .bin .gtr (.t 21) (.t 22)⟩, ⟨some 24, none, .mov (.t 23)⟩, ⟨some 25, some (24, false), .mov (.t 5)⟩, ⟨some 26, some (24, false), .mov (.t 6)⟩, ⟨some 27, some (24, false), .bin .eql (.t 25) (.t 26)⟩, ⟨some 28, some (24, false), .mov (.t 27)⟩, ⟨some 29, some (28, true), .fad 0 (.t 2)⟩, ⟨some 30, some (28, true), .ld none (.t 29)⟩, ⟨some 31, some (28, true), .fad 0 (.t 3)⟩, ⟨some 32, some (28, true), .ld none (.t 31)⟩, ⟨some 33, some (28, true), .bin .lss (.t 30) (.t 32)⟩, ⟨some 34, some (24, false), .pick (.t 28) (.t 33) (.c (.b false))⟩, ⟨some 35, none, .pick (.t 24) (.c (.b true)) (.t 34)⟩, ⟨some 4, none, .mov (.t 35)⟩] [4]) (.ret))))
abbrev Low_potbankref03_lower (P : Program) (f : Nat) : Prop := lowF P f = some (36, [.tmp 4], (ic_potbankref03_lower).erase)

instance (a b : Sag) : Decidable (lessP a b) := by unfold lessP; exact inferInstance
def C_lower (P : Program) (f : Nat) : Prop := ∀ a b : Sag, sagB a = true → sagB b = true → Snd P f [.agg a.c, .agg b.c] [] (.b (decide (lessP a b))) []
theorem ok_lower (hm : P.follows .mixedOrders = true) {f : Nat} (low : Low_potbankref03_lower P f) : C_lower P f := by
  intro a b ha hb
  have wa : IntKind.i64.wrap (a.w.hi + a.b.lo) = a.w.hi + a.b.lo := by
    simp [sagB, rgB, inR] at ha
    exact wrap_id (by omega) (by omega)
  have wb : IntKind.i64.wrap (b.w.hi + b.b.lo) = b.w.hi + b.b.lo := by
    simp [sagB, rgB, inR] at hb
    exact wrap_id (by omega) (by omega)
  refine snd_ic hm low (by simp) ?_
  unfold ic_potbankref03_lower
  simp -dsimp -implicitDefEqProofs only [qq, Nat.reduceBEq, reduceIte, Nat.reduceAdd, Nat.reduceSub, Nat.reduceLeDiff, Nat.reduceLT, Nat.reduceMul, Nat.reduceEqDiff, Int.reduceEq, Int.reduceBEq, Int.reduceBNe, Int.reduceLT, Int.reduceLE, Int.reduceGT, Int.reduceGE, Int.reduceNeg, Int.reduceAdd, Int.reduceSub, reduceCtorEq, List.reduceReplicate, ← List.map_take, ← List.map_drop]
  simp -dsimp -implicitDefEqProofs only [Sag.c, wa, wb, qq, Nat.reduceBEq, reduceIte, Nat.reduceAdd, Nat.reduceSub, Nat.reduceLeDiff, Nat.reduceLT, Nat.reduceMul, Nat.reduceEqDiff, Int.reduceEq, Int.reduceBEq, Int.reduceBNe, Int.reduceLT, Int.reduceLE, Int.reduceGT, Int.reduceGE, Int.reduceNeg, Int.reduceAdd, Int.reduceSub, reduceCtorEq, List.reduceReplicate, ← List.map_take, ← List.map_drop]
  repeat' (first | (refine brG_of (fun h => ?_) (fun h => ?_) <;> simp -dsimp -implicitDefEqProofs only [h, wa, wb, qq, Nat.reduceBEq, reduceIte, Nat.reduceAdd, Nat.reduceSub, Nat.reduceLeDiff, Nat.reduceLT, Nat.reduceMul, Nat.reduceEqDiff, Int.reduceEq, Int.reduceBEq, Int.reduceBNe, Int.reduceLT, Int.reduceLE, Int.reduceGT, Int.reduceGE, Int.reduceNeg, Int.reduceAdd, Int.reduceSub, reduceCtorEq, List.reduceReplicate, ← List.map_take, ← List.map_drop]))
  all_goals try refine Ends.plain rfl rfl ?_
  all_goals simp only [resV, lessP, strS]
  all_goals congr 1
  all_goals (rw [Bool.eq_iff_iff]; simp_all; try omega)
end Go.Sh.C3
end
section
namespace Go.Sh.C3
open Go.Sh
set_option maxRecDepth 10000
set_option linter.unusedVariables false
set_option linter.unusedSimpArgs false
variable {P : Program}

/-- The first so many, up to n, for which there are bungs. -/
def fewS (d : List Int → Bool) (n : Nat) : Option (List (List Int)) := (List.range n).findSome? fun j => packS d n (j + 1) n []
def fewE (w : Rg) (l : List Sag) (s : Spt) : Int := if askedE w l s ≠ 0 then askedE w l s else if 9 < l.length then 36 else if l.length = 0 then 0 else if (fewS (doS w l s) l.length).isSome then 0 else 3
def fewR (w : Rg) (l : List Sag) (s : Spt) : List (List Int) := if askedE w l s = 0 ∧ l.length ≤ 9 then (fewS (doS w l s) l.length).getD [] else []
def C_Fewest (P : Program) (f : Nat) : Prop := ∀ (w : Rg) (l : List Sag) (s : Spt), Snd P f [.agg w.c, .fsl (l.map Sag.c), .agg s.c] [] (.tup [.fsl ((fewR w l s).map rowC), .i .i64 (fewE w l s)]) []
theorem asked_ok {w : Rg} {l : List Sag} {s : Spt} (h : askedE w l s = 0) : rgB w 0 200 = true ∧ listB l = true ∧ spotB s = true := by
  unfold askedE at h
  split at h
  · split at h
    · split at h
      · exact ⟨by assumption, by assumption, by assumption⟩
      · cases h
    · cases h
  · cases h
theorem ok_Fewest (hm : P.follows .mixedOrders = true) {f f0 f1 : Nat} (low : Low_bung_Fewest P f f0 f1) (h0 : C_asked P f0) (h1 : C_pack P f1) : C_Fewest P f := by
  intro w l s
  have none_ : ∀ (H : List Blk) (e : Int), fewE w l s = e → fewR w l s = [] → Frz 0 H (resV [.nsl, .i .i64 e]) (.tup [.fsl ((fewR w l s).map rowC), .i .i64 (fewE w l s)]) := fun H e h1 h2 => by rw [h1, h2]; exact frz2 .nil (.keep _ rfl)
  refine snd_ic hm low (by simp) ?_
  unfold ic_bung_Fewest
  simp -dsimp -implicitDefEqProofs only [qq, Nat.reduceBEq, reduceIte, Nat.reduceAdd, Nat.reduceSub, Nat.reduceLeDiff, Nat.reduceLT, Nat.reduceMul, Nat.reduceEqDiff, Int.reduceEq, Int.reduceBEq, Int.reduceBNe, Int.reduceLT, Int.reduceLE, Int.reduceGT, Int.reduceGE, Int.reduceNeg, Int.reduceAdd, Int.reduceSub, reduceCtorEq, List.reduceReplicate, ← List.map_take, ← List.map_drop]
  refine callI_pure (h0 w l s) rfl rfl ?_
  simp -dsimp -implicitDefEqProofs only [qq, Nat.reduceBEq, reduceIte, Nat.reduceAdd, Nat.reduceSub, Nat.reduceLeDiff, Nat.reduceLT, Nat.reduceMul, Nat.reduceEqDiff, Int.reduceEq, Int.reduceBEq, Int.reduceBNe, Int.reduceLT, Int.reduceLE, Int.reduceGT, Int.reduceGE, Int.reduceNeg, Int.reduceAdd, Int.reduceSub, reduceCtorEq, List.reduceReplicate, ← List.map_take, ← List.map_drop]
  refine brG_of (fun he => ?_) (fun he => ?_) <;> simp -dsimp -implicitDefEqProofs only [qq, Nat.reduceBEq, reduceIte, Nat.reduceAdd, Nat.reduceSub, Nat.reduceLeDiff, Nat.reduceLT, Nat.reduceMul, Nat.reduceEqDiff, Int.reduceEq, Int.reduceBEq, Int.reduceBNe, Int.reduceLT, Int.reduceLE, Int.reduceGT, Int.reduceGE, Int.reduceNeg, Int.reduceAdd, Int.reduceSub, reduceCtorEq, List.reduceReplicate, ← List.map_take, ← List.map_drop]
  · have he' : askedE w l s ≠ 0 := by simpa using he
    exact Ends.ret rfl (none_ _ _ (by simp [fewE, he']) (by simp [fewR, he']))
  have he' : askedE w l s = 0 := by simpa using he
  obtain ⟨hw, hv, hsp⟩ := asked_ok he'
  have hlen := list_len hv
  refine brG_of (fun h9 => ?_) (fun h9 => ?_) <;> simp -dsimp -implicitDefEqProofs only [qq, Nat.reduceBEq, reduceIte, Nat.reduceAdd, Nat.reduceSub, Nat.reduceLeDiff, Nat.reduceLT, Nat.reduceMul, Nat.reduceEqDiff, Int.reduceEq, Int.reduceBEq, Int.reduceBNe, Int.reduceLT, Int.reduceLE, Int.reduceGT, Int.reduceGE, Int.reduceNeg, Int.reduceAdd, Int.reduceSub, reduceCtorEq, List.reduceReplicate, ← List.map_take, ← List.map_drop]
  · have h9' : 9 < l.length := by simp at h9; omega
    exact Ends.ret rfl (none_ _ _ (by simp [fewE, he', h9']) (by simp [fewR]; omega))
  have h9' : l.length ≤ 9 := by simp at h9; omega
  refine brG_of (fun hz => ?_) (fun hz => ?_) <;> simp -dsimp -implicitDefEqProofs only [qq, Nat.reduceBEq, reduceIte, Nat.reduceAdd, Nat.reduceSub, Nat.reduceLeDiff, Nat.reduceLT, Nat.reduceMul, Nat.reduceEqDiff, Int.reduceEq, Int.reduceBEq, Int.reduceBNe, Int.reduceLT, Int.reduceLE, Int.reduceGT, Int.reduceGE, Int.reduceNeg, Int.reduceAdd, Int.reduceSub, reduceCtorEq, List.reduceReplicate, ← List.map_take, ← List.map_drop]
  · have hz' : l.length = 0 := by simp at hz; simp [hz]
    exact Ends.ret rfl (none_ _ _ (by simp [fewE, he', hz']) (by simp [fewR, hz', fewS]))
  have hpos : 0 < l.length := by simp at hz; exact List.length_pos_iff.2 hz
  simp -dsimp -implicitDefEqProofs only [Rg.c, qq, Nat.reduceBEq, reduceIte, Nat.reduceAdd, Nat.reduceSub, Nat.reduceLeDiff, Nat.reduceLT, Nat.reduceMul, Nat.reduceEqDiff, Int.reduceEq, Int.reduceBEq, Int.reduceBNe, Int.reduceLT, Int.reduceLE, Int.reduceGT, Int.reduceGE, Int.reduceNeg, Int.reduceAdd, Int.reduceSub, reduceCtorEq, List.reduceReplicate, ← List.map_take, ← List.map_drop]
  refine loopI_st (fun k : Nat => l.length - k) (fun k E H => k ≤ l.length ∧ E = [(1, .fsl (l.map Sag.c)), (9, .rpt 3 6 0 0), (10, .i .i64 (k + 1 : Nat))] ∧ ∃ ts, Faith w l s ts ∧ H[2]? = some (.mp (tmap ts)) ∧ H[3]? = some (.row 6 [packC w l s (.rmp 2)]) ∧ (∀ j, j < k → packS (doS w l s) l.length (j + 1) l.length [] = none)) 0 ⟨by omega, rfl, [], ⟨by simp, fun a v _ _ h => by simp at h⟩, rfl, rfl, fun j hj => by omega⟩ ?_
  rintro k _ H ⟨hk, rfl, ts, hF, hm2, hp3, hno⟩
  simp -dsimp -implicitDefEqProofs only [qq, Nat.reduceBEq, reduceIte, Nat.reduceAdd, Nat.reduceSub, Nat.reduceLeDiff, Nat.reduceLT, Nat.reduceMul, Nat.reduceEqDiff, Int.reduceEq, Int.reduceBEq, Int.reduceBNe, Int.reduceLT, Int.reduceLE, Int.reduceGT, Int.reduceGE, Int.reduceNeg, Int.reduceAdd, Int.reduceSub, reduceCtorEq, List.reduceReplicate, ← List.map_take, ← List.map_drop]
  cases hc : decide (((k + 1 : Nat) : Int) ≤ (l.length : Int)) <;> simp -dsimp -implicitDefEqProofs only [hc, qq, Nat.reduceBEq, reduceIte, Nat.reduceAdd, Nat.reduceSub, Nat.reduceLeDiff, Nat.reduceLT, Nat.reduceMul, Nat.reduceEqDiff, Int.reduceEq, Int.reduceBEq, Int.reduceBNe, Int.reduceLT, Int.reduceLE, Int.reduceGT, Int.reduceGE, Int.reduceNeg, Int.reduceAdd, Int.reduceSub, reduceCtorEq, List.reduceReplicate, ← List.map_take, ← List.map_drop]
  · have hkl : k = l.length := by simp at hc; omega
    have hn : fewS (doS w l s) l.length = none := by
      rw [fewS, List.findSome?_eq_none_iff]
      exact fun j hj => hno j (by simp at hj; omega)
    exact Ends.ret rfl (none_ _ _ (by rw [fewE, if_neg (by simp [he']), if_neg (by omega), if_neg (by omega), hn]; rfl) (by simp [fewR, hn]))
  have hkl : k < l.length := by simp at hc; omega
  have hwk : IntKind.i64.wrap (((k + 1 : Nat) : Int) + 1) = ((k + 1 + 1 : Nat) : Int) := wrap_succ (by omega)
  have hpk := h1 l.length H w l s 2 ts [] (k + 1) hm2 hF hw hv hpos h9' (Nat.le_refl _) ⟨by simp, by simp, by simp, by simp, fun h => by omega⟩ (by omega)
  rw [Nat.sub_self] at hpk
  simp -dsimp -implicitDefEqProofs only [hp3, packC, qq, Nat.reduceBEq, reduceIte, Nat.reduceAdd, Nat.reduceSub, Nat.reduceLeDiff, Nat.reduceLT, Nat.reduceMul, Nat.reduceEqDiff, Int.reduceEq, Int.reduceBEq, Int.reduceBNe, Int.reduceLT, Int.reduceLE, Int.reduceGT, Int.reduceGE, Int.reduceNeg, Int.reduceAdd, Int.reduceSub, reduceCtorEq, List.reduceReplicate, ← List.map_take, ← List.map_drop]
  refine callI_give (fun _ => false) (.cons (.keep _) (.cons .nil (.same _))) ?_
  rw [killB_no]
  refine callI_x hpk ?_
  rintro v H6 ⟨⟨ts3, hF3, rfl⟩, hres⟩
  have e1 := get_setsame (b' := .mp (tmap ts3)) hm2
  have e2 : (H.set 2 (.mp (tmap ts3)))[3]? = some (.row 6 [packC w l s (.rmp 2)]) := get_setne hp3 (by omega)
  cases hr : packS (doS w l s) l.length (k + 1) l.length [] with
  | none =>
    rw [hr] at hres
    subst hres
    simp -dsimp -implicitDefEqProofs only [hwk, qq, Nat.reduceBEq, reduceIte, Nat.reduceAdd, Nat.reduceSub, Nat.reduceLeDiff, Nat.reduceLT, Nat.reduceMul, Nat.reduceEqDiff, Int.reduceEq, Int.reduceBEq, Int.reduceBNe, Int.reduceLT, Int.reduceLE, Int.reduceGT, Int.reduceGE, Int.reduceNeg, Int.reduceAdd, Int.reduceSub, reduceCtorEq, List.reduceReplicate, ← List.map_take, ← List.map_drop]
    exact ⟨k + 1, by omega, by omega, rfl, ts3, hF3, e1, e2, fun j hj => by
      rcases Nat.lt_succ_iff_lt_or_eq.1 hj with h | rfl
      · exact hno j h
      · exact hr⟩
  | some out =>
    rw [hr] at hres
    obtain ⟨hne, rfl⟩ := hres
    obtain ⟨x, out', rfl⟩ : ∃ x out', out = x :: out' := by cases out with | nil => exact absurd rfl hne | cons x o => exact ⟨x, o, rfl⟩
    simp -dsimp -implicitDefEqProofs only [qq, Nat.reduceBEq, reduceIte, Nat.reduceAdd, Nat.reduceSub, Nat.reduceLeDiff, Nat.reduceLT, Nat.reduceMul, Nat.reduceEqDiff, Int.reduceEq, Int.reduceBEq, Int.reduceBNe, Int.reduceLT, Int.reduceLE, Int.reduceGT, Int.reduceGE, Int.reduceNeg, Int.reduceAdd, Int.reduceSub, reduceCtorEq, List.reduceReplicate, ← List.map_take, ← List.map_drop]
    have hs : fewS (doS w l s) l.length = some (x :: out') := findSome_range hkl hno hr
    have q1 : fewE w l s = 0 := by rw [fewE, if_neg (by simp [he']), if_neg (by omega), if_neg (by omega), hs]; rfl
    have q2 : fewR w l s = x :: out' := by simp [fewR, he', h9', hs]
    rw [q1, q2]
    exact Ends.ret rfl (frz_keep2 rfl rfl)
end Go.Sh.C3
end
section
namespace Go.Sh
set_option linter.unusedVariables false
set_option linter.unusedSimpArgs false
variable {P : Program}

/-- One's own slice, full; or nothing, nil or not. -/
def OwnZ (H : List Blk) (k : Nat) (rows : List (List V)) (v : V) : Prop := (rows = [] ∧ (v = .nsl ∨ v = .fs0)) ∨ ∃ p c e, v = .rsl p k 0 rows.length c e ∧ H[p]? = some (.row k rows)
theorem OwnS.z {H : List Blk} {k : Nat} {rows : List (List V)} {v : V} (h : OwnS H k rows v) : OwnZ H k rows v := by
  rcases h with ⟨h1, h2⟩ | h
  · exact .inl ⟨h1, .inl h2⟩
  · exact .inr h
theorem OwnZ.pos {H : List Blk} {k : Nat} {rows : List (List V)} {v : V} (h : OwnZ H k rows v) (hr : rows ≠ []) : ∃ p c e, v = .rsl p k 0 rows.length c e ∧ H[p]? = some (.row k rows) := by
  rcases h with ⟨h, _⟩ | h
  · exact absurd h hr
  · exact h
theorem OwnS.pos {H : List Blk} {k : Nat} {rows : List (List V)} {v : V} (h : OwnS H k rows v) (hr : rows ≠ []) : ∃ p c e, v = .rsl p k 0 rows.length c e ∧ H[p]? = some (.row k rows) := h.z.pos hr
theorem OwnZ.s {H : List Blk} {k : Nat} {rows : List (List V)} {v : V} (h : OwnZ H k rows v) (hr : rows ≠ []) : OwnS H k rows v := .inr (h.pos hr)
theorem OwnZ.shown {H : List Blk} {k : Nat} {rows : List (List V)} {v : V} (h : OwnZ H k rows v) : shown H v = some rows := by
  rcases h with ⟨rfl, rfl | rfl⟩ | ⟨p, c, e, rfl, h2⟩
  · rfl
  · rfl
  · simp [Sh.shown, h2]
theorem OwnZ.move {H H' : List Blk} {k : Nat} {rows : List (List V)} {v : V} (h : OwnZ H k rows v) (hk : ∀ p b c e, H[p]? = some b → v = .rsl p k 0 rows.length c e → H'[p]? = some b) : OwnZ H' k rows v := by
  rcases h with h | ⟨p, c, e, h1, h2⟩
  · exact .inl h
  · exact .inr ⟨p, c, e, h1, hk p _ c e h2 h1⟩
theorem OwnZ.app {H : List Blk} {k : Nat} {rows : List (List V)} {v : V} (h : OwnZ H k rows v) (l : List Blk) : OwnZ (H ++ l) k rows v := h.move fun p b _ _ hb _ => get_app hb l
theorem OwnZ.frz {H : List Blk} {k : Nat} {rows : List (List V)} {v : V} (h : OwnZ H k rows v) (hb : ∀ row ∈ rows, belL 0 row = true) : Frz 0 H v (.fsl rows) := by
  rcases h with ⟨rfl, rfl | rfl⟩ | h
  · exact .nil
  · exact .emp
  · exact OwnS.frz (.inr h) hb
/-- New since H0, whose blocks are as they were. -/
structure NewZ (H0 H : List Blk) (k : Nat) (rows : List (List V)) (r : V) : Prop where
  own : OwnZ H k rows r
  len : H0.length ≤ H.length
  keep : ∀ (p : Nat) (b : Blk), H0[p]? = some b → H[p]? = some b
  fresh : ∀ p k o l c e, r = .rsl p k o l c e → H0.length ≤ p
theorem NewZ.emp (H : List Blk) (k : Nat) : NewZ H H k [] .fs0 := ⟨.inl ⟨rfl, .inr rfl⟩, Nat.le_refl _, fun _ _ h => h, by simp⟩
theorem NewZ.nil (H : List Blk) (k : Nat) : NewZ H H k [] .nsl := ⟨.inl ⟨rfl, .inl rfl⟩, Nat.le_refl _, fun _ _ h => h, by simp⟩
theorem New.z {H0 H : List Blk} {k : Nat} {rows : List (List V)} {r : V} (h : New H0 H k rows r) : NewZ H0 H k rows r := ⟨h.own.z, h.len, h.keep, h.fresh⟩
theorem take_keep {H0 H : List Blk} (hl : H0.length ≤ H.length) (hk : ∀ (p : Nat) (b : Blk), H0[p]? = some b → H[p]? = some b) : H.take H0.length = H0 := by
  apply List.ext_getElem?
  intro i
  rw [List.getElem?_take]
  split
  · rename_i h
    rw [hk i H0[i] (by simp [h]), List.getElem?_eq_getElem h]
  · rw [List.getElem?_eq_none (by omega)]
theorem NewZ.take {H0 H : List Blk} {k : Nat} {rows : List (List V)} {r : V} (h : NewZ H0 H k rows r) : H.take H0.length = H0 := take_keep h.len h.keep
theorem NewZ.app {H0 H : List Blk} {k : Nat} {rows : List (List V)} {r : V} (h : NewZ H0 H k rows r) (l : List Blk) : NewZ H0 (H ++ l) k rows r :=
  ⟨h.own.app l, by have := h.len; simp; omega, fun p b hb => get_app (h.keep p b hb) l, h.fresh⟩
/-- An append to it. -/
theorem app_newZ {k bytes : Nat} {x y : V} {H0 H : List Blk} {rows ys : List (List V)} {K : V → List Blk → Prop} (hx : NewZ H0 H k rows x) (h0 : 0 < k) (hb : bytes ≤ 1000000) (hy : Sh.shown H y = some ys) (hys : ∀ r ∈ ys, r.length = k ∧ r.all V.one = true)
    (hl : rows.length + ys.length ≤ 1000000) (hK : ∀ v' H', NewZ H0 H' k (rows ++ ys) v' → K v' H') : appI k bytes x y H K := by
  have hlen := hx.len
  refine ⟨h0, hb, ys, hy, hys, ?_⟩
  rcases hx.own with ⟨rfl, rfl | rfl⟩ | ⟨p, c0, e0, rfl, h2⟩
  · simp only
    refine ⟨fun h => ?_, fun h => ⟨by simpa using hl, ?_⟩⟩
    · subst h; exact hK _ _ hx
    · exact hK _ _ ⟨.inr ⟨H.length, ys.length, false, by simp, by simp⟩, by simp; omega, fun p b hb => get_app (hx.keep p b hb) _, fun p k' o l c e he => by simp at he; omega⟩
  · simp only
    refine ⟨fun h => ?_, fun h => ⟨by simpa using hl, ?_⟩⟩
    · subst h; exact hK _ _ hx
    · exact hK _ _ ⟨.inr ⟨H.length, ys.length, false, by simp, by simp⟩, by simp; omega, fun p b hb => get_app (hx.keep p b hb) _, fun p k' o l c e he => by simp at he; omega⟩
  · have hf := hx.fresh _ _ _ _ _ _ rfl
    refine ⟨by trivial, hl, rows, h2, by simp, .inr (.inr ⟨by trivial, by trivial, ?_⟩)⟩
    refine hK _ _ ⟨.inr ⟨H.length, rows.length + ys.length, false, by simp, by rw [show H.length = (H.set p .dead).length by simp]; exact get_new _ _⟩, by simp; omega, fun q b h => get_app (get_setne (hx.keep q b h) (fun e => by have := get_lt h; omega)) _, ?_⟩
    intro q k' o l c e he
    simp at he
    omega
/-- The list of slices' rows, cut. -/
theorem shown_drop {H : List Blk} {p k o n c : Nat} {e : Bool} {rows : List (List V)} (h : H[p]? = some (.row k rows)) (hl : o + n ≤ rows.length) : Sh.shown H (.rsl p k o n c e) = some ((rows.drop o).take n) := by
  simp [Sh.shown, h, hl]

/-! ### two slices of one's own -/
def Dis (x v : V) : Prop := ∀ p k o l c e k' o' l' c' e', x = .rsl p k o l c e → v = .rsl p k' o' l' c' e' → False
theorem Dis.symm {x v : V} (h : Dis x v) : Dis v x := fun p k o l c e k' o' l' c' e' h1 h2 => h p k' o' l' c' e' k o l c e h2 h1
theorem Dis.nil (v : V) : Dis .nsl v := fun p k o l c e k' o' l' c' e' h1 _ => by cases h1
theorem OwnS.lt {H : List Blk} {k : Nat} {rows : List (List V)} {v : V} (h : OwnS H k rows v) {p k' o l c : Nat} {e : Bool} (hv : v = .rsl p k' o l c e) : p < H.length := by
  rcases h with ⟨_, h⟩ | ⟨q, c0, e0, h, hq⟩
  · rw [h] at hv; cases hv
  · rw [h] at hv; cases hv; exact get_lt hq
theorem app_own2 {k bytes kv : Nat} {x y v : V} {H l : List Blk} {rows ys rv : List (List V)} {K : V → List Blk → Prop} (hx : OwnS H k rows x) (hv : OwnS H kv rv v) (hd : Dis x v) (h0 : 0 < k) (hb : bytes ≤ 1000000) (hy : Sh.shown (H ++ l) y = some ys) (hys : ∀ r ∈ ys, r.length = k ∧ r.all V.one = true)
    (hl : rows.length + ys.length ≤ 1000000) (hK : ∀ x' H', OwnS H' k (rows ++ ys) x' → OwnS H' kv rv v → Dis x' v → H.length ≤ H'.length → (∀ p b, H[p]? = some b → (∀ k o l c e, x ≠ .rsl p k o l c e) → H'[p]? = some b) → K x' H') : appI k bytes x y (H ++ l) K :=
  app_own (hx.app l) h0 hb hy hys hl fun x' H' h1 h2 h3 => hK x' H' h1
    (hv.move fun p b c e hp hve => h2.keep p b (get_app hp l) fun k o l c e hxe => hd _ _ _ _ _ _ _ _ _ _ _ hxe hve)
    (fun p k o l' c e k' o' l'' c' e' he hve => by
      rcases h3 p k o l' c e he with g | g
      · exact hd _ _ _ _ _ _ _ _ _ _ _ g hve
      · have := hv.lt hve; simp at g; omega)
    (by have := h2.len; simp at this; omega)
    (fun p b hp hn => h2.keep p b (get_app hp l) hn)

theorem OwnS.give {H : List Blk} {k : Nat} {rows : List (List V)} {v : V} (h : OwnS H k rows v) (hb : ∀ r ∈ rows, belL 0 r = true) : ∃ kk : Nat → Bool, Give kk H v (.fsl rows) ∧ ∀ p, kk p = true → ∃ k o l c e, v = .rsl p k o l c e := by
  rcases h with ⟨rfl, rfl⟩ | ⟨pu, cu, eu, rfl, hpu⟩
  · exact ⟨fun _ => false, .nil, fun p h => by cases h⟩
  · refine ⟨fun i => i == pu, ?_, fun p h => ⟨k, 0, rows.length, cu, eu, by rw [eq_of_beq h]⟩⟩
    refine .sl pu k 0 rows.length cu eu rows rows (by simp) hpu (by simp) rfl hb ?_ ?_
    · intro i r r' h1 h3
      simp at h1
      rw [h1] at h3; cases h3; rfl
    · intro i r r' j x x' h1 h3 e1 e2
      simp at h1
      rw [h1] at h3; cases h3
      rw [e1] at e2; cases e2
      exact .keep _
/-- At a loop's head the last row, a slice of one's own, becomes a list that nobody writes. -/
theorem shift_last {H : List Blk} {k : Nat} {v u : V} {rows row : List (List V)} (hv : OwnS H 1 (rows ++ [[u]]) v) (hu : OwnS H k row u) (hd : Dis v u) (hb : ∀ r ∈ row, belL 0 r = true) :
    ∃ H2, (∀ E : Env, Shift E H E H2) ∧ OwnS H2 1 (rows ++ [[.fsl row]]) v ∧ H2.length = H.length ∧ ∀ p b, H[p]? = some b → (∀ k o l c e, v ≠ .rsl p k o l c e) → (∀ k o l c e, u ≠ .rsl p k o l c e) → H2[p]? = some b := by
  obtain ⟨pv, cv, ev, rfl, hpv⟩ := hv.pos (by simp)
  have hlv := get_lt hpv
  have key : ∀ (kk : Nat → Bool), kk pv = false → Give kk H u (.fsl row) → (∀ p, kk p = true → ∃ k o l c e, u = .rsl p k o l c e) →
      ∃ H2, (∀ E : Env, Shift E H E H2) ∧ OwnS H2 1 (rows ++ [[.fsl row]]) (.rsl pv 1 0 (rows ++ [[u]]).length cv ev) ∧ H2.length = H.length ∧ ∀ p b, H[p]? = some b → (∀ k o l c e, V.rsl pv 1 0 (rows ++ [[u]]).length cv ev ≠ .rsl p k o l c e) → (∀ k o l c e, u ≠ .rsl p k o l c e) → H2[p]? = some b := fun kk hk hg hku => by
    refine ⟨(killB kk H).set pv (.row 1 (rows ++ [[.fsl row]])), fun E => ⟨kk, ⟨by simp [killB_length], fun id hid hki => ?_, fun id b' hki hb' => ?_⟩, fun t v' e => ⟨v', e, .keep _⟩⟩, .inr ⟨pv, cv, ev, by simp, by rw [List.getElem?_set_self (by rw [killB_length]; exact hlv)]⟩, by simp [killB_length], fun p b hp hn1 hn2 => ?_⟩
    · have : pv ≠ id := fun e => by rw [← e, hk] at hki; cases hki
      rw [List.getElem?_set_ne this, killB_get, hki, List.getElem?_eq_getElem hid]; simp
    · by_cases e : pv = id
      · subst e
        rw [List.getElem?_set_self (by rw [killB_length]; exact hlv)] at hb'
        cases hb'
        refine ⟨_, hpv, .inr ⟨1, _, _, rfl, rfl, by simp, fun i r r' h1 h2 => ?_⟩⟩
        by_cases hi : i < rows.length
        · rw [List.getElem?_append_left hi] at h1 h2
          rw [h1] at h2; cases h2
          exact ⟨rfl, fun j x x' e1 e2 => by rw [e1] at e2; cases e2; exact .keep _⟩
        · rw [List.getElem?_append_right (by omega)] at h1 h2
          have hi2 : i - rows.length = 0 := by have := (List.getElem?_eq_some_iff.1 h1).1; simp at this; omega
          rw [hi2] at h1 h2
          simp at h1 h2
          subst h1 h2
          refine ⟨rfl, fun j x x' e1 e2 => ?_⟩
          cases j with
          | zero => simp at e1 e2; subst e1 e2; exact hg
          | succ j => simp at e1
      · rw [List.getElem?_set_ne e, killB_keep hki] at hb'
        exact ⟨b', hb', .inl rfl⟩
    · have h1 : pv ≠ p := fun e => hn1 1 0 _ cv ev (by rw [e])
      have h2 : kk p = false := by
        cases h : kk p with
        | false => rfl
        | true => obtain ⟨k, o, l, c, e, hu⟩ := hku p h; exact absurd hu (hn2 k o l c e)
      rw [List.getElem?_set_ne h1, killB_keep h2]; exact hp
  rcases hu with ⟨rfl, rfl⟩ | ⟨pu, cu, eu, rfl, hpu⟩
  · exact key (fun _ => false) rfl .nil (fun p h => by cases h)
  · have hne : pu ≠ pv := fun e => hd _ _ _ _ _ _ _ _ _ _ _ rfl (by rw [e])
    refine key (fun i => i == pu) (by simp; omega) ?_ (fun p h => ⟨k, 0, row.length, cu, eu, by rw [eq_of_beq h]⟩)
    refine .sl pu k 0 row.length cu eu row row (by simp) hpu (by simp) rfl hb ?_ ?_
    · intro i r r' h1 h3
      simp at h1
      rw [h1] at h3; cases h3; rfl
    · intro i r r' j x x' h1 h3 e1 e2
      simp at h1
      rw [h1] at h3; cases h3
      rw [e1] at e2; cases e2
      exact .keep _
end Go.Sh
end
section
namespace Go.Sh.C3
open Go.Sh
set_option maxRecDepth 10000
set_option linter.unusedVariables false
set_option linter.unusedSimpArgs false
variable {P : Program}
def ic_potbankref03_rule (f0 : Nat) : IC := .seq (.reg [⟨some 2, none, .mov (.c (.nsl))⟩] [0]) (.seq (.reg [⟨some 3, none, .mov (.c (.nsl))⟩] [0, 3]) (.seq (.seq (.reg [⟨some 4, none, .mov (.c (.i .i64 (0)))⟩] [0, 3, 4]) (.block 0 (.loop (.seq (.seq (.reg [⟨some 6, none, .mov (.t 4)⟩, ⟨some 7, none, .mov (.t 0)⟩, ⟨some 8, none, .len false (.t 7)⟩, ⟨some 9, none, .bin .lss (.t 6) (.t 8)⟩] [0, 3, 4, 9]) (.cond (.t 9) (.skip) (.exit 0))) (.seq (.block 1 (.seq (.reg [⟨some 5, none, .mov (.c (.i .i64 (0)))⟩] [0, 3, 4, 5]) (.seq (.block 2 (.loop (.seq (.seq (.drg [(0, ⟨some 12, none, .mov (.t 5)⟩), (0, ⟨some 13, none, .mov (.t 3)⟩), (0, ⟨some 14, none, .len false (.t 13)⟩), (0, ⟨some 15, none, .bin .lss (.t 12) (.t 14)⟩), (0, ⟨some 16, none, .mov (.t 15)⟩), (0, ⟨some 17, some (16, true), .mov (.t 0)⟩), (0, ⟨some 18, some (16, true), .mov (.t 3)⟩), (0, ⟨some 19, some (16, true), .mov (.t 5)⟩), (0, ⟨some 20, some (16, true), .ixs 1 (.t 18) (.t 19)⟩), (0, ⟨some 21, some (16, true), .ld none (.t 20)⟩), (0, ⟨some 22, some (16, true), .ixs 8 (.t 17) (.t 21)⟩), (0, ⟨some 23, some (16, true), .ld (some 8) (.t 22)⟩), (0, ⟨some 24, some (16, true), .mov (.t 0)⟩), (0, ⟨some 25, some (16, true), .mov (.t 4)⟩), (0, ⟨some 26, some (16, true), .ixs 8 (.t 24) (.t 25)⟩), (0, ⟨some 27, some (16, true), .ld (some 8) (.t 26)⟩), (0, ⟨some 28, some (16, true), .calv (.c (.fn (.func f0) [] [])) [.t 23, .t 27]⟩), (0, ⟨some 29, none, .pick (.t 16) (.t 28) (.c (.b false))⟩)] 16 [0, 3, 4, 5, 29]) (.cond (.t 29) (.skip) (.exit 2))) (.block 3 (.reg [⟨some 30, none, .mov (.t 5)⟩, ⟨some 31, none, .bin .add (.t 30) (.c (.i .i64 (1)))⟩, ⟨some 5, none, .mov (.t 31)⟩] [0, 3, 4, 5]))))) (.drg [(0, ⟨some 32, none, .bsl true 1 0 [.i .i64 (0)] []⟩), (0, ⟨some 33, none, .mov (.t 3)⟩), (0, ⟨some 34, none, .mov (.t 5)⟩), (0, ⟨some 35, none, .slc 1 (.t 33) none (some (.t 34)) none⟩), (1, ⟨some 36, none, .app 1 8 (.t 32) (.t 35)⟩), (0, ⟨some 37, none, .mov (.t 4)⟩), (0, ⟨some 38, none, .bsl true 1 1 [.i .i64 (0)] [(0, (.t 37))]⟩), (1, ⟨some 39, none, .app 1 8 (.t 36) (.t 38)⟩), (0, ⟨some 40, none, .mov (.t 3)⟩), (0, ⟨some 41, none, .mov (.t 5)⟩), (0, ⟨some 42, none, .slc 1 (.t 40) (some (.t 41)) none none⟩), (1, ⟨some 43, none, .app 1 8 (.t 39) (.t 42)⟩), (0, ⟨some 3, none, .mov (.t 43)⟩)] 11 [0, 3, 4])))) (.reg [⟨some 10, none, .mov (.t 4)⟩, ⟨some 11, none, .bin .add (.t 10) (.c (.i .i64 (1)))⟩, ⟨some 4, none, .mov (.t 11)⟩] [0, 3, 4])))))) (.seq (.reg [⟨some 44, none, .mov (.t 3)⟩, ⟨some 2, none, .mov (.t 44)⟩] [2]) (.ret))))
abbrev Low_potbankref03_rule (P : Program) (f f0 : Nat) : Prop := lowF P f = some (45, [.tmp 2], (ic_potbankref03_rule f0).erase)
def ic_potbankref03_Rule (f0 f1 : Nat) : IC := .seq (.reg [⟨some 2, none, .mov (.c (.nsl))⟩, ⟨some 3, none, .mov (.c (.i .i64 (0)))⟩] [0]) (.seq (.seq (.reg [⟨some 4, none, .mov (.t 0)⟩, ⟨some 5, none, .calv (.c (.fn (.func f0) [] [])) [.t 4]⟩, ⟨some 6, none, .bin .neq (.t 5) (.c (.i .i64 (0)))⟩] [0, 6]) (.cond (.t 6) (.seq (.reg [⟨some 2, none, .mov (.c (.nsl))⟩, ⟨some 3, none, .mov (.c (.i .i64 (30)))⟩] [2, 3]) (.ret)) (.skip))) (.seq (.reg [⟨some 7, none, .mov (.t 0)⟩, ⟨some 8, none, .calv (.c (.fn (.func f1) [] [])) [.t 7]⟩, ⟨some 2, none, .mov (.t 8)⟩, ⟨some 3, none, .mov (.c (.i .i64 (0)))⟩] [2, 3]) (.ret)))
abbrev Low_potbankref03_Rule (P : Program) (f f0 f1 : Nat) : Prop := lowF P f = some (9, [.tmp 2, .tmp 3], (ic_potbankref03_Rule f0 f1).erase)
def ic_potbankref03_canStand (f0 f1 f2 : Nat) : IC := .seq (.reg [⟨some 2, none, .mov (.c (.b false))⟩] [0]) (.seq (.reg [⟨some 3, none, .mov (.t 0)⟩, ⟨some 4, none, .mov (.t 0)⟩, ⟨some 5, none, .calv (.c (.fn (.func f0) [] [])) [.t 4]⟩, ⟨some 6, none, .calv (.c (.fn (.func f1) [] [])) [.t 3, .t 5]⟩, ⟨some 7, none, .calv (.c (.fn (.func f2) [] [])) [.t 6]⟩, ⟨some 8, none, .bin .eql (.t 7) (.c (.i .i64 (1)))⟩, ⟨some 2, none, .mov (.t 8)⟩] [2]) (.ret))
abbrev Low_potbankref03_canStand (P : Program) (f f0 f1 f2 : Nat) : Prop := lowF P f = some (9, [.tmp 2], (ic_potbankref03_canStand f0 f1 f2).erase)
def ic_potbankref03_CanStand (f0 f1 : Nat) : IC := .seq (.reg [⟨some 2, none, .mov (.c (.b false))⟩, ⟨some 3, none, .mov (.c (.i .i64 (0)))⟩] [0]) (.seq (.seq (.reg [⟨some 4, none, .mov (.t 0)⟩, ⟨some 5, none, .calv (.c (.fn (.func f0) [] [])) [.t 4]⟩, ⟨some 6, none, .bin .neq (.t 5) (.c (.i .i64 (0)))⟩] [0, 6]) (.cond (.t 6) (.seq (.reg [⟨some 2, none, .mov (.c (.b false))⟩, ⟨some 3, none, .mov (.c (.i .i64 (30)))⟩] [2, 3]) (.ret)) (.skip))) (.seq (.reg [⟨some 7, none, .mov (.t 0)⟩, ⟨some 8, none, .calv (.c (.fn (.func f1) [] [])) [.t 7]⟩, ⟨some 2, none, .mov (.t 8)⟩, ⟨some 3, none, .mov (.c (.i .i64 (0)))⟩] [2, 3]) (.ret)))
abbrev Low_potbankref03_CanStand (P : Program) (f f0 f1 : Nat) : Prop := lowF P f = some (9, [.tmp 2, .tmp 3], (ic_potbankref03_CanStand f0 f1).erase)
def ic_potbankref03_some : IC := .seq (.reg [⟨some 4, none, .mov (.c (.nsl))⟩] [0, 1]) (.seq (.reg [⟨some 5, none, .mov (.c (.nsl))⟩] [0, 1, 5]) (.seq (.seq (.reg [⟨some 6, none, .mov (.c (.i .i64 (0)))⟩] [0, 1, 5, 6]) (.block 0 (.loop (.seq (.seq (.reg [⟨some 7, none, .mov (.t 6)⟩, ⟨some 8, none, .mov (.t 1)⟩, ⟨some 9, none, .len false (.t 8)⟩, ⟨some 10, none, .bin .lss (.t 7) (.t 9)⟩] [0, 1, 5, 6, 10]) (.cond (.t 10) (.skip) (.exit 0))) (.seq (.block 1 (.reg [⟨some 13, none, .mov (.t 5)⟩, ⟨some 14, none, .mov (.t 0)⟩, ⟨some 15, none, .mov (.t 1)⟩, ⟨some 16, none, .mov (.t 6)⟩, ⟨some 17, none, .ixs 1 (.t 15) (.t 16)⟩, ⟨some 18, none, .ld none (.t 17)⟩, ⟨some 19, none, .ixs 8 (.t 14) (.t 18)⟩, ⟨some 20, none, .ld (some 8) (.t 19)⟩, ⟨some 21, none, .bsl false 8 1 [.i .i64 (0), .i .i64 (0), .i .i64 (0), .i .i64 (0), .i .i64 (0), .i .i64 (0), .i .i64 (0), .i .i64 (0)] [(0, (.t 20))]⟩, ⟨some 22, none, .app 8 64 (.t 13) (.t 21)⟩, ⟨some 5, none, .mov (.t 22)⟩] [0, 1, 5, 6])) (.reg [⟨some 11, none, .mov (.t 6)⟩, ⟨some 12, none, .bin .add (.t 11) (.c (.i .i64 (1)))⟩, ⟨some 6, none, .mov (.t 12)⟩] [0, 1, 5, 6])))))) (.seq (.reg [⟨some 23, none, .mov (.t 5)⟩, ⟨some 4, none, .mov (.t 23)⟩] [4]) (.ret))))
abbrev Low_potbankref03_some (P : Program) (f : Nat) : Prop := lowF P f = some (24, [.tmp 4], (ic_potbankref03_some).erase)

theorem insI_at {cf : Int → Int → Int} {x : Int} : ∀ {a : List Int} {at_ : Nat}, at_ ≤ a.length → (∀ j y, j < at_ → a[j]? = some y → cf y x < 0) → (∀ y, a[at_]? = some y → ¬ cf y x < 0) → insI cf x a = a.take at_ ++ x :: a.drop at_
  | [], at_, h, _, _ => by simp at h; subst h; rfl
  | y :: r, 0, h, h1, h2 => by
    have := h2 y rfl
    simp [insI, this]
  | y :: r, at_ + 1, h, h1, h2 => by
    have := h1 0 y (by omega) rfl
    simp only [insI, if_pos this, List.take_succ_cons, List.drop_succ_cons, List.cons_append, List.cons.injEq, true_and]
    exact insI_at (by simpa using h) (fun j z hj hz => h1 (j + 1) z (by omega) (by simpa using hz)) (fun z hz => h2 z (by simpa using hz))
theorem ruleS_succ (l : List Sag) (n : Nat) : ruleS l (ixS (n + 1)) = insI (ordS l) n (ruleS l (ixS n)) := by rw [ixS_succ, ruleS, isortI_snoc]; rfl

def C_rrule (P : Program) (f : Nat) : Prop := ∀ (l : List Sag), listB l = true → Snd P f [.fsl (l.map Sag.c)] [] (.fsl ((ruleS l (ixS l.length)).map intC)) []
set_option maxHeartbeats 1000000 in
theorem ok_rrule (hm : P.follows .mixedOrders = true) {f f0 : Nat} (low : Low_potbankref03_rule P f f0) (h0 : C_lower P f0) : C_rrule P f := by
  intro l hv
  have hlen := list_len hv
  refine snd_ic hm low (by simp) ?_
  unfold ic_potbankref03_rule
  simp -dsimp -implicitDefEqProofs only [qq, Nat.reduceBEq, reduceIte, Nat.reduceAdd, Nat.reduceSub, Nat.reduceLeDiff, Nat.reduceLT, Nat.reduceMul, Nat.reduceEqDiff, Int.reduceEq, Int.reduceBEq, Int.reduceBNe, Int.reduceLT, Int.reduceLE, Int.reduceGT, Int.reduceGE, Int.reduceNeg, Int.reduceAdd, Int.reduceSub, reduceCtorEq, List.reduceReplicate, ← List.map_take, ← List.map_drop]
  refine loopI_st (fun i : Nat => l.length - i) (fun i E H => i ≤ l.length ∧ ∃ v, E = [(0, .fsl (l.map Sag.c)), (3, v), (4, .i .i64 i)] ∧ OwnS H 1 ((ruleS l (ixS i)).map intC) v) 0 ⟨by omega, _, rfl, .nil _ _⟩ ?_
  rintro i _ H ⟨hi, v, rfl, ho⟩
  simp -dsimp -implicitDefEqProofs only [qq, Nat.reduceBEq, reduceIte, Nat.reduceAdd, Nat.reduceSub, Nat.reduceLeDiff, Nat.reduceLT, Nat.reduceMul, Nat.reduceEqDiff, Int.reduceEq, Int.reduceBEq, Int.reduceBNe, Int.reduceLT, Int.reduceLE, Int.reduceGT, Int.reduceGE, Int.reduceNeg, Int.reduceAdd, Int.reduceSub, reduceCtorEq, List.reduceReplicate, ← List.map_take, ← List.map_drop]
  refine brG_of (fun hlt => ?_) (fun hge => ?_) <;> simp -dsimp -implicitDefEqProofs only [qq, Nat.reduceBEq, reduceIte, Nat.reduceAdd, Nat.reduceSub, Nat.reduceLeDiff, Nat.reduceLT, Nat.reduceMul, Nat.reduceEqDiff, Int.reduceEq, Int.reduceBEq, Int.reduceBNe, Int.reduceLT, Int.reduceLE, Int.reduceGT, Int.reduceGE, Int.reduceNeg, Int.reduceAdd, Int.reduceSub, reduceCtorEq, List.reduceReplicate, ← List.map_take, ← List.map_drop]
  · have hil : i < l.length := by simpa using hlt
    obtain ⟨x, hx, hxm, _, _⟩ := next_of hil
    have hwi : IntKind.i64.wrap ((i : Int) + 1) = ((i + 1 : Nat) : Int) := wrap_succ (by omega)
    have hrl : (ruleS l (ixS i)).length = i := by rw [ruleS_length, ixS_length]
    have hix : okIx l.length (ruleS l (ixS i)) := fun y hy => by
      have := ixS_ok i y ((isortI_perm _ _).mem_iff.1 hy)
      omega
    have tot : ∀ (k : Nat), k ≤ i → (∀ j y, j < k → (ruleS l (ixS i))[j]? = some y → ordS l y i < 0) → (∀ y, (ruleS l (ixS i))[k]? = some y → ¬ ordS l y i < 0) →
        (ruleS l (ixS (i + 1))).map intC = ((ruleS l (ixS i)).map intC).take k ++ [intC i] ++ ((ruleS l (ixS i)).map intC).drop k := fun k hk h1 h2 => by
      rw [ruleS_succ, insI_at (by omega) h1 h2]; simp
    generalize hR : ruleS l (ixS i) = R at ho hrl hix tot
    have irow : ∀ {r : List V}, r ∈ R.map intC → r.length = 1 ∧ r.all V.one = true := fun hr => by obtain ⟨x, _, rfl⟩ := List.mem_map.1 hr; exact ⟨rfl, rfl⟩
    rcases ho with ⟨hr0, rfl⟩ | ⟨p, c, e, rfl, hp⟩
    · have hi0 : i = 0 := by have := congrArg List.length hr0; simp [hrl] at this; exact this
      subst hi0
      have hcl : decide (((0 : Nat) : Int) < 0) = false := by decide
      refine loopI_st (fun k : Nat => 0) (fun k E H' => H' = H ∧ E = [(0, .fsl (l.map Sag.c)), (3, .nsl), (4, .i .i64 (0 : Nat)), (5, .i .i64 (0 : Nat))]) 0 ⟨rfl, rfl⟩ ?_
      rintro _ _ H2 ⟨hH2, rfl⟩
      simp -dsimp -implicitDefEqProofs only [Int.natCast_zero, qq, Nat.reduceBEq, reduceIte, Nat.reduceAdd, Nat.reduceSub, Nat.reduceLeDiff, Nat.reduceLT, Nat.reduceMul, Nat.reduceEqDiff, Int.reduceEq, Int.reduceBEq, Int.reduceBNe, Int.reduceLT, Int.reduceLE, Int.reduceGT, Int.reduceGE, Int.reduceNeg, Int.reduceAdd, Int.reduceSub, reduceCtorEq, List.reduceReplicate, ← List.map_take, ← List.map_drop]
      refine ⟨by simp, app_newZ (ys := []) (NewZ.emp _ 1) (by decide) (by decide) rfl (by simp) (by simp) fun v1 H1 hn1 => ⟨hn1.take, ?_⟩⟩
      simp -dsimp -implicitDefEqProofs only [Int.natCast_zero, qq, Nat.reduceBEq, reduceIte, Nat.reduceAdd, Nat.reduceSub, Nat.reduceLeDiff, Nat.reduceLT, Nat.reduceMul, Nat.reduceEqDiff, Int.reduceEq, Int.reduceBEq, Int.reduceBNe, Int.reduceLT, Int.reduceLE, Int.reduceGT, Int.reduceGE, Int.reduceNeg, Int.reduceAdd, Int.reduceSub, reduceCtorEq, List.reduceReplicate, ← List.map_take, ← List.map_drop]
      refine ⟨by simp [belL, V.bel], app_newZ (ys := [intC ((0 : Nat) : Int)]) hn1 (by decide) (by decide) rfl (by simp [V.one]) (by simp) fun v2 H2 hn2 => ⟨hn2.take, ?_⟩⟩
      simp -dsimp -implicitDefEqProofs only [Int.natCast_zero, qq, Nat.reduceBEq, reduceIte, Nat.reduceAdd, Nat.reduceSub, Nat.reduceLeDiff, Nat.reduceLT, Nat.reduceMul, Nat.reduceEqDiff, Int.reduceEq, Int.reduceBEq, Int.reduceBNe, Int.reduceLT, Int.reduceLE, Int.reduceGT, Int.reduceGE, Int.reduceNeg, Int.reduceAdd, Int.reduceSub, reduceCtorEq, List.reduceReplicate, ← List.map_take, ← List.map_drop]
      refine app_newZ (ys := []) hn2 (by decide) (by decide) rfl (by simp) (by simp) fun v3 H3 hn3 => ?_
      simp -dsimp -implicitDefEqProofs only [hwi, qq, Nat.reduceBEq, reduceIte, Nat.reduceAdd, Nat.reduceSub, Nat.reduceLeDiff, Nat.reduceLT, Nat.reduceMul, Nat.reduceEqDiff, Int.reduceEq, Int.reduceBEq, Int.reduceBNe, Int.reduceLT, Int.reduceLE, Int.reduceGT, Int.reduceGE, Int.reduceNeg, Int.reduceAdd, Int.reduceSub, reduceCtorEq, List.reduceReplicate, ← List.map_take, ← List.map_drop]
      refine ⟨1, by omega, by omega, v3, rfl, ?_⟩
      rw [tot 0 (Nat.le_refl _) (fun j y hj => by omega) (fun y hy => by rw [List.length_eq_zero_iff.1 hrl] at hy; simp at hy), List.length_eq_zero_iff.1 hrl]
      exact hn3.own.s (by simp)
    · refine loopI_st (fun k : Nat => i - k) (fun k E H' => k ≤ i ∧ H' = H ∧ E = [(0, .fsl (l.map Sag.c)), (3, .rsl p 1 0 i c e), (4, .i .i64 i), (5, .i .i64 k)] ∧ ∀ j y, j < k → R[j]? = some y → ordS l y i < 0) 0 ⟨by omega, rfl, by simp [hrl], by simp⟩ ?_
      rintro k _ H2 ⟨hk, hH2, rfl, hlo⟩
      rcases Nat.lt_or_ge k i with hki | hki
      case' inl =>
        have hc : decide ((k : Int) < (i : Int)) = true := by simpa using hki
        obtain ⟨y, hy, hym, _, _⟩ := next_of (show k < R.length by omega)
        have hyb := hix y hym
        obtain ⟨z, hz, hzm, _, _⟩ := next_of (show y.toNat < l.length by omega)
        have hrow : rowAt (l.map Sag.c) y = some z.c := rowAt_int hyb.1 hz
        have hp2 : H2[p]? = some (.row 1 (R.map intC)) := by rw [hH2]; exact hp
        have hord : (decide (lessP z x) = true) ↔ ordS l y i < 0 := by rw [ordS_lt hz (by simpa using hx)]; simp
        have hwk : IntKind.i64.wrap ((k : Int) + 1) = ((k + 1 : Nat) : Int) := wrap_succ (by omega)
        simp -dsimp -implicitDefEqProofs only [hc, hp2, hy, hrow, hx, Sag.c, intC, qq, Nat.reduceBEq, reduceIte, Nat.reduceAdd, Nat.reduceSub, Nat.reduceLeDiff, Nat.reduceLT, Nat.reduceMul, Nat.reduceEqDiff, Int.reduceEq, Int.reduceBEq, Int.reduceBNe, Int.reduceLT, Int.reduceLE, Int.reduceGT, Int.reduceGE, Int.reduceNeg, Int.reduceAdd, Int.reduceSub, reduceCtorEq, List.reduceReplicate, ← List.map_take, ← List.map_drop]
        refine ⟨by omega, by omega, callI_pure (h0 z x (sag_w hv hzm) (sag_w hv hxm)) rfl rfl ?_⟩
        cases hd : decide (lessP z x) <;> simp -dsimp -implicitDefEqProofs only [hwk, qq, Nat.reduceBEq, reduceIte, Nat.reduceAdd, Nat.reduceSub, Nat.reduceLeDiff, Nat.reduceLT, Nat.reduceMul, Nat.reduceEqDiff, Int.reduceEq, Int.reduceBEq, Int.reduceBNe, Int.reduceLT, Int.reduceLE, Int.reduceGT, Int.reduceGE, Int.reduceNeg, Int.reduceAdd, Int.reduceSub, reduceCtorEq, List.reduceReplicate, ← List.map_take, ← List.map_drop]
        case' true =>
          refine ⟨k + 1, by omega, by omega, hH2, rfl, fun j y' hj hy' => ?_⟩
          rcases Nat.lt_succ_iff_lt_or_eq.1 hj with h | rfl
          · exact hlo j y' h hy'
          · rw [hy] at hy'; cases hy'; exact hord.1 hd
        have hend : ∀ y', R[k]? = some y' → ¬ ordS l y' i < 0 := fun y' hy' => by rw [hy] at hy'; cases hy'; exact fun h => by rw [hord.2 h] at hd; cases hd
      case' inr =>
        have hend : ∀ y', R[k]? = some y' → ¬ ordS l y' i < 0 := fun y' hy' => by have := (List.getElem?_eq_some_iff.1 hy').1; omega
        have hp2 : H2[p]? = some (.row 1 (R.map intC)) := by rw [hH2]; exact hp
        have hc : decide ((k : Int) < (i : Int)) = false := by simp; omega
        simp -dsimp -implicitDefEqProofs only [hc, qq, Nat.reduceBEq, reduceIte, Nat.reduceAdd, Nat.reduceSub, Nat.reduceLeDiff, Nat.reduceLT, Nat.reduceMul, Nat.reduceEqDiff, Int.reduceEq, Int.reduceBEq, Int.reduceBNe, Int.reduceLT, Int.reduceLE, Int.reduceGT, Int.reduceGE, Int.reduceNeg, Int.reduceAdd, Int.reduceSub, reduceCtorEq, List.reduceReplicate, ← List.map_take, ← List.map_drop]
      all_goals
        have hmx : k ≤ max i c := by omega
        refine ⟨by simp, by omega, by omega, by omega, app_newZ (ys := ((R.map intC).drop 0).take (k - 0)) (NewZ.emp _ 1) (by decide) (by decide) (shown_drop hp2 (by simp; omega)) (fun r hr => irow (List.mem_of_mem_take (by simpa using hr))) (by simp; omega) fun v1 H1 hn1 => ⟨hn1.take, ?_⟩⟩
        simp -dsimp -implicitDefEqProofs only [qq, Nat.reduceBEq, reduceIte, Nat.reduceAdd, Nat.reduceSub, Nat.reduceLeDiff, Nat.reduceLT, Nat.reduceMul, Nat.reduceEqDiff, Int.reduceEq, Int.reduceBEq, Int.reduceBNe, Int.reduceLT, Int.reduceLE, Int.reduceGT, Int.reduceGE, Int.reduceNeg, Int.reduceAdd, Int.reduceSub, reduceCtorEq, List.reduceReplicate, ← List.map_take, ← List.map_drop]
        refine ⟨by simp [belL, V.bel], app_newZ (ys := [intC i]) hn1 (by decide) (by decide) rfl (by simp [V.one]) (by simp; omega) fun v2 H3 hn2 => ⟨hn2.take, ?_⟩⟩
        simp -dsimp -implicitDefEqProofs only [qq, Nat.reduceBEq, reduceIte, Nat.reduceAdd, Nat.reduceSub, Nat.reduceLeDiff, Nat.reduceLT, Nat.reduceMul, Nat.reduceEqDiff, Int.reduceEq, Int.reduceBEq, Int.reduceBNe, Int.reduceLT, Int.reduceLE, Int.reduceGT, Int.reduceGE, Int.reduceNeg, Int.reduceAdd, Int.reduceSub, reduceCtorEq, List.reduceReplicate, ← List.map_take, ← List.map_drop]
        refine ⟨by omega, by omega, by omega, app_newZ (ys := ((R.map intC).drop k).take (i - k)) hn2 (by decide) (by decide) (shown_drop (hn2.keep _ _ hp2) (by simp; omega)) (fun r hr => irow (List.mem_of_mem_drop (List.mem_of_mem_take hr))) (by simp; omega) fun v3 H4 hn3 => ?_⟩
        simp -dsimp -implicitDefEqProofs only [hwi, qq, Nat.reduceBEq, reduceIte, Nat.reduceAdd, Nat.reduceSub, Nat.reduceLeDiff, Nat.reduceLT, Nat.reduceMul, Nat.reduceEqDiff, Int.reduceEq, Int.reduceBEq, Int.reduceBNe, Int.reduceLT, Int.reduceLE, Int.reduceGT, Int.reduceGE, Int.reduceNeg, Int.reduceAdd, Int.reduceSub, reduceCtorEq, List.reduceReplicate, ← List.map_take, ← List.map_drop]
        refine ⟨i + 1, by omega, by omega, v3, rfl, ?_⟩
        rw [tot k hk hlo hend]
        have := hn3.own.s (by simp)
        have e0 : ((R.map intC).drop 0).take (k - 0) = (R.map intC).take k := by simp
        have e1 : ((R.map intC).drop k).take (i - k) = (R.map intC).drop k := by rw [List.take_of_length_le (by simp; omega)]
        rw [e0, e1, List.nil_append] at this
        exact this
  · have hi2 : i = l.length := by simp at hge; omega
    subst hi2
    exact Ends.ret rfl (ho.frz (bel_ints _))

theorem ok_rRule (hm : P.follows .mixedOrders = true) {f f0 f1 : Nat} (low : Low_potbankref03_Rule P f f0 f1) (h0 : C_CheckList P f0) (h1 : C_rrule P f1) : C_Rule P f := by
  intro l
  refine snd_ic hm low (by simp) ?_
  unfold ic_potbankref03_Rule
  simp -dsimp -implicitDefEqProofs only [qq, Nat.reduceBEq, reduceIte, Nat.reduceAdd, Nat.reduceSub, Nat.reduceLeDiff, Nat.reduceLT, Nat.reduceMul, Nat.reduceEqDiff, Int.reduceEq, Int.reduceBEq, Int.reduceBNe, Int.reduceLT, Int.reduceLE, Int.reduceGT, Int.reduceGE, Int.reduceNeg, Int.reduceAdd, Int.reduceSub, reduceCtorEq, List.reduceReplicate, ← List.map_take, ← List.map_drop]
  refine callI_pure (h0 l) rfl rfl ?_
  cases hl : listB l <;> simp -dsimp -implicitDefEqProofs only [qq, Nat.reduceBEq, reduceIte, Nat.reduceAdd, Nat.reduceSub, Nat.reduceLeDiff, Nat.reduceLT, Nat.reduceMul, Nat.reduceEqDiff, Int.reduceEq, Int.reduceBEq, Int.reduceBNe, Int.reduceLT, Int.reduceLE, Int.reduceGT, Int.reduceGE, Int.reduceNeg, Int.reduceAdd, Int.reduceSub, reduceCtorEq, List.reduceReplicate, ← List.map_take, ← List.map_drop]
  · exact Ends.ret rfl (frz2 .nil (.keep _ rfl))
  refine callI_pure (h1 l hl) rfl rfl ?_
  simp -dsimp -implicitDefEqProofs only [qq, Nat.reduceBEq, reduceIte, Nat.reduceAdd, Nat.reduceSub, Nat.reduceLeDiff, Nat.reduceLT, Nat.reduceMul, Nat.reduceEqDiff, Int.reduceEq, Int.reduceBEq, Int.reduceBNe, Int.reduceLT, Int.reduceLE, Int.reduceGT, Int.reduceGE, Int.reduceNeg, Int.reduceAdd, Int.reduceSub, reduceCtorEq, List.reduceReplicate, ← List.map_take, ← List.map_drop]
  exact Ends.ret rfl (frz_keep2 rfl rfl)

theorem ok_some (hm : P.follows .mixedOrders = true) {f : Nat} (low : Low_potbankref03_some P f) : C_stacked P f := by
  intro l s hl hs
  refine snd_ic hm low (by simp) ?_
  unfold ic_potbankref03_some
  simp -dsimp -implicitDefEqProofs only [qq, Nat.reduceBEq, reduceIte, Nat.reduceAdd, Nat.reduceSub, Nat.reduceLeDiff, Nat.reduceLT, Nat.reduceMul, Nat.reduceEqDiff, Int.reduceEq, Int.reduceBEq, Int.reduceBNe, Int.reduceLT, Int.reduceLE, Int.reduceGT, Int.reduceGE, Int.reduceNeg, Int.reduceAdd, Int.reduceSub, reduceCtorEq, List.reduceReplicate, ← List.map_take, ← List.map_drop]
  refine loopI_st (fun k : Nat => s.length - k) (fun k E H => k ≤ s.length ∧ ∃ v, E = [(0, .fsl (l.map Sag.c)), (1, .fsl (s.map intC)), (5, v), (6, .i .i64 k)] ∧ OwnF 0 H 8 ((pickS l (s.take k)).map Sag.c) v) 0 ⟨by omega, _, rfl, .nil _ _ _⟩ ?_
  rintro k _ H ⟨hk, v, rfl, ho⟩
  simp -dsimp -implicitDefEqProofs only [qq, Nat.reduceBEq, reduceIte, Nat.reduceAdd, Nat.reduceSub, Nat.reduceLeDiff, Nat.reduceLT, Nat.reduceMul, Nat.reduceEqDiff, Int.reduceEq, Int.reduceBEq, Int.reduceBNe, Int.reduceLT, Int.reduceLE, Int.reduceGT, Int.reduceGE, Int.reduceNeg, Int.reduceAdd, Int.reduceSub, reduceCtorEq, List.reduceReplicate, ← List.map_take, ← List.map_drop]
  refine brG_of (fun hlt => ?_) (fun hge => ?_)
  · have hkl : k < s.length := by simpa using hlt
    obtain ⟨i, hi, him, htk, _⟩ := next_of hkl
    obtain ⟨h1, h2⟩ := hs i him
    obtain ⟨x, hx, _, _, _⟩ := next_of (show i.toNat < l.length by omega)
    have hwk : IntKind.i64.wrap ((k : Int) + 1) = ((k + 1 : Nat) : Int) := wrap_succ (by omega)
    have hr : rowAt (l.map Sag.c) i = some x.c := rowAt_int h1 hx
    have hp := pickS_length l (s.take k)
    rw [List.length_take] at hp
    simp -dsimp -implicitDefEqProofs only [hi, intC, hr, Sag.c, qq, Nat.reduceBEq, reduceIte, Nat.reduceAdd, Nat.reduceSub, Nat.reduceLeDiff, Nat.reduceLT, Nat.reduceMul, Nat.reduceEqDiff, Int.reduceEq, Int.reduceBEq, Int.reduceBNe, Int.reduceLT, Int.reduceLE, Int.reduceGT, Int.reduceGE, Int.reduceNeg, Int.reduceAdd, Int.reduceSub, reduceCtorEq, List.reduceReplicate, ← List.map_take, ← List.map_drop]
    refine app_ownF (ys := [x.c]) ho (by omega) (by decide) (by decide) (by simp [Sh.shown, gapp]) (by simp [V.one]) (by simp only [List.length_map, List.length_cons, List.length_nil]; omega) fun v' H' ho' hH' hk' => ?_
    simp -dsimp -implicitDefEqProofs only [hwk, qq, Nat.reduceBEq, reduceIte, Nat.reduceAdd, Nat.reduceSub, Nat.reduceLeDiff, Nat.reduceLT, Nat.reduceMul, Nat.reduceEqDiff, Int.reduceEq, Int.reduceBEq, Int.reduceBNe, Int.reduceLT, Int.reduceLE, Int.reduceGT, Int.reduceGE, Int.reduceNeg, Int.reduceAdd, Int.reduceSub, reduceCtorEq, List.reduceReplicate, ← List.map_take, ← List.map_drop]
    refine ⟨k + 1, by omega, by omega, v', rfl, ?_⟩
    rw [htk, pickS_snoc hx]
    simpa using ho'
  · obtain rfl : k = s.length := by simp at hge; omega
    rw [List.take_length] at ho
    simp -dsimp -implicitDefEqProofs only [qq, Nat.reduceBEq, reduceIte, Nat.reduceAdd, Nat.reduceSub, Nat.reduceLeDiff, Nat.reduceLT, Nat.reduceMul, Nat.reduceEqDiff, Int.reduceEq, Int.reduceBEq, Int.reduceBNe, Int.reduceLT, Int.reduceLE, Int.reduceGT, Int.reduceGE, Int.reduceNeg, Int.reduceAdd, Int.reduceSub, reduceCtorEq, List.reduceReplicate, ← List.map_take, ← List.map_drop]
    exact Ends.ret rfl (ho.own.frz (by intro row hr; obtain ⟨n, _, rfl⟩ := List.mem_map.1 hr; rfl))

def C_rcanStand (P : Program) (f : Nat) : Prop := ∀ (l : List Sag), listB l = true → Snd P f [.fsl (l.map Sag.c)] [] (.b (canS l (ixS l.length))) []
theorem ok_rcanStand (hm : P.follows .mixedOrders = true) {f f0 f1 f2 : Nat} (low : Low_potbankref03_canStand P f f0 f1 f2) (h0 : C_rrule P f0) (h1 : C_stacked P f1) (h2 : C_rstands P f2) : C_rcanStand P f := by
  intro l hl
  have hlen := list_len hl
  refine snd_ic hm low (by simp) ?_
  unfold ic_potbankref03_canStand
  simp -dsimp -implicitDefEqProofs only [qq, Nat.reduceBEq, reduceIte, Nat.reduceAdd, Nat.reduceSub, Nat.reduceLeDiff, Nat.reduceLT, Nat.reduceMul, Nat.reduceEqDiff, Int.reduceEq, Int.reduceBEq, Int.reduceBNe, Int.reduceLT, Int.reduceLE, Int.reduceGT, Int.reduceGE, Int.reduceNeg, Int.reduceAdd, Int.reduceSub, reduceCtorEq, List.reduceReplicate, ← List.map_take, ← List.map_drop]
  refine callI_pure (h0 l hl) rfl rfl ?_
  simp -dsimp -implicitDefEqProofs only [qq, Nat.reduceBEq, reduceIte, Nat.reduceAdd, Nat.reduceSub, Nat.reduceLeDiff, Nat.reduceLT, Nat.reduceMul, Nat.reduceEqDiff, Int.reduceEq, Int.reduceBEq, Int.reduceBNe, Int.reduceLT, Int.reduceLE, Int.reduceGT, Int.reduceGE, Int.reduceNeg, Int.reduceAdd, Int.reduceSub, reduceCtorEq, List.reduceReplicate, ← List.map_take, ← List.map_drop]
  refine callI_pure (h1 l (ruleS l (ixS l.length)) (by rw [ruleS_length, ixS_length]; omega) (ruleS_ok (ixS_ok _))) rfl rfl ?_
  simp -dsimp -implicitDefEqProofs only [qq, Nat.reduceBEq, reduceIte, Nat.reduceAdd, Nat.reduceSub, Nat.reduceLeDiff, Nat.reduceLT, Nat.reduceMul, Nat.reduceEqDiff, Int.reduceEq, Int.reduceBEq, Int.reduceBNe, Int.reduceLT, Int.reduceLE, Int.reduceGT, Int.reduceGE, Int.reduceNeg, Int.reduceAdd, Int.reduceSub, reduceCtorEq, List.reduceReplicate, ← List.map_take, ← List.map_drop]
  refine callI_pure (h2 _ (listB_pick hl (ruleS_ok (ixS_ok _)) (ruleS_nodup (ixS_nodup _)))) rfl rfl ?_
  simp -dsimp -implicitDefEqProofs only [qq, Nat.reduceBEq, reduceIte, Nat.reduceAdd, Nat.reduceSub, Nat.reduceLeDiff, Nat.reduceLT, Nat.reduceMul, Nat.reduceEqDiff, Int.reduceEq, Int.reduceBEq, Int.reduceBNe, Int.reduceLT, Int.reduceLE, Int.reduceGT, Int.reduceGE, Int.reduceNeg, Int.reduceAdd, Int.reduceSub, reduceCtorEq, List.reduceReplicate, ← List.map_take, ← List.map_drop]
  exact Ends.plain rfl rfl rfl
theorem ok_rCanStand (hm : P.follows .mixedOrders = true) {f f0 f1 : Nat} (low : Low_potbankref03_CanStand P f f0 f1) (h0 : C_CheckList P f0) (h1 : C_rcanStand P f1) : C_CanStand P f := by
  intro l
  refine snd_ic hm low (by simp) ?_
  unfold ic_potbankref03_CanStand
  simp -dsimp -implicitDefEqProofs only [qq, Nat.reduceBEq, reduceIte, Nat.reduceAdd, Nat.reduceSub, Nat.reduceLeDiff, Nat.reduceLT, Nat.reduceMul, Nat.reduceEqDiff, Int.reduceEq, Int.reduceBEq, Int.reduceBNe, Int.reduceLT, Int.reduceLE, Int.reduceGT, Int.reduceGE, Int.reduceNeg, Int.reduceAdd, Int.reduceSub, reduceCtorEq, List.reduceReplicate, ← List.map_take, ← List.map_drop]
  refine callI_pure (h0 l) rfl rfl ?_
  cases hl : listB l <;> simp -dsimp -implicitDefEqProofs only [qq, Nat.reduceBEq, reduceIte, Nat.reduceAdd, Nat.reduceSub, Nat.reduceLeDiff, Nat.reduceLT, Nat.reduceMul, Nat.reduceEqDiff, Int.reduceEq, Int.reduceBEq, Int.reduceBNe, Int.reduceLT, Int.reduceLE, Int.reduceGT, Int.reduceGE, Int.reduceNeg, Int.reduceAdd, Int.reduceSub, reduceCtorEq, List.reduceReplicate, ← List.map_take, ← List.map_drop]
  · exact Ends.plain rfl rfl (by simp [resV])
  refine callI_pure (h1 l hl) rfl rfl ?_
  simp -dsimp -implicitDefEqProofs only [qq, Nat.reduceBEq, reduceIte, Nat.reduceAdd, Nat.reduceSub, Nat.reduceLeDiff, Nat.reduceLT, Nat.reduceMul, Nat.reduceEqDiff, Int.reduceEq, Int.reduceBEq, Int.reduceBNe, Int.reduceLT, Int.reduceLE, Int.reduceGT, Int.reduceGE, Int.reduceNeg, Int.reduceAdd, Int.reduceSub, reduceCtorEq, List.reduceReplicate, ← List.map_take, ← List.map_drop]
  exact Ends.plain rfl rfl (by simp [resV])
end Go.Sh.C3
end
section
namespace Go.Sh.C3
open Go.Sh
set_option maxRecDepth 10000
set_option linter.unusedVariables false
set_option linter.unusedSimpArgs false
variable {P : Program}
def ic_potbankref03_checked (f0 f1 f2 : Nat) : IC := .seq (.reg [⟨some 1, none, .box (.t 0)⟩, ⟨some 2, none, .mov (.c (.i .i64 (0)))⟩] [1]) (.seq (.seq (.reg [⟨some 3, none, .fad 0 (.t 1)⟩, ⟨some 4, none, .ld (some 2) (.t 3)⟩, ⟨some 5, none, .calv (.c (.fn (.func f0) [] [])) [.t 4]⟩, ⟨some 6, none, .un .not (.t 5)⟩] [1, 6]) (.cond (.t 6) (.seq (.reg [⟨some 2, none, .mov (.c (.i .i64 (32)))⟩] [2]) (.ret)) (.skip))) (.seq (.seq (.reg [⟨some 7, none, .fad 2 (.t 1)⟩, ⟨some 8, none, .ld none (.t 7)⟩, ⟨some 9, none, .calv (.c (.fn (.func f1) [] [])) [.t 8]⟩, ⟨some 10, none, .bin .neq (.t 9) (.c (.i .i64 (0)))⟩] [1, 10]) (.cond (.t 10) (.seq (.reg [⟨some 2, none, .mov (.c (.i .i64 (30)))⟩] [2]) (.ret)) (.skip))) (.seq (.reg [⟨some 11, none, .fad 3 (.t 1)⟩, ⟨some 12, none, .ld (some 2) (.t 11)⟩, ⟨some 13, none, .calv (.c (.fn (.func f2) [] [])) [.t 12]⟩, ⟨some 2, none, .mov (.t 13)⟩] [2]) (.ret))))
abbrev Low_potbankref03_checked (P : Program) (f f0 f1 f2 : Nat) : Prop := lowF P f = some (14, [.tmp 2], (ic_potbankref03_checked f0 f1 f2).erase)
def ic_potbankref03_does (f0 f1 f2 : Nat) : IC := .seq (.reg [⟨some 3, none, .box (.t 0)⟩, ⟨some 5, none, .box (.t 2)⟩, ⟨some 6, none, .mov (.c (.b false))⟩] [1, 3, 5]) (.seq (.reg [⟨some 8, none, .mov (.t 1)⟩, ⟨some 9, none, .fad 2 (.t 3)⟩, ⟨some 10, none, .ld none (.t 9)⟩, ⟨some 11, none, .calv (.c (.fn (.func f0) [] [])) [.t 8, .t 10]⟩, ⟨some 7, none, .mov (.t 11)⟩] [3, 5, 7]) (.seq (.drg [(0, ⟨some 12, none, .fad 0 (.t 3)⟩), (0, ⟨some 13, none, .ld (some 2) (.t 12)⟩), (0, ⟨some 14, none, .mov (.t 7)⟩), (0, ⟨some 15, none, .mov (.t 7)⟩), (0, ⟨some 16, none, .calv (.c (.fn (.func f1) [] [])) [.t 15]⟩), (0, ⟨some 17, none, .calv (.c (.fn (.func f0) [] [])) [.t 14, .t 16]⟩), (0, ⟨some 18, none, .bld [.i .i64 (0), .i .i64 (0), .nsl] [(0, 2, (.t 13)), (2, 1, (.t 17))]⟩), (0, ⟨some 19, none, .ld (some 2) (.t 5)⟩), (0, ⟨some 20, none, .calv (.c (.fn (.func f2) [] [])) [.t 18, .t 19]⟩), (0, ⟨some 21, none, .bin .eql (.t 20) (.c (.i .i64 (1)))⟩), (0, ⟨some 6, none, .mov (.t 21)⟩)] 8 [6]) (.ret)))
abbrev Low_potbankref03_does (P : Program) (f f0 f1 f2 : Nat) : Prop := lowF P f = some (22, [.tmp 6], (ic_potbankref03_does f0 f1 f2).erase)
def ic_potbankref03_allDo (f0 : Nat) : IC := .seq (.reg [⟨some 2, none, .box (.t 0)⟩, ⟨some 4, none, .mov (.c (.b false))⟩] [1, 2]) (.seq (.seq (.reg [⟨some 5, none, .mov (.c (.i .i64 (0)))⟩] [1, 2, 5]) (.block 0 (.loop (.seq (.seq (.reg [⟨some 6, none, .mov (.t 5)⟩, ⟨some 7, none, .mov (.t 1)⟩, ⟨some 8, none, .len false (.t 7)⟩, ⟨some 9, none, .bin .lss (.t 6) (.t 8)⟩] [1, 2, 5, 9]) (.cond (.t 9) (.skip) (.exit 0))) (.seq (.block 1 (.seq (.drg [(0, ⟨some 12, none, .fad 0 (.t 2)⟩), (0, ⟨some 13, none, .ld (some 2) (.t 12)⟩), (0, ⟨some 14, none, .mov (.t 1)⟩), (0, ⟨some 15, none, .mov (.t 5)⟩), (0, ⟨some 16, none, .ixs 1 (.t 14) (.t 15)⟩), (0, ⟨some 17, none, .ld none (.t 16)⟩), (0, ⟨some 18, none, .bld [.i .i64 (0), .i .i64 (0), .nsl] [(0, 2, (.t 13)), (2, 1, (.t 17))]⟩), (0, ⟨some 19, none, .fad 2 (.t 2)⟩), (0, ⟨some 20, none, .ld none (.t 19)⟩), (0, ⟨some 21, none, .fad 3 (.t 2)⟩), (0, ⟨some 22, none, .ld (some 2) (.t 21)⟩), (0, ⟨some 23, none, .calv (.c (.fn (.func f0) [] [])) [.t 18, .t 20, .t 22]⟩), (0, ⟨some 24, none, .un .not (.t 23)⟩)] 11 [1, 2, 5, 24]) (.cond (.t 24) (.seq (.reg [⟨some 4, none, .mov (.c (.b false))⟩] [4]) (.ret)) (.skip)))) (.reg [⟨some 10, none, .mov (.t 5)⟩, ⟨some 11, none, .bin .add (.t 10) (.c (.i .i64 (1)))⟩, ⟨some 5, none, .mov (.t 11)⟩] [1, 2, 5])))))) (.seq (.reg [⟨some 4, none, .mov (.c (.b true))⟩] [4]) (.ret)))
abbrev Low_potbankref03_allDo (P : Program) (f f0 : Nat) : Prop := lowF P f = some (25, [.tmp 4], (ic_potbankref03_allDo f0).erase)

abbrev jobC (w : Rg) (l : List Sag) (s : Spt) : List V := [.i .i64 w.lo, .i .i64 w.hi, .fsl (l.map Sag.c), .i .i64 s.crown, .i .i64 s.lean]
def C_checked (P : Program) (f : Nat) : Prop := ∀ (w : Rg) (l : List Sag) (s : Spt), Snd P f [.agg (jobC w l s)] [] (.i .i64 (askedE w l s)) []
theorem ok_checked (hm : P.follows .mixedOrders = true) {f f0 f1 f2 : Nat} (low : Low_potbankref03_checked P f f0 f1 f2) (h0 : C_isWad P f0) (h1 : C_CheckList P f1) (h2 : C_CheckSpot P f2) : C_checked P f := by
  intro w l s
  refine snd_ic hm low (by simp) ?_
  unfold ic_potbankref03_checked
  simp -dsimp -implicitDefEqProofs only [qq, Nat.reduceBEq, reduceIte, Nat.reduceAdd, Nat.reduceSub, Nat.reduceLeDiff, Nat.reduceLT, Nat.reduceMul, Nat.reduceEqDiff, Int.reduceEq, Int.reduceBEq, Int.reduceBNe, Int.reduceLT, Int.reduceLE, Int.reduceGT, Int.reduceGE, Int.reduceNeg, Int.reduceAdd, Int.reduceSub, reduceCtorEq, List.reduceReplicate, ← List.map_take, ← List.map_drop]
  refine callI_pure (h0 w) rfl rfl ?_
  cases hw : rgB w 0 200 <;> simp -dsimp -implicitDefEqProofs only [qq, Nat.reduceBEq, reduceIte, Nat.reduceAdd, Nat.reduceSub, Nat.reduceLeDiff, Nat.reduceLT, Nat.reduceMul, Nat.reduceEqDiff, Int.reduceEq, Int.reduceBEq, Int.reduceBNe, Int.reduceLT, Int.reduceLE, Int.reduceGT, Int.reduceGE, Int.reduceNeg, Int.reduceAdd, Int.reduceSub, reduceCtorEq, List.reduceReplicate, ← List.map_take, ← List.map_drop]
  · exact Ends.plain rfl rfl (by simp [resV, askedE, hw])
  refine callI_pure (h1 l) rfl rfl ?_
  cases hl : listB l <;> simp -dsimp -implicitDefEqProofs only [qq, Nat.reduceBEq, reduceIte, Nat.reduceAdd, Nat.reduceSub, Nat.reduceLeDiff, Nat.reduceLT, Nat.reduceMul, Nat.reduceEqDiff, Int.reduceEq, Int.reduceBEq, Int.reduceBNe, Int.reduceLT, Int.reduceLE, Int.reduceGT, Int.reduceGE, Int.reduceNeg, Int.reduceAdd, Int.reduceSub, reduceCtorEq, List.reduceReplicate, ← List.map_take, ← List.map_drop]
  · exact Ends.plain rfl rfl (by simp [resV, askedE, hw, hl])
  refine callI_pure (h2 s) rfl rfl ?_
  simp -dsimp -implicitDefEqProofs only [qq, Nat.reduceBEq, reduceIte, Nat.reduceAdd, Nat.reduceSub, Nat.reduceLeDiff, Nat.reduceLT, Nat.reduceMul, Nat.reduceEqDiff, Int.reduceEq, Int.reduceBEq, Int.reduceBNe, Int.reduceLT, Int.reduceLE, Int.reduceGT, Int.reduceGE, Int.reduceNeg, Int.reduceAdd, Int.reduceSub, reduceCtorEq, List.reduceReplicate, ← List.map_take, ← List.map_drop]
  exact Ends.plain rfl rfl (by simp [resV, askedE, hw, hl])

/-- The rule of some of a list, as a list of its own. -/
theorem pick_get {l : List Sag} {s : List Int} (hs : okIx l.length s) {k : Nat} {i : Int} (h : s[k]? = some i) : (pickS l s)[k]? = l[i.toNat]? := by
  induction s generalizing k with
  | nil => simp at h
  | cons a s ih =>
    obtain ⟨x, hx, _, _, _⟩ := next_of (show a.toNat < l.length by have := hs a (by simp); omega)
    have e : pickS l (a :: s) = x :: pickS l s := by simp [pickS, hx]
    rw [e]
    cases k with
    | zero => simp at h; subst h; rw [hx]; rfl
    | succ k => exact ih (fun j hj => hs j (by simp [hj])) (by simpa using h)
theorem ordS_pick {l : List Sag} {s : List Int} (hs : okIx l.length s) {a b : Nat} {i k : Int} (ha : s[a]? = some i) (hb : s[b]? = some k) : ordS (pickS l s) a b = ordS l i k := by
  simp only [ordS, Int.toNat_natCast, pick_get hs ha, pick_get hs hb]
theorem insI_map {cf cg : Int → Int → Int} {g : Int → Int} {x : Int} : ∀ {a : List Int}, (∀ y ∈ a, cg y x = cf (g y) (g x)) → (insI cg x a).map g = insI cf (g x) (a.map g)
  | [], _ => rfl
  | y :: r, h => by
    simp only [insI, List.map_cons, h y (by simp)]
    split
    · rw [List.map_cons, insI_map fun z hz => h z (by simp [hz])]
    · rfl
/-- The rule by places in a list of some is the rule of these. -/
theorem rule_pick {l : List Sag} {s : List Int} (hs : okIx l.length s) : (ruleS (pickS l s) (ixS s.length)).map (fun (i : Int) => (s[i.toNat]?).getD 0) = ruleS l s := by
  have key : ∀ n, n ≤ s.length → (ruleS (pickS l s) (ixS n)).map (fun (i : Int) => (s[i.toNat]?).getD 0) = ruleS l (s.take n) := by
    intro n
    induction n with
    | zero => intro _; rfl
    | succ n ih =>
      intro hn
      obtain ⟨x, hx, _, htk, _⟩ := next_of (show n < s.length by omega)
      rw [ruleS_succ, htk]
      have : ruleS l (s.take n ++ [x]) = insI (ordS l) x (ruleS l (s.take n)) := isortI_snoc _ _ _
      rw [this, ← ih (by omega)]
      have hxn : (fun (i : Int) => (s[i.toNat]?).getD 0) (n : Int) = x := by simp [hx]
      conv => rhs; rw [← hxn]
      refine insI_map fun y hy => ?_
      have hyn := ixS_ok n y ((isortI_perm _ _).mem_iff.1 hy)
      obtain ⟨m, rfl⟩ : ∃ m : Nat, y = m := ⟨y.toNat, by omega⟩
      obtain ⟨z, hz, _, _, _⟩ := next_of (show m < s.length by omega)
      rw [ordS_pick hs hz hx]
      simp [hz, hx]
  have := key s.length (Nat.le_refl _)
  rwa [List.take_length] at this
theorem pick_pick {l : List Sag} {s : List Int} (hs : okIx l.length s) : pickS (pickS l s) (ruleS (pickS l s) (ixS s.length)) = pickS l (ruleS l s) := by
  rw [← rule_pick hs]
  have : ∀ (R : List Int), (∀ y ∈ R, 0 ≤ y ∧ y < s.length) → pickS (pickS l s) R = pickS l (R.map (fun (i : Int) => (s[i.toNat]?).getD 0)) := by
    intro R
    induction R with
    | nil => intro _; rfl
    | cons y R ih =>
      intro h
      have hy := h y (by simp)
      obtain ⟨z, hz, _, _, _⟩ := next_of (show y.toNat < s.length by omega)
      simp only [pickS, List.map_cons, List.filterMap_cons]
      have := ih (fun x hx => h x (by simp [hx]))
      simp only [pickS] at this
      rw [show (List.filterMap (fun i => l[i.toNat]?) s)[y.toNat]? = l[z.toNat]? from pick_get hs hz, hz]
      simp only [Option.getD_some]
      rw [this]
  exact this _ fun y hy => ixS_ok _ y ((isortI_perm _ _).mem_iff.1 hy)
def C_does (P : Program) (f : Nat) : Prop := ∀ (w w' : Rg) (l : List Sag) (s : Spt) (some : List Int), rgB w 0 200 = true → listB l = true → okIx l.length some → some.Nodup → some ≠ [] → Snd P f [.agg [.i .i64 w.lo, .i .i64 w.hi, .fsl (some.map intC)], .fsl (l.map Sag.c), .agg s.c] [] (.b (doS w l s some)) []
theorem ok_does (hm : P.follows .mixedOrders = true) {f f0 f1 f2 : Nat} (low : Low_potbankref03_does P f f0 f1 f2) (h0 : C_stacked P f0) (h1 : C_rrule P f1) (h2 : C_fits P f2) : C_does P f := by
  intro w w' l s some hw hv hs hn hne
  have hlen := list_len hv
  have h3 := nodup_bound l.length some hn hs
  have hpk := listB_pick hv hs hn
  have hpl := pickS_len hs
  have hro : okIx (pickS l some).length (ruleS (pickS l some) (ixS (pickS l some).length)) := ruleS_ok (ixS_ok _)
  have hpp : pickS (pickS l some) (ruleS (pickS l some) (ixS (pickS l some).length)) = pickS l (ruleS l some) := by rw [hpl]; exact pick_pick hs
  have hpos : 0 < (pickS l (ruleS l some)).length := by rw [pickS_len (ruleS_ok hs), ruleS_length]; exact List.length_pos_iff.2 hne
  have hfin := listB_pick hv (ruleS_ok hs) (ruleS_nodup hn)
  refine snd_ic hm low (by simp) ?_
  unfold ic_potbankref03_does
  simp -dsimp -implicitDefEqProofs only [qq, Nat.reduceBEq, reduceIte, Nat.reduceAdd, Nat.reduceSub, Nat.reduceLeDiff, Nat.reduceLT, Nat.reduceMul, Nat.reduceEqDiff, Int.reduceEq, Int.reduceBEq, Int.reduceBNe, Int.reduceLT, Int.reduceLE, Int.reduceGT, Int.reduceGE, Int.reduceNeg, Int.reduceAdd, Int.reduceSub, reduceCtorEq, List.reduceReplicate, ← List.map_take, ← List.map_drop]
  refine callI_pure (h0 l some (by omega) hs) rfl rfl ?_
  simp -dsimp -implicitDefEqProofs only [qq, Nat.reduceBEq, reduceIte, Nat.reduceAdd, Nat.reduceSub, Nat.reduceLeDiff, Nat.reduceLT, Nat.reduceMul, Nat.reduceEqDiff, Int.reduceEq, Int.reduceBEq, Int.reduceBNe, Int.reduceLT, Int.reduceLE, Int.reduceGT, Int.reduceGE, Int.reduceNeg, Int.reduceAdd, Int.reduceSub, reduceCtorEq, List.reduceReplicate, ← List.map_take, ← List.map_drop]
  refine callI_pure (h1 (pickS l some) hpk) rfl rfl ?_
  simp -dsimp -implicitDefEqProofs only [qq, Nat.reduceBEq, reduceIte, Nat.reduceAdd, Nat.reduceSub, Nat.reduceLeDiff, Nat.reduceLT, Nat.reduceMul, Nat.reduceEqDiff, Int.reduceEq, Int.reduceBEq, Int.reduceBNe, Int.reduceLT, Int.reduceLE, Int.reduceGT, Int.reduceGE, Int.reduceNeg, Int.reduceAdd, Int.reduceSub, reduceCtorEq, List.reduceReplicate, ← List.map_take, ← List.map_drop]
  refine callI_pure (h0 (pickS l some) _ (by rw [ruleS_length, ixS_length]; omega) hro) rfl rfl ?_
  rw [hpp]
  simp -dsimp -implicitDefEqProofs only [qq, Nat.reduceBEq, reduceIte, Nat.reduceAdd, Nat.reduceSub, Nat.reduceLeDiff, Nat.reduceLT, Nat.reduceMul, Nat.reduceEqDiff, Int.reduceEq, Int.reduceBEq, Int.reduceBNe, Int.reduceLT, Int.reduceLE, Int.reduceGT, Int.reduceGE, Int.reduceNeg, Int.reduceAdd, Int.reduceSub, reduceCtorEq, List.reduceReplicate, ← List.map_take, ← List.map_drop]
  refine callI_pure (h2 w (pickS l (ruleS l some)) s (by simp [bungB, hw, hfin, hpos])) rfl rfl ?_
  simp -dsimp -implicitDefEqProofs only [qq, Nat.reduceBEq, reduceIte, Nat.reduceAdd, Nat.reduceSub, Nat.reduceLeDiff, Nat.reduceLT, Nat.reduceMul, Nat.reduceEqDiff, Int.reduceEq, Int.reduceBEq, Int.reduceBNe, Int.reduceLT, Int.reduceLE, Int.reduceGT, Int.reduceGE, Int.reduceNeg, Int.reduceAdd, Int.reduceSub, reduceCtorEq, List.reduceReplicate, ← List.map_take, ← List.map_drop]
  exact Ends.plain rfl rfl rfl
def C_allDo (P : Program) (f : Nat) : Prop := ∀ (w : Rg) (l : List Sag) (s : Spt) (bs : List (List Int)), rgB w 0 200 = true → listB l = true → (∀ b ∈ bs, okIx l.length b ∧ b.Nodup ∧ b ≠ []) → bs.length ≤ 1000000 → Snd P f [.agg (jobC w l s), .fsl (bs.map rowC)] [] (.b (bs.all (doS w l s))) []
theorem ok_allDo (hm : P.follows .mixedOrders = true) {f f0 : Nat} (low : Low_potbankref03_allDo P f f0) (h0 : C_does P f0) : C_allDo P f := by
  intro w l s bs hw hv hb hl
  refine snd_ic hm low (by simp) ?_
  unfold ic_potbankref03_allDo
  simp -dsimp -implicitDefEqProofs only [qq, Nat.reduceBEq, reduceIte, Nat.reduceAdd, Nat.reduceSub, Nat.reduceLeDiff, Nat.reduceLT, Nat.reduceMul, Nat.reduceEqDiff, Int.reduceEq, Int.reduceBEq, Int.reduceBNe, Int.reduceLT, Int.reduceLE, Int.reduceGT, Int.reduceGE, Int.reduceNeg, Int.reduceAdd, Int.reduceSub, reduceCtorEq, List.reduceReplicate, ← List.map_take, ← List.map_drop]
  refine loopI_st (fun k : Nat => bs.length - k) (fun k E H => k ≤ bs.length ∧ E = [(1, .fsl (bs.map rowC)), (2, .rpt 0 5 0 0), (5, .i .i64 k)] ∧ H = [.row 5 [jobC w l s]] ∧ (bs.take k).all (doS w l s) = true) 0 ⟨by omega, rfl, rfl, rfl⟩ ?_
  rintro k _ _ ⟨hk, rfl, rfl, hd⟩
  rcases Nat.lt_or_ge k bs.length with hkl | hkl
  · have hc : decide ((k : Int) < (bs.length : Int)) = true := by simpa using hkl
    obtain ⟨x, hx, hxm, htk, _⟩ := next_of hkl
    have hwk : IntKind.i64.wrap ((k : Int) + 1) = ((k + 1 : Nat) : Int) := wrap_succ (by omega)
    obtain ⟨g1, g2, g3⟩ := hb x hxm
    simp -dsimp -implicitDefEqProofs only [hc, hx, rowC, qq, Nat.reduceBEq, reduceIte, Nat.reduceAdd, Nat.reduceSub, Nat.reduceLeDiff, Nat.reduceLT, Nat.reduceMul, Nat.reduceEqDiff, Int.reduceEq, Int.reduceBEq, Int.reduceBNe, Int.reduceLT, Int.reduceLE, Int.reduceGT, Int.reduceGE, Int.reduceNeg, Int.reduceAdd, Int.reduceSub, reduceCtorEq, List.reduceReplicate, ← List.map_take, ← List.map_drop]
    refine callI_pure (h0 w w l s x hw hv g1 g2 g3) rfl rfl ?_
    cases hdx : doS w l s x
    · simp -dsimp -implicitDefEqProofs only [qq, Nat.reduceBEq, reduceIte, Nat.reduceAdd, Nat.reduceSub, Nat.reduceLeDiff, Nat.reduceLT, Nat.reduceMul, Nat.reduceEqDiff, Int.reduceEq, Int.reduceBEq, Int.reduceBNe, Int.reduceLT, Int.reduceLE, Int.reduceGT, Int.reduceGE, Int.reduceNeg, Int.reduceAdd, Int.reduceSub, reduceCtorEq, List.reduceReplicate, ← List.map_take, ← List.map_drop]
      refine Ends.plain rfl rfl ?_
      have : bs.all (doS w l s) = false := by simp only [List.all_eq_false]; exact ⟨x, hxm, by rw [hdx]; simp⟩
      simp [resV, this]
    · simp -dsimp -implicitDefEqProofs only [hwk, qq, Nat.reduceBEq, reduceIte, Nat.reduceAdd, Nat.reduceSub, Nat.reduceLeDiff, Nat.reduceLT, Nat.reduceMul, Nat.reduceEqDiff, Int.reduceEq, Int.reduceBEq, Int.reduceBNe, Int.reduceLT, Int.reduceLE, Int.reduceGT, Int.reduceGE, Int.reduceNeg, Int.reduceAdd, Int.reduceSub, reduceCtorEq, List.reduceReplicate, ← List.map_take, ← List.map_drop]
      exact ⟨k + 1, by omega, by omega, rfl, by rw [htk, List.all_append, hd]; simp [hdx]⟩
  · have hc : decide ((k : Int) < (bs.length : Int)) = false := by simp; omega
    rw [List.take_of_length_le hkl] at hd
    simp -dsimp -implicitDefEqProofs only [hc, qq, Nat.reduceBEq, reduceIte, Nat.reduceAdd, Nat.reduceSub, Nat.reduceLeDiff, Nat.reduceLT, Nat.reduceMul, Nat.reduceEqDiff, Int.reduceEq, Int.reduceBEq, Int.reduceBNe, Int.reduceLT, Int.reduceLE, Int.reduceGT, Int.reduceGE, Int.reduceNeg, Int.reduceAdd, Int.reduceSub, reduceCtorEq, List.reduceReplicate, ← List.map_take, ← List.map_drop]
    exact Ends.plain rfl rfl (by simp [resV, hd])
end Go.Sh.C3
end
section
namespace Go.Sh.C3
open Go.Sh
variable {P : Program}

theorem answerS_one {a b : Rg} : answerS a b = 1 ↔ a.hi ≤ b.lo := by
  unfold answerS
  split
  · simp [*]
  · split <;> simp [*]
theorem coursesS_three : ∀ {l : List Sag} {x : Int}, x ∈ coursesS l → x = 0 ∨ x = 1 ∨ x = 2
  | [], x, h => by simp [coursesS] at h
  | s :: r, x, h => by
    simp only [coursesS, List.mem_cons] at h
    rcases h with rfl | h
    · unfold answerS; split <;> (try split) <;> simp
    · exact coursesS_three h
theorem standsS_one {l : List Sag} : standsS l = 1 ↔ ∀ x ∈ coursesS l, x = 1 := by
  unfold standsS allS
  split
  · rename_i h; simp; exact ⟨0, h, by decide⟩
  · rename_i h0
    split
    · rename_i h; simp; exact ⟨2, h, by decide⟩
    · rename_i h2
      simp only [true_iff]
      intro x hx
      rcases coursesS_three hx with rfl | rfl | rfl
      · exact absurd hx h0
      · rfl
      · exact absurd hx h2
theorem wOf_sub {m l : List Sag} (h : m.Sublist l) (hv : ∀ s ∈ l, sagB s = true) : 0 ≤ (wOf m).hi ∧ (wOf m).hi ≤ (wOf l).hi := by
  induction h with
  | slnil => simp [wOf, sumR]
  | cons s _ ih =>
    have := ih fun x hx => hv x (by simp [hx])
    have hs := hv s (by simp)
    simp [sagB, rgB, inR] at hs
    rw [wOf_cons]; simp only; omega
  | cons_cons s _ ih =>
    have := ih fun x hx => hv x (by simp [hx])
    have hs := hv s (by simp)
    simp [sagB, rgB, inR] at hs
    rw [wOf_cons, wOf_cons]; simp only; omega
theorem courses_sub {m l : List Sag} (h : m.Sublist l) (hv : ∀ s ∈ l, sagB s = true) (hc : ∀ x ∈ coursesS l, x = 1) : ∀ x ∈ coursesS m, x = 1 := by
  induction h with
  | slnil => simp [coursesS]
  | cons s _ ih => exact ih (fun x hx => hv x (by simp [hx])) fun x hx => hc x (by simp [coursesS, hx])
  | cons_cons s h ih =>
    intro x hx
    simp only [coursesS, List.mem_cons] at hx
    rcases hx with rfl | hx
    · have h1 := hc _ (by simp only [coursesS, List.mem_cons]; exact .inl rfl)
      rw [answerS_one] at h1 ⊢
      have := (wOf_sub h fun x hx => hv x (by simp [hx])).2
      omega
    · exact ih (fun x hx => hv x (by simp [hx])) (fun x hx => hc x (by simp [coursesS, hx])) x hx
theorem hOf_sub {m l : List Sag} (h : m.Sublist l) (hv : ∀ s ∈ l, sagB s = true) : 0 ≤ (hOf m).hi ∧ (hOf m).hi ≤ (hOf l).hi ∧ 0 ≤ (hOf m).lo ∧ (hOf m).lo ≤ (hOf l).lo := by
  induction h with
  | slnil => simp [hOf, sumR]
  | cons s _ ih =>
    have := ih fun x hx => hv x (by simp [hx])
    have hs := hv s (by simp)
    simp [sagB, rgB, inR] at hs
    simp [hOf, sumR] at this ⊢; omega
  | cons_cons s _ ih =>
    have := ih fun x hx => hv x (by simp [hx])
    have hs := hv s (by simp)
    simp [sagB, rgB, inR] at hs
    simp [hOf, sumR] at this ⊢; omega
theorem height_sub {w : Rg} {m l : List Sag} (hw : rgB w 0 200 = true) (h : m.Sublist l) (hv : ∀ s ∈ l, sagB s = true) (hm : 0 < m.length) : (heightS w m).hi ≤ (heightS w l).hi ∧ (heightS w m).lo ≤ (heightS w l).lo := by
  have hw' : 0 ≤ w.lo ∧ w.lo ≤ w.hi := by simp [rgB] at hw; omega
  have hl := h.length_le
  have h1 := hOf_sub h hv
  rw [heightS_eq w hm, heightS_eq w (by omega)]
  have a1 : ((m.length : Int) - 1) * w.hi ≤ ((l.length : Int) - 1) * w.hi := Int.mul_le_mul_of_nonneg_right (by omega) (by omega)
  have a2 : ((m.length : Int) - 1) * w.lo ≤ ((l.length : Int) - 1) * w.lo := Int.mul_le_mul_of_nonneg_right (by omega) (by omega)
  simp only
  omega
theorem leanG_sub {w : Int} (hw : 0 ≤ w) {m l : List Sag} (h : m.Sublist l) (hv : ∀ s ∈ l, sagB s = true) : 0 ≤ (leanG w m).2 ∧ (leanG w m).2 ≤ (leanG w l).2 ∧ 0 ≤ (leanG w m).1 ∧ (leanG w m).1 ≤ (leanG w l).1 := by
  induction h with
  | slnil => simp [leanG]
  | cons s _ ih =>
    obtain ⟨a1, a2, a3, a4⟩ := ih fun x hx => hv x (by simp [hx])
    have hs := hv s (by simp)
    simp [sagB, rgB, inR] at hs
    simp only [leanG]
    rename_i l' _
    have : 0 ≤ s.tilt * ((leanG w l').2 + s.h.hi) := Int.mul_nonneg (by omega) (by omega)
    omega
  | cons_cons s _ ih =>
    obtain ⟨a1, a2, a3, a4⟩ := ih fun x hx => hv x (by simp [hx])
    have hs := hv s (by simp)
    simp [sagB, rgB, inR] at hs
    simp only [leanG]
    rename_i m' l' _
    have b1 : 0 ≤ s.tilt * ((leanG w m').2 + s.h.hi) := Int.mul_nonneg (by omega) (by omega)
    have b2 : s.tilt * ((leanG w m').2 + s.h.hi) ≤ s.tilt * ((leanG w l').2 + s.h.hi) := Int.mul_le_mul_of_nonneg_left (by omega) (by omega)
    omega
theorem tail_sub {m l : List Sag} (h : m.Sublist l) : m.tail.Sublist l.tail := by
  cases h with
  | slnil => exact .slnil
  | cons s h =>
    simp only [List.tail_cons]
    exact (List.tail_sublist _).trans h
  | cons_cons s h => exact h
theorem lean_sub {w : Rg} {m l : List Sag} (hw : rgB w 0 200 = true) (h : m.Sublist l) (hv : ∀ s ∈ l, sagB s = true) : leanS w m ≤ leanS w l := by
  have hw' : 0 ≤ w.hi := by simp [rgB] at hw; omega
  obtain ⟨_, _, a3, a4⟩ := leanG_sub hw' (tail_sub h) fun x hx => hv x (List.mem_of_mem_tail hx)
  unfold leanS
  rw [Int.tdiv_eq_ediv_of_nonneg (by omega), Int.tdiv_eq_ediv_of_nonneg (by omega)]
  omega
theorem fitsS_one {w : Rg} {l : List Sag} {s : Spt} (hw : rgB w 0 200 = true) (hv : listB l = true) (hl : 0 < l.length) : fitsS w l s = 1 ↔ (heightS w l).hi ≤ s.crown ∧ leanS w l ≤ s.lean ∧ ∀ x ∈ coursesS l, x = 1 := by
  rw [← standsS_one]
  unfold fitsS
  have hlo : (heightS w l).lo ≤ (heightS w l).hi := by
    have hw' : 0 ≤ w.lo ∧ w.lo ≤ w.hi := by simp [rgB] at hw; omega
    rw [heightS_eq w hl]
    have a1 : ((l.length : Int) - 1) * w.lo ≤ ((l.length : Int) - 1) * w.hi := Int.mul_le_mul_of_nonneg_left (by omega) (by omega)
    have a2 : (hOf l).lo ≤ (hOf l).hi := by
      have hs := fun s hs => sag_w hv (s := s) hs
      clear hv hl a1
      induction l with
      | nil => simp [hOf, sumR]
      | cons s l ih =>
        have h1 := ih fun x hx => hs x (by simp [hx])
        have h2 := hs s (by simp)
        simp [sagB, rgB, inR] at h2
        simp [hOf, sumR] at h1 ⊢; omega
    simp only; omega
  split
  · rename_i h
    simp only [false_iff, reduceCtorEq, Int.reduceEq]
    rintro ⟨h1, h2, h3⟩
    rcases h with h | h
    · omega
    · rw [h3] at h; cases h
  · split
    · rename_i h; simp [h]
    · rename_i h
      simp only [Int.reduceEq, false_iff]
      exact fun hh => h ⟨hh.1, hh.2.1, hh.2.2⟩
theorem fits_sub {w : Rg} {m l : List Sag} {s : Spt} (hw : rgB w 0 200 = true) (h : m.Sublist l) (hv : listB l = true) (hvm : listB m = true) (hm : 0 < m.length) (hf : fitsS w l s = 1) : fitsS w m s = 1 := by
  have hl := h.length_le
  have hs := fun s hs => sag_w hv (s := s) hs
  rw [fitsS_one hw hv (by omega)] at hf
  rw [fitsS_one hw hvm hm]
  have h1 := height_sub hw h hs hm
  have h2 := lean_sub hw h hs
  exact ⟨by omega, by omega, courses_sub h hs hf.2.2⟩
end Go.Sh.C3
end
section
namespace Go.Sh.C3
open Go.Sh
variable {P : Program}

theorem insI_sub (r : Int → Int → Int) (x : Int) : ∀ l : List Int, l.Sublist (insI r x l)
  | [] => List.nil_sublist _
  | y :: l => by
    unfold insI
    split
    · exact (insI_sub r x l).cons_cons y
    · exact List.sublist_cons_self _ _
theorem ruleS_sub (l : List Sag) (b : List Int) (x : Int) : (ruleS l b).Sublist (ruleS l (b ++ [x])) := by
  unfold ruleS; rw [isortI_snoc]; exact insI_sub _ _ _
theorem doS_sub {w : Rg} {l : List Sag} {s : Spt} {b : List Int} {x : Int} (hw : rgB w 0 200 = true) (hv : listB l = true) (hs : okIx l.length (b ++ [x])) (hn : (b ++ [x]).Nodup) (hb : b ≠ []) (h : doS w l s (b ++ [x]) = true) : doS w l s b = true := by
  have hs' : okIx l.length b := fun i hi => hs i (by simp [hi])
  have hn' : b.Nodup := (List.nodup_append.1 hn).1
  unfold doS at h ⊢
  rw [beq_iff_eq] at h ⊢
  refine fits_sub hw ((ruleS_sub l b x).filterMap _) (listB_pick hv (ruleS_ok hs) (ruleS_nodup hn)) (listB_pick hv (ruleS_ok hs') (ruleS_nodup hn')) ?_ h
  have := pickS_len (ruleS_ok hs')
  rw [ruleS_length] at this
  rw [this]; exact List.length_pos_iff.2 hb

/-- The first bungs, at most so many, all of which do. -/
def partS (d : List Int → Bool) (n most : Nat) : Nat → List (List Int) → Option (List (List Int))
  | 0, bs => if bs.all d then some bs else none
  | r + 1, bs => (List.range (min (bs.length + 1) most)).findSome? fun k => partS d n most r (addS bs k ((n - (r + 1) : Nat) : Int))
/-- Just so many. -/
def justS (d : List Int → Bool) (n most : Nat) : Nat → List (List Int) → Option (List (List Int))
  | 0, bs => if bs.all d ∧ bs.length = most then some bs else none
  | r + 1, bs => (List.range (min (bs.length + 1) most)).findSome? fun k => justS d n most r (addS bs k ((n - (r + 1) : Nat) : Int))
theorem partS_none {d : List Int → Bool} {n most r : Nat} {bs : List (List Int)} (h : ∀ j, j < min (bs.length + 1) most → partS d n most r (addS bs j (n - (r + 1) : Nat)) = none) : partS d n most (r + 1) bs = none := by
  rw [partS, List.findSome?_eq_none_iff]
  exact fun j hj => h j (by simpa using hj)
theorem partS_some {d : List Int → Bool} {n most r : Nat} {bs : List (List Int)} {k : Nat} {b : List (List Int)} (hk : k < min (bs.length + 1) most) (h : ∀ j, j < k → partS d n most r (addS bs j (n - (r + 1) : Nat)) = none)
    (hf : partS d n most r (addS bs k (n - (r + 1) : Nat)) = some b) : partS d n most (r + 1) bs = some b := by
  rw [partS]
  exact findSome_range hk h hf
theorem addS_length {bs : List (List Int)} {k : Nat} {i : Int} : (addS bs k i).length = if k < bs.length then bs.length else bs.length + 1 := by
  unfold addS; split <;> simp
theorem findSome_congr {α β : Type} {f g : α → Option β} : ∀ {l : List α}, (∀ x ∈ l, f x = g x) → l.findSome? f = l.findSome? g
  | [], _ => rfl
  | x :: l, h => by rw [List.findSome?_cons, List.findSome?_cons, h x (by simp), findSome_congr fun y hy => h y (by simp [hy])]
theorem partS_exS (d : List Int → Bool) (n m : Nat) : ∀ (r : Nat) (bs : List (List Int)), bs.length ≤ m → (bs.length ≤ m - 1 → 0 < m → partS d n (m - 1) r bs = none) → partS d n m r bs = justS d n m r bs
  | 0, bs, hl, h => by
    unfold partS justS
    by_cases e : bs.length = m
    · simp [e]
    · have := h (by omega) (by omega)
      simp only [partS] at this
      cases ha : bs.all d
      · simp
      · rw [ha] at this; cases this
  | r + 1, bs, hl, h => by
    rw [partS, justS]
    refine findSome_congr fun k hk => ?_
    simp only [List.mem_range] at hk
    refine partS_exS d n m r _ (by rw [addS_length]; split <;> omega) fun hl2 h0 => ?_
    rw [addS_length] at hl2
    have hl3 : bs.length ≤ m - 1 := by split at hl2 <;> omega
    have := h hl3 h0
    rw [partS, List.findSome?_eq_none_iff] at this
    exact this k (by simp only [List.mem_range]; split at hl2 <;> omega)
/-- Bungs of which one does not do lead to nothing. -/
theorem exS_none {d : List Int → Bool} {n m : Nat} (hd : ∀ b x, okIx n (b ++ [x]) → (b ++ [x]).Nodup → b ≠ [] → d (b ++ [x]) = true → d b = true) : ∀ (r : Nat) (bs : List (List Int)), r ≤ n → okBs (n - r) bs → bs.all d = false → justS d n m r bs = none
  | 0, bs, _, _, h => by simp [justS, h]
  | r + 1, bs, hr, hok, h => by
    rw [justS, List.findSome?_eq_none_iff]
    intro k hk
    simp only [List.mem_range] at hk
    have hok2 := okBs_add hok (show k ≤ bs.length by omega)
    rw [show n - (r + 1) + 1 = n - r by omega] at hok2
    refine exS_none hd r _ (by omega) hok2 ?_
    rw [List.all_eq_false] at h ⊢
    obtain ⟨b, hb, hdb⟩ := h
    unfold addS
    split
    · rename_i hlt
      obtain ⟨c, hc, _, _, _⟩ := next_of hlt
      obtain ⟨j, hj⟩ := List.mem_iff_getElem?.1 hb
      by_cases e : k = j
      · subst e
        rw [hc] at hj; cases hj
        refine ⟨b ++ [((n - (r + 1) : Nat) : Int)], by rw [hc]; exact List.mem_iff_getElem?.2 ⟨k, by rw [List.getElem?_set_self hlt]; rfl⟩, fun hdd => hdb ?_⟩
        have hnew := okBs_new (k := k) hok
        simp only [newB, hc, Option.getD_some] at hnew
        exact hd b _ (fun i hi => by have := hnew.1 i hi; omega) hnew.2.1 (hok.ne b hb) hdd
      · exact ⟨b, List.mem_iff_getElem?.2 ⟨j, by rw [List.getElem?_set_ne e]; exact hj⟩, hdb⟩
    · exact ⟨b, by simp [hb], hdb⟩
theorem packS_exS {d : List Int → Bool} {n m : Nat} (hd : ∀ b x, okIx n (b ++ [x]) → (b ++ [x]).Nodup → b ≠ [] → d (b ++ [x]) = true → d b = true) : ∀ (r : Nat) (bs : List (List Int)), r ≤ n → okBs (n - r) bs → bs.all d = true → packS d n m r bs = justS d n m r bs
  | 0, bs, _, _, h => by simp [packS, justS, h]
  | r + 1, bs, hr, hok, h => by
    rw [packS, justS]
    refine findSome_congr fun k hk => ?_
    simp only [List.mem_range] at hk
    have hok2 := okBs_add hok (show k ≤ bs.length by omega)
    rw [show n - (r + 1) + 1 = n - r by omega] at hok2
    have hall : (addS bs k ((n - (r + 1) : Nat) : Int)).all d = d (newB bs k ((n - (r + 1) : Nat) : Int)) := by
      rw [Bool.eq_iff_iff, List.all_eq_true]
      rw [List.all_eq_true] at h
      unfold addS newB
      split
      · rename_i hlt
        refine ⟨fun g => g _ (List.mem_iff_getElem?.2 ⟨k, by rw [List.getElem?_set_self hlt]⟩), fun g b hb => ?_⟩
        rcases List.mem_or_eq_of_mem_set hb with e | e
        · exact h b e
        · rw [e]; exact g
      · rename_i hlt
        rw [List.getElem?_eq_none (by omega)]
        refine ⟨fun g => g _ (by simp), fun g b hb => ?_⟩
        rcases List.mem_append.1 hb with e | e
        · exact h b e
        · simp at e; rw [e]; exact g
    split
    · rename_i hdn
      exact packS_exS hd r _ (by omega) hok2 (by rw [hall]; exact hdn)
    · rename_i hdn
      exact (exS_none hd r _ (by omega) hok2 (by rw [hall]; simpa using hdn)).symm
theorem okBs_nil {n : Nat} (h : n = 0) : okBs n [] := ⟨by simp, by simp, by simp, by simp, fun h2 => by omega⟩
def fewP (d : List Int → Bool) (n : Nat) : Option (List (List Int)) := (List.range (n + 1)).findSome? fun j => partS d n j n []
theorem few_eq {d : List Int → Bool} {n : Nat} (hd : ∀ b x, okIx n (b ++ [x]) → (b ++ [x]).Nodup → b ≠ [] → d (b ++ [x]) = true → d b = true) (hn : 0 < n) : fewP d n = fewS d n := by
  have h0 : partS d n 0 n [] = none := by
    obtain ⟨m, rfl⟩ : ∃ m, n = m + 1 := ⟨n - 1, by omega⟩
    exact partS_none fun j hj => by omega
  have key : ∀ m, (∀ j, j ≤ m → partS d n j n [] = none) → partS d n (m + 1) n [] = packS d n (m + 1) n [] := fun m h => by
    rw [packS_exS hd n [] (Nat.le_refl _) (okBs_nil (by omega)) rfl]
    exact partS_exS d n (m + 1) n [] (by simp) fun _ _ => h m (Nat.le_refl _)
  have go : ∀ N, (List.range (N + 1)).findSome? (fun j => partS d n j n []) = (List.range N).findSome? (fun j => packS d n (j + 1) n []) := by
    intro N
    induction N with
    | zero => simp [h0]
    | succ N ih =>
      rw [List.range_succ (n := N + 1), List.findSome?_append, List.range_succ (n := N), List.findSome?_append (xs := List.range N) (f := fun j => packS d n (j + 1) n []), ← List.range_succ (n := N), ih]
      cases hc : (List.range N).findSome? (fun j => packS d n (j + 1) n []) with
      | some b => rfl
      | none =>
        rw [hc, List.findSome?_eq_none_iff] at ih
        simp only [Option.none_or, List.findSome?_cons, List.findSome?_nil]
        rw [key N fun j hj => ih j (by simp; omega)]
  exact go n
end Go.Sh.C3
end
