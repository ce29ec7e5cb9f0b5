/-
  No cell of these rows narrows 'for every input' (looked for: loops, veiled, ifaces, maps, wideKeys, modest, calm, conditions, laid).
  DERIVED. THE GIVEN ROWS OF THIS SEAT. 16 by the template 'for every input the law returns true; each argument reads behind the call as it read before'; 0 by the template 'total and deterministic' (their statements: YthaiheabibapiaaTotals.lean).
  GIVEN WITH THE SEED: the statements are not yours to turn. If you find one false, say at which input.
  Laid BY PROGRAM, IN A SANDBOX (cutbox-rows.mjs): the forced cells as the released guide's own fill.sh prints them over the translation 584ef56a47f9c715… (all of the seat's roots in one cut). By AI agents, Wed Nov 11 2026. No macro, syntax, notation, axiom, sorry.
-/
import Derived.Test.YthaiheabibapiaaChecked
import GoSem.Claim
import GoSem.ClaimJoined
import GoSem.ClaimMapViews
import Derived.JoinedTies
import Derived.KernelRfl
namespace Go.Proofs.Ythaiheabibapiaa
/- THE CELL 'sum', in the pinned program and in every row, IS THE sha256 OF THE DUMP (.gsa) THAT YthaiheabibapiaaProg.lean LOADS. Nothing in Lean hashes anything: it is a label: what it is worth is what the hold of that sum in a sandbox is worth. -/
noncomputable def Try.pinned : Pinned := { name := "ythaiheabibapiaa", sum := "584ef56a47f9c71530d61c5bad13b2d1edcb2ee6df2d888b4518f2c20b613b87", checked := Try.checked }
namespace Rows
def none {H : Type} : Left H := { results := [], args := [] }

/-- 'potbanklaw03.BungFewest': WHATEVER THE INPUT: true; the input reads as it did. -/
def bungFewestSpec : ChangeSpec := { name := "bungFewest", fn := fun _ => fun
  | [d] => { results := [.lit (.bool true)], args := [d] }
  | _ => none }
def bungFewestRow : OpenClaim := { program := "ythaiheabibapiaa", sum := "584ef56a47f9c71530d61c5bad13b2d1edcb2ee6df2d888b4518f2c20b613b87", func := "potbank/potbanklaw03.BungFewest", spec := "bungFewest", unfollowed := true, recurses := true, plainKeys := false, apart := false }
def BungFewestSaid : Prop := bungFewestRow.holds Try.pinned (OpenSpec.ofChange bungFewestSpec)

/-- ITS FALSE NEIGHBOUR: 'it returns false'. Refute it at one input. -/
def bungFewestWrong : ChangeSpec := { name := "bungFewest", fn := fun _ => fun
  | [d] => { results := [.lit (.bool false)], args := [d] }
  | _ => none }
def BungFewestWrongFalsely : Prop := bungFewestRow.holds Try.pinned (OpenSpec.ofChange bungFewestWrong)

/-- 'potbanklaw03.BungWithout': WHATEVER THE INPUT: true; the input reads as it did. -/
def bungWithoutSpec : ChangeSpec := { name := "bungWithout", fn := fun _ => fun
  | [d1, d2, d3] => { results := [.lit (.bool true)], args := [d1, d2, d3] }
  | _ => none }
def bungWithoutRow : OpenClaim := { program := "ythaiheabibapiaa", sum := "584ef56a47f9c71530d61c5bad13b2d1edcb2ee6df2d888b4518f2c20b613b87", func := "potbank/potbanklaw03.BungWithout", spec := "bungWithout", unfollowed := true, recurses := true, plainKeys := false, apart := false }
def BungWithoutSaid : Prop := bungWithoutRow.holds Try.pinned (OpenSpec.ofChange bungWithoutSpec)

/-- ITS FALSE NEIGHBOUR: 'it returns false'. Refute it at one input. -/
def bungWithoutWrong : ChangeSpec := { name := "bungWithout", fn := fun _ => fun
  | [d1, d2, d3] => { results := [.lit (.bool false)], args := [d1, d2, d3] }
  | _ => none }
def BungWithoutWrongFalsely : Prop := bungWithoutRow.holds Try.pinned (OpenSpec.ofChange bungWithoutWrong)

/-- 'potbanklaw03.BungFits': WHATEVER THE INPUT: true; the input reads as it did. -/
def bungFitsSpec : ChangeSpec := { name := "bungFits", fn := fun _ => fun
  | [d1, d2] => { results := [.lit (.bool true)], args := [d1, d2] }
  | _ => none }
def bungFitsRow : OpenClaim := { program := "ythaiheabibapiaa", sum := "584ef56a47f9c71530d61c5bad13b2d1edcb2ee6df2d888b4518f2c20b613b87", func := "potbank/potbanklaw03.BungFits", spec := "bungFits", unfollowed := true, recurses := true, plainKeys := false, apart := false }
def BungFitsSaid : Prop := bungFitsRow.holds Try.pinned (OpenSpec.ofChange bungFitsSpec)

/-- ITS FALSE NEIGHBOUR: 'it returns false'. Refute it at one input. -/
def bungFitsWrong : ChangeSpec := { name := "bungFits", fn := fun _ => fun
  | [d1, d2] => { results := [.lit (.bool false)], args := [d1, d2] }
  | _ => none }
def BungFitsWrongFalsely : Prop := bungFitsRow.holds Try.pinned (OpenSpec.ofChange bungFitsWrong)

/-- 'potbanklaw03.BungLoads': WHATEVER THE INPUT: true; the input reads as it did. -/
def bungLoadsSpec : ChangeSpec := { name := "bungLoads", fn := fun _ => fun
  | [d] => { results := [.lit (.bool true)], args := [d] }
  | _ => none }
def bungLoadsRow : OpenClaim := { program := "ythaiheabibapiaa", sum := "584ef56a47f9c71530d61c5bad13b2d1edcb2ee6df2d888b4518f2c20b613b87", func := "potbank/potbanklaw03.BungLoads", spec := "bungLoads", unfollowed := true, recurses := true, plainKeys := false, apart := false }
def BungLoadsSaid : Prop := bungLoadsRow.holds Try.pinned (OpenSpec.ofChange bungLoadsSpec)

/-- ITS FALSE NEIGHBOUR: 'it returns false'. Refute it at one input. -/
def bungLoadsWrong : ChangeSpec := { name := "bungLoads", fn := fun _ => fun
  | [d] => { results := [.lit (.bool false)], args := [d] }
  | _ => none }
def BungLoadsWrongFalsely : Prop := bungLoadsRow.holds Try.pinned (OpenSpec.ofChange bungLoadsWrong)

/-- 'potbanklaw03.BungRules': WHATEVER THE INPUT: true; the input reads as it did. -/
def bungRulesSpec : ChangeSpec := { name := "bungRules", fn := fun _ => fun
  | [d] => { results := [.lit (.bool true)], args := [d] }
  | _ => none }
def bungRulesRow : OpenClaim := { program := "ythaiheabibapiaa", sum := "584ef56a47f9c71530d61c5bad13b2d1edcb2ee6df2d888b4518f2c20b613b87", func := "potbank/potbanklaw03.BungRules", spec := "bungRules", unfollowed := true, recurses := true, plainKeys := false, apart := false }
def BungRulesSaid : Prop := bungRulesRow.holds Try.pinned (OpenSpec.ofChange bungRulesSpec)

/-- ITS FALSE NEIGHBOUR: 'it returns false'. Refute it at one input. -/
def bungRulesWrong : ChangeSpec := { name := "bungRules", fn := fun _ => fun
  | [d] => { results := [.lit (.bool false)], args := [d] }
  | _ => none }
def BungRulesWrongFalsely : Prop := bungRulesRow.holds Try.pinned (OpenSpec.ofChange bungRulesWrong)

/-- 'potbanklaw03.BungChecks': WHATEVER THE INPUT: true; the input reads as it did. -/
def bungChecksSpec : ChangeSpec := { name := "bungChecks", fn := fun _ => fun
  | [d1, d2, d3] => { results := [.lit (.bool true)], args := [d1, d2, d3] }
  | _ => none }
def bungChecksRow : OpenClaim := { program := "ythaiheabibapiaa", sum := "584ef56a47f9c71530d61c5bad13b2d1edcb2ee6df2d888b4518f2c20b613b87", func := "potbank/potbanklaw03.BungChecks", spec := "bungChecks", unfollowed := true, recurses := true, plainKeys := false, apart := false }
def BungChecksSaid : Prop := bungChecksRow.holds Try.pinned (OpenSpec.ofChange bungChecksSpec)

/-- ITS FALSE NEIGHBOUR: 'it returns false'. Refute it at one input. -/
def bungChecksWrong : ChangeSpec := { name := "bungChecks", fn := fun _ => fun
  | [d1, d2, d3] => { results := [.lit (.bool false)], args := [d1, d2, d3] }
  | _ => none }
def BungChecksWrongFalsely : Prop := bungChecksRow.holds Try.pinned (OpenSpec.ofChange bungChecksWrong)

/-- 'potbanklaw03.BungBreaks': WHATEVER THE INPUT: true; the input reads as it did. -/
def bungBreaksSpec : ChangeSpec := { name := "bungBreaks", fn := fun _ => fun
  | [d1, d2] => { results := [.lit (.bool true)], args := [d1, d2] }
  | _ => none }
def bungBreaksRow : OpenClaim := { program := "ythaiheabibapiaa", sum := "584ef56a47f9c71530d61c5bad13b2d1edcb2ee6df2d888b4518f2c20b613b87", func := "potbank/potbanklaw03.BungBreaks", spec := "bungBreaks", unfollowed := true, recurses := true, plainKeys := false, apart := false }
def BungBreaksSaid : Prop := bungBreaksRow.holds Try.pinned (OpenSpec.ofChange bungBreaksSpec)

/-- ITS FALSE NEIGHBOUR: 'it returns false'. Refute it at one input. -/
def bungBreaksWrong : ChangeSpec := { name := "bungBreaks", fn := fun _ => fun
  | [d1, d2] => { results := [.lit (.bool false)], args := [d1, d2] }
  | _ => none }
def BungBreaksWrongFalsely : Prop := bungBreaksRow.holds Try.pinned (OpenSpec.ofChange bungBreaksWrong)

/-- 'potbanklaw03.BungStands': WHATEVER THE INPUT: true; the input reads as it did. -/
def bungStandsSpec : ChangeSpec := { name := "bungStands", fn := fun _ => fun
  | [d1, d2] => { results := [.lit (.bool true)], args := [d1, d2] }
  | _ => none }
def bungStandsRow : OpenClaim := { program := "ythaiheabibapiaa", sum := "584ef56a47f9c71530d61c5bad13b2d1edcb2ee6df2d888b4518f2c20b613b87", func := "potbank/potbanklaw03.BungStands", spec := "bungStands", unfollowed := true, recurses := true, plainKeys := false, apart := false }
def BungStandsSaid : Prop := bungStandsRow.holds Try.pinned (OpenSpec.ofChange bungStandsSpec)

/-- ITS FALSE NEIGHBOUR: 'it returns false'. Refute it at one input. -/
def bungStandsWrong : ChangeSpec := { name := "bungStands", fn := fun _ => fun
  | [d1, d2] => { results := [.lit (.bool false)], args := [d1, d2] }
  | _ => none }
def BungStandsWrongFalsely : Prop := bungStandsRow.holds Try.pinned (OpenSpec.ofChange bungStandsWrong)

/-- 'potbanklaw03.BungParted': WHATEVER THE INPUT: true; the input reads as it did. -/
def bungPartedSpec : ChangeSpec := { name := "bungParted", fn := fun _ => fun
  | [d1, d2] => { results := [.lit (.bool true)], args := [d1, d2] }
  | _ => none }
def bungPartedRow : OpenClaim := { program := "ythaiheabibapiaa", sum := "584ef56a47f9c71530d61c5bad13b2d1edcb2ee6df2d888b4518f2c20b613b87", func := "potbank/potbanklaw03.BungParted", spec := "bungParted", unfollowed := true, recurses := true, plainKeys := false, apart := false }
def BungPartedSaid : Prop := bungPartedRow.holds Try.pinned (OpenSpec.ofChange bungPartedSpec)

/-- ITS FALSE NEIGHBOUR: 'it returns false'. Refute it at one input. -/
def bungPartedWrong : ChangeSpec := { name := "bungParted", fn := fun _ => fun
  | [d1, d2] => { results := [.lit (.bool false)], args := [d1, d2] }
  | _ => none }
def BungPartedWrongFalsely : Prop := bungPartedRow.holds Try.pinned (OpenSpec.ofChange bungPartedWrong)

/-- 'potbanklaw03.BungSetter': WHATEVER THE INPUT: true; the input reads as it did. -/
def bungSetterSpec : ChangeSpec := { name := "bungSetter", fn := fun _ => fun
  | [d] => { results := [.lit (.bool true)], args := [d] }
  | _ => none }
def bungSetterRow : OpenClaim := { program := "ythaiheabibapiaa", sum := "584ef56a47f9c71530d61c5bad13b2d1edcb2ee6df2d888b4518f2c20b613b87", func := "potbank/potbanklaw03.BungSetter", spec := "bungSetter", unfollowed := true, recurses := true, plainKeys := false, apart := false }
def BungSetterSaid : Prop := bungSetterRow.holds Try.pinned (OpenSpec.ofChange bungSetterSpec)

/-- ITS FALSE NEIGHBOUR: 'it returns false'. Refute it at one input. -/
def bungSetterWrong : ChangeSpec := { name := "bungSetter", fn := fun _ => fun
  | [d] => { results := [.lit (.bool false)], args := [d] }
  | _ => none }
def BungSetterWrongFalsely : Prop := bungSetterRow.holds Try.pinned (OpenSpec.ofChange bungSetterWrong)

/-- 'potbanklaw03.BungCounted': WHATEVER THE INPUT: true; the input reads as it did. -/
def bungCountedSpec : ChangeSpec := { name := "bungCounted", fn := fun _ => fun
  | [d1, d2, d3] => { results := [.lit (.bool true)], args := [d1, d2, d3] }
  | _ => none }
def bungCountedRow : OpenClaim := { program := "ythaiheabibapiaa", sum := "584ef56a47f9c71530d61c5bad13b2d1edcb2ee6df2d888b4518f2c20b613b87", func := "potbank/potbanklaw03.BungCounted", spec := "bungCounted", unfollowed := true, recurses := true, plainKeys := false, apart := false }
def BungCountedSaid : Prop := bungCountedRow.holds Try.pinned (OpenSpec.ofChange bungCountedSpec)

/-- ITS FALSE NEIGHBOUR: 'it returns false'. Refute it at one input. -/
def bungCountedWrong : ChangeSpec := { name := "bungCounted", fn := fun _ => fun
  | [d1, d2, d3] => { results := [.lit (.bool false)], args := [d1, d2, d3] }
  | _ => none }
def BungCountedWrongFalsely : Prop := bungCountedRow.holds Try.pinned (OpenSpec.ofChange bungCountedWrong)

/-- 'potbanklaw03.BungSets': WHATEVER THE INPUT: true; the input reads as it did. -/
def bungSetsSpec : ChangeSpec := { name := "bungSets", fn := fun _ => fun
  | [d1, d2, d3] => { results := [.lit (.bool true)], args := [d1, d2, d3] }
  | _ => none }
def bungSetsRow : OpenClaim := { program := "ythaiheabibapiaa", sum := "584ef56a47f9c71530d61c5bad13b2d1edcb2ee6df2d888b4518f2c20b613b87", func := "potbank/potbanklaw03.BungSets", spec := "bungSets", unfollowed := true, recurses := true, plainKeys := false, apart := false }
def BungSetsSaid : Prop := bungSetsRow.holds Try.pinned (OpenSpec.ofChange bungSetsSpec)

/-- ITS FALSE NEIGHBOUR: 'it returns false'. Refute it at one input. -/
def bungSetsWrong : ChangeSpec := { name := "bungSets", fn := fun _ => fun
  | [d1, d2, d3] => { results := [.lit (.bool false)], args := [d1, d2, d3] }
  | _ => none }
def BungSetsWrongFalsely : Prop := bungSetsRow.holds Try.pinned (OpenSpec.ofChange bungSetsWrong)

/-- 'potbanklaw03.BungSeats': WHATEVER THE INPUT: true; the input reads as it did. -/
def bungSeatsSpec : ChangeSpec := { name := "bungSeats", fn := fun _ => fun
  | [d1, d2] => { results := [.lit (.bool true)], args := [d1, d2] }
  | _ => none }
def bungSeatsRow : OpenClaim := { program := "ythaiheabibapiaa", sum := "584ef56a47f9c71530d61c5bad13b2d1edcb2ee6df2d888b4518f2c20b613b87", func := "potbank/potbanklaw03.BungSeats", spec := "bungSeats", unfollowed := true, recurses := true, plainKeys := false, apart := false }
def BungSeatsSaid : Prop := bungSeatsRow.holds Try.pinned (OpenSpec.ofChange bungSeatsSpec)

/-- ITS FALSE NEIGHBOUR: 'it returns false'. Refute it at one input. -/
def bungSeatsWrong : ChangeSpec := { name := "bungSeats", fn := fun _ => fun
  | [d1, d2] => { results := [.lit (.bool false)], args := [d1, d2] }
  | _ => none }
def BungSeatsWrongFalsely : Prop := bungSeatsRow.holds Try.pinned (OpenSpec.ofChange bungSeatsWrong)

/-- 'potbanklaw03.BungMosts': WHATEVER THE INPUT: true; the input reads as it did. -/
def bungMostsSpec : ChangeSpec := { name := "bungMosts", fn := fun _ => fun
  | [d] => { results := [.lit (.bool true)], args := [d] }
  | _ => none }
def bungMostsRow : OpenClaim := { program := "ythaiheabibapiaa", sum := "584ef56a47f9c71530d61c5bad13b2d1edcb2ee6df2d888b4518f2c20b613b87", func := "potbank/potbanklaw03.BungMosts", spec := "bungMosts", unfollowed := true, recurses := true, plainKeys := false, apart := false }
def BungMostsSaid : Prop := bungMostsRow.holds Try.pinned (OpenSpec.ofChange bungMostsSpec)

/-- ITS FALSE NEIGHBOUR: 'it returns false'. Refute it at one input. -/
def bungMostsWrong : ChangeSpec := { name := "bungMosts", fn := fun _ => fun
  | [d] => { results := [.lit (.bool false)], args := [d] }
  | _ => none }
def BungMostsWrongFalsely : Prop := bungMostsRow.holds Try.pinned (OpenSpec.ofChange bungMostsWrong)

/-- 'potbanklaw03.BungSeated': WHATEVER THE INPUT: true; the input reads as it did. -/
def bungSeatedSpec : ChangeSpec := { name := "bungSeated", fn := fun _ => fun
  | [d1, d2, d3] => { results := [.lit (.bool true)], args := [d1, d2, d3] }
  | _ => none }
def bungSeatedRow : OpenClaim := { program := "ythaiheabibapiaa", sum := "584ef56a47f9c71530d61c5bad13b2d1edcb2ee6df2d888b4518f2c20b613b87", func := "potbank/potbanklaw03.BungSeated", spec := "bungSeated", unfollowed := true, recurses := true, plainKeys := false, apart := false }
def BungSeatedSaid : Prop := bungSeatedRow.holds Try.pinned (OpenSpec.ofChange bungSeatedSpec)

/-- ITS FALSE NEIGHBOUR: 'it returns false'. Refute it at one input. -/
def bungSeatedWrong : ChangeSpec := { name := "bungSeated", fn := fun _ => fun
  | [d1, d2, d3] => { results := [.lit (.bool false)], args := [d1, d2, d3] }
  | _ => none }
def BungSeatedWrongFalsely : Prop := bungSeatedRow.holds Try.pinned (OpenSpec.ofChange bungSeatedWrong)

/-- 'potbanklaw03.BungGreatest': WHATEVER THE INPUT: true; the input reads as it did. -/
def bungGreatestSpec : ChangeSpec := { name := "bungGreatest", fn := fun _ => fun
  | [d1, d2, d3] => { results := [.lit (.bool true)], args := [d1, d2, d3] }
  | _ => none }
def bungGreatestRow : OpenClaim := { program := "ythaiheabibapiaa", sum := "584ef56a47f9c71530d61c5bad13b2d1edcb2ee6df2d888b4518f2c20b613b87", func := "potbank/potbanklaw03.BungGreatest", spec := "bungGreatest", unfollowed := true, recurses := true, plainKeys := false, apart := false }
def BungGreatestSaid : Prop := bungGreatestRow.holds Try.pinned (OpenSpec.ofChange bungGreatestSpec)

/-- ITS FALSE NEIGHBOUR: 'it returns false'. Refute it at one input. -/
def bungGreatestWrong : ChangeSpec := { name := "bungGreatest", fn := fun _ => fun
  | [d1, d2, d3] => { results := [.lit (.bool false)], args := [d1, d2, d3] }
  | _ => none }
def BungGreatestWrongFalsely : Prop := bungGreatestRow.holds Try.pinned (OpenSpec.ofChange bungGreatestWrong)

/- THE SECOND FORM. 'bulk': how many values and letters a reading holds, each counted each time it is reached (what is shared counts as often as it is met; a slice's spare places count too). A statement '..UptoSaid' is the law's where the arguments, and the package variables that the reading takes, are together of bulk at most 1048576: NARROWER than '..Said'. Prove '..Said' where nothing that the law and all that it calls make is longer than what came in: it says more and counts as full. Else prove '..UptoSaid'. A law counts once. -/
mutual
def uptoBulk {H : Type} : DataW H → Nat
  | .lit (.string bytes) => bytes.length + 1
  | .lit _ => 1
  | .nil => 1
  | .ptr d => uptoBulk d + 1
  | .slice elems spare => uptoBulkAll elems + uptoBulkAll spare + 1
  | .agg parts => uptoBulkAll parts + 1
  | .iface _ d => uptoBulk d + 1
  | .map entries => uptoBulkEntries entries + 1
  | .held _ => 1
def uptoBulkAll {H : Type} : List (DataW H) → Nat
  | [] => 0
  | d :: r => uptoBulk d + uptoBulkAll r
def uptoBulkEntries {H : Type} : List (Lit × DataW H) → Nat
  | [] => 0
  | x :: r => uptoBulkEntry x + uptoBulkEntries r
def uptoBulkEntry {H : Type} : Lit × DataW H → Nat
  | (.string bytes, d) => bytes.length + uptoBulk d + 1
  | (_, d) => uptoBulk d + 1
 end
def uptoSmall : (H : Type) → List (DataW H) → Bool := fun _ ds => decide (uptoBulkAll ds ≤ 1048576)
def OpenSpec.upto (s : _root_.Go.ChangeSpec) : _root_.Go.OpenSpec := { _root_.Go.OpenSpec.ofChange s with cond := some uptoSmall }

/-- 'potbanklaw03.BungFewest', WHERE WHAT IT READS IS OF BULK AT MOST 1048576: true; the input reads as it did. -/
def bungFewestUptoRow : OpenClaim := { program := "ythaiheabibapiaa", sum := "584ef56a47f9c71530d61c5bad13b2d1edcb2ee6df2d888b4518f2c20b613b87", func := "potbank/potbanklaw03.BungFewest", spec := "bungFewest", unfollowed := true, recurses := true, plainKeys := false, apart := false, narrowed := true }
def BungFewestUptoSaid : Prop := bungFewestUptoRow.holds Try.pinned (OpenSpec.upto bungFewestSpec)

/-- 'potbanklaw03.BungWithout', WHERE WHAT IT READS IS OF BULK AT MOST 1048576: true; the input reads as it did. -/
def bungWithoutUptoRow : OpenClaim := { program := "ythaiheabibapiaa", sum := "584ef56a47f9c71530d61c5bad13b2d1edcb2ee6df2d888b4518f2c20b613b87", func := "potbank/potbanklaw03.BungWithout", spec := "bungWithout", unfollowed := true, recurses := true, plainKeys := false, apart := false, narrowed := true }
def BungWithoutUptoSaid : Prop := bungWithoutUptoRow.holds Try.pinned (OpenSpec.upto bungWithoutSpec)

/-- 'potbanklaw03.BungFits', WHERE WHAT IT READS IS OF BULK AT MOST 1048576: true; the input reads as it did. -/
def bungFitsUptoRow : OpenClaim := { program := "ythaiheabibapiaa", sum := "584ef56a47f9c71530d61c5bad13b2d1edcb2ee6df2d888b4518f2c20b613b87", func := "potbank/potbanklaw03.BungFits", spec := "bungFits", unfollowed := true, recurses := true, plainKeys := false, apart := false, narrowed := true }
def BungFitsUptoSaid : Prop := bungFitsUptoRow.holds Try.pinned (OpenSpec.upto bungFitsSpec)

/-- 'potbanklaw03.BungLoads', WHERE WHAT IT READS IS OF BULK AT MOST 1048576: true; the input reads as it did. -/
def bungLoadsUptoRow : OpenClaim := { program := "ythaiheabibapiaa", sum := "584ef56a47f9c71530d61c5bad13b2d1edcb2ee6df2d888b4518f2c20b613b87", func := "potbank/potbanklaw03.BungLoads", spec := "bungLoads", unfollowed := true, recurses := true, plainKeys := false, apart := false, narrowed := true }
def BungLoadsUptoSaid : Prop := bungLoadsUptoRow.holds Try.pinned (OpenSpec.upto bungLoadsSpec)

/-- 'potbanklaw03.BungRules', WHERE WHAT IT READS IS OF BULK AT MOST 1048576: true; the input reads as it did. -/
def bungRulesUptoRow : OpenClaim := { program := "ythaiheabibapiaa", sum := "584ef56a47f9c71530d61c5bad13b2d1edcb2ee6df2d888b4518f2c20b613b87", func := "potbank/potbanklaw03.BungRules", spec := "bungRules", unfollowed := true, recurses := true, plainKeys := false, apart := false, narrowed := true }
def BungRulesUptoSaid : Prop := bungRulesUptoRow.holds Try.pinned (OpenSpec.upto bungRulesSpec)

/-- 'potbanklaw03.BungChecks', WHERE WHAT IT READS IS OF BULK AT MOST 1048576: true; the input reads as it did. -/
def bungChecksUptoRow : OpenClaim := { program := "ythaiheabibapiaa", sum := "584ef56a47f9c71530d61c5bad13b2d1edcb2ee6df2d888b4518f2c20b613b87", func := "potbank/potbanklaw03.BungChecks", spec := "bungChecks", unfollowed := true, recurses := true, plainKeys := false, apart := false, narrowed := true }
def BungChecksUptoSaid : Prop := bungChecksUptoRow.holds Try.pinned (OpenSpec.upto bungChecksSpec)

/-- 'potbanklaw03.BungBreaks', WHERE WHAT IT READS IS OF BULK AT MOST 1048576: true; the input reads as it did. -/
def bungBreaksUptoRow : OpenClaim := { program := "ythaiheabibapiaa", sum := "584ef56a47f9c71530d61c5bad13b2d1edcb2ee6df2d888b4518f2c20b613b87", func := "potbank/potbanklaw03.BungBreaks", spec := "bungBreaks", unfollowed := true, recurses := true, plainKeys := false, apart := false, narrowed := true }
def BungBreaksUptoSaid : Prop := bungBreaksUptoRow.holds Try.pinned (OpenSpec.upto bungBreaksSpec)

/-- 'potbanklaw03.BungStands', WHERE WHAT IT READS IS OF BULK AT MOST 1048576: true; the input reads as it did. -/
def bungStandsUptoRow : OpenClaim := { program := "ythaiheabibapiaa", sum := "584ef56a47f9c71530d61c5bad13b2d1edcb2ee6df2d888b4518f2c20b613b87", func := "potbank/potbanklaw03.BungStands", spec := "bungStands", unfollowed := true, recurses := true, plainKeys := false, apart := false, narrowed := true }
def BungStandsUptoSaid : Prop := bungStandsUptoRow.holds Try.pinned (OpenSpec.upto bungStandsSpec)

/-- 'potbanklaw03.BungParted', WHERE WHAT IT READS IS OF BULK AT MOST 1048576: true; the input reads as it did. -/
def bungPartedUptoRow : OpenClaim := { program := "ythaiheabibapiaa", sum := "584ef56a47f9c71530d61c5bad13b2d1edcb2ee6df2d888b4518f2c20b613b87", func := "potbank/potbanklaw03.BungParted", spec := "bungParted", unfollowed := true, recurses := true, plainKeys := false, apart := false, narrowed := true }
def BungPartedUptoSaid : Prop := bungPartedUptoRow.holds Try.pinned (OpenSpec.upto bungPartedSpec)

/-- 'potbanklaw03.BungSetter', WHERE WHAT IT READS IS OF BULK AT MOST 1048576: true; the input reads as it did. -/
def bungSetterUptoRow : OpenClaim := { program := "ythaiheabibapiaa", sum := "584ef56a47f9c71530d61c5bad13b2d1edcb2ee6df2d888b4518f2c20b613b87", func := "potbank/potbanklaw03.BungSetter", spec := "bungSetter", unfollowed := true, recurses := true, plainKeys := false, apart := false, narrowed := true }
def BungSetterUptoSaid : Prop := bungSetterUptoRow.holds Try.pinned (OpenSpec.upto bungSetterSpec)

/-- 'potbanklaw03.BungCounted', WHERE WHAT IT READS IS OF BULK AT MOST 1048576: true; the input reads as it did. -/
def bungCountedUptoRow : OpenClaim := { program := "ythaiheabibapiaa", sum := "584ef56a47f9c71530d61c5bad13b2d1edcb2ee6df2d888b4518f2c20b613b87", func := "potbank/potbanklaw03.BungCounted", spec := "bungCounted", unfollowed := true, recurses := true, plainKeys := false, apart := false, narrowed := true }
def BungCountedUptoSaid : Prop := bungCountedUptoRow.holds Try.pinned (OpenSpec.upto bungCountedSpec)

/-- 'potbanklaw03.BungSets', WHERE WHAT IT READS IS OF BULK AT MOST 1048576: true; the input reads as it did. -/
def bungSetsUptoRow : OpenClaim := { program := "ythaiheabibapiaa", sum := "584ef56a47f9c71530d61c5bad13b2d1edcb2ee6df2d888b4518f2c20b613b87", func := "potbank/potbanklaw03.BungSets", spec := "bungSets", unfollowed := true, recurses := true, plainKeys := false, apart := false, narrowed := true }
def BungSetsUptoSaid : Prop := bungSetsUptoRow.holds Try.pinned (OpenSpec.upto bungSetsSpec)

/-- 'potbanklaw03.BungSeats', WHERE WHAT IT READS IS OF BULK AT MOST 1048576: true; the input reads as it did. -/
def bungSeatsUptoRow : OpenClaim := { program := "ythaiheabibapiaa", sum := "584ef56a47f9c71530d61c5bad13b2d1edcb2ee6df2d888b4518f2c20b613b87", func := "potbank/potbanklaw03.BungSeats", spec := "bungSeats", unfollowed := true, recurses := true, plainKeys := false, apart := false, narrowed := true }
def BungSeatsUptoSaid : Prop := bungSeatsUptoRow.holds Try.pinned (OpenSpec.upto bungSeatsSpec)

/-- 'potbanklaw03.BungMosts', WHERE WHAT IT READS IS OF BULK AT MOST 1048576: true; the input reads as it did. -/
def bungMostsUptoRow : OpenClaim := { program := "ythaiheabibapiaa", sum := "584ef56a47f9c71530d61c5bad13b2d1edcb2ee6df2d888b4518f2c20b613b87", func := "potbank/potbanklaw03.BungMosts", spec := "bungMosts", unfollowed := true, recurses := true, plainKeys := false, apart := false, narrowed := true }
def BungMostsUptoSaid : Prop := bungMostsUptoRow.holds Try.pinned (OpenSpec.upto bungMostsSpec)

/-- 'potbanklaw03.BungSeated', WHERE WHAT IT READS IS OF BULK AT MOST 1048576: true; the input reads as it did. -/
def bungSeatedUptoRow : OpenClaim := { program := "ythaiheabibapiaa", sum := "584ef56a47f9c71530d61c5bad13b2d1edcb2ee6df2d888b4518f2c20b613b87", func := "potbank/potbanklaw03.BungSeated", spec := "bungSeated", unfollowed := true, recurses := true, plainKeys := false, apart := false, narrowed := true }
def BungSeatedUptoSaid : Prop := bungSeatedUptoRow.holds Try.pinned (OpenSpec.upto bungSeatedSpec)

/-- 'potbanklaw03.BungGreatest', WHERE WHAT IT READS IS OF BULK AT MOST 1048576: true; the input reads as it did. -/
def bungGreatestUptoRow : OpenClaim := { program := "ythaiheabibapiaa", sum := "584ef56a47f9c71530d61c5bad13b2d1edcb2ee6df2d888b4518f2c20b613b87", func := "potbank/potbanklaw03.BungGreatest", spec := "bungGreatest", unfollowed := true, recurses := true, plainKeys := false, apart := false, narrowed := true }
def BungGreatestUptoSaid : Prop := bungGreatestUptoRow.holds Try.pinned (OpenSpec.upto bungGreatestSpec)

end Rows
end Go.Proofs.Ythaiheabibapiaa
