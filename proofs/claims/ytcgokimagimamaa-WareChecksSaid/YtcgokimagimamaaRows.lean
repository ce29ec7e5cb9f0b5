/-
  No cell of these rows narrows 'for every input' (looked for: loops, veiled, ifaces, maps, wideKeys, modest, calm, conditions, laid).
  DERIVED. THE GIVEN ROWS OF THIS SEAT. 8 by the template 'for every input the law returns true; each argument reads behind the call as it read before'; 0 by the template 'total and deterministic' (their statements: YtcgokimagimamaaTotals.lean).
  GIVEN WITH THE SEED: the statements are not yours to turn. If you find one false, say at which input.
  Laid BY PROGRAM, IN A SANDBOX (cutbox-rows.mjs): the forced cells as the released guide's own fill.sh prints them over the translation 5eb94dba39b91d23… (all of the seat's roots in one cut). By AI agents, Wed Nov 11 2026. No macro, syntax, notation, axiom, sorry.
-/
import Derived.Test.YtcgokimagimamaaChecked
import GoSem.Claim
import GoSem.ClaimJoined
import GoSem.ClaimMapViews
import Derived.JoinedTies
import Derived.KernelRfl
namespace Go.Proofs.Ytcgokimagimamaa
/- THE CELL 'sum', in the pinned program and in every row, IS THE sha256 OF THE DUMP (.gsa) THAT YtcgokimagimamaaProg.lean LOADS. Nothing in Lean hashes anything: it is a label: what it is worth is what the hold of that sum in a sandbox is worth. -/
noncomputable def Try.pinned : Pinned := { name := "ytcgokimagimamaa", sum := "5eb94dba39b91d230f2b34fa0c4745c8ec245ff68b4a19e729f599f0a43be6aa", checked := Try.checked }
namespace Rows
def none {H : Type} : Left H := { results := [], args := [] }

/-- 'potbanklaw01.WarePiles': WHATEVER THE INPUT: true; the input reads as it did. -/
def warePilesSpec : ChangeSpec := { name := "warePiles", fn := fun _ => fun
  | [d1, d2, d3] => { results := [.lit (.bool true)], args := [d1, d2, d3] }
  | _ => none }
def warePilesRow : OpenClaim := { program := "ytcgokimagimamaa", sum := "5eb94dba39b91d230f2b34fa0c4745c8ec245ff68b4a19e729f599f0a43be6aa", func := "potbank/potbanklaw01.WarePiles", spec := "warePiles", unfollowed := true, recurses := true, apart := false }
def WarePilesSaid : Prop := warePilesRow.holds Try.pinned (OpenSpec.ofChange warePilesSpec)

/-- ITS FALSE NEIGHBOUR: 'it returns false'. Refute it at one input. -/
def warePilesWrong : ChangeSpec := { name := "warePiles", fn := fun _ => fun
  | [d1, d2, d3] => { results := [.lit (.bool false)], args := [d1, d2, d3] }
  | _ => none }
def WarePilesWrongFalsely : Prop := warePilesRow.holds Try.pinned (OpenSpec.ofChange warePilesWrong)

/-- 'potbanklaw01.WareStands': WHATEVER THE INPUT: true; the input reads as it did. -/
def wareStandsSpec : ChangeSpec := { name := "wareStands", fn := fun _ => fun
  | [d1, d2, d3] => { results := [.lit (.bool true)], args := [d1, d2, d3] }
  | _ => none }
def wareStandsRow : OpenClaim := { program := "ytcgokimagimamaa", sum := "5eb94dba39b91d230f2b34fa0c4745c8ec245ff68b4a19e729f599f0a43be6aa", func := "potbank/potbanklaw01.WareStands", spec := "wareStands", unfollowed := true, recurses := true, apart := false }
def WareStandsSaid : Prop := wareStandsRow.holds Try.pinned (OpenSpec.ofChange wareStandsSpec)

/-- ITS FALSE NEIGHBOUR: 'it returns false'. Refute it at one input. -/
def wareStandsWrong : ChangeSpec := { name := "wareStands", fn := fun _ => fun
  | [d1, d2, d3] => { results := [.lit (.bool false)], args := [d1, d2, d3] }
  | _ => none }
def WareStandsWrongFalsely : Prop := wareStandsRow.holds Try.pinned (OpenSpec.ofChange wareStandsWrong)

/-- 'potbanklaw01.WareTruths': WHATEVER THE INPUT: true; the input reads as it did. -/
def wareTruthsSpec : ChangeSpec := { name := "wareTruths", fn := fun _ => fun
  | [d1, d2, d3] => { results := [.lit (.bool true)], args := [d1, d2, d3] }
  | _ => none }
def wareTruthsRow : OpenClaim := { program := "ytcgokimagimamaa", sum := "5eb94dba39b91d230f2b34fa0c4745c8ec245ff68b4a19e729f599f0a43be6aa", func := "potbank/potbanklaw01.WareTruths", spec := "wareTruths", unfollowed := true, recurses := true, apart := false }
def WareTruthsSaid : Prop := wareTruthsRow.holds Try.pinned (OpenSpec.ofChange wareTruthsSpec)

/-- ITS FALSE NEIGHBOUR: 'it returns false'. Refute it at one input. -/
def wareTruthsWrong : ChangeSpec := { name := "wareTruths", fn := fun _ => fun
  | [d1, d2, d3] => { results := [.lit (.bool false)], args := [d1, d2, d3] }
  | _ => none }
def WareTruthsWrongFalsely : Prop := wareTruthsRow.holds Try.pinned (OpenSpec.ofChange wareTruthsWrong)

/-- 'potbanklaw01.WareMoulds': WHATEVER THE INPUT: true; the input reads as it did. -/
def wareMouldsSpec : ChangeSpec := { name := "wareMoulds", fn := fun _ => fun
  | [d1, d2, d3] => { results := [.lit (.bool true)], args := [d1, d2, d3] }
  | _ => none }
def wareMouldsRow : OpenClaim := { program := "ytcgokimagimamaa", sum := "5eb94dba39b91d230f2b34fa0c4745c8ec245ff68b4a19e729f599f0a43be6aa", func := "potbank/potbanklaw01.WareMoulds", spec := "wareMoulds", unfollowed := true, recurses := true, apart := false }
def WareMouldsSaid : Prop := wareMouldsRow.holds Try.pinned (OpenSpec.ofChange wareMouldsSpec)

/-- ITS FALSE NEIGHBOUR: 'it returns false'. Refute it at one input. -/
def wareMouldsWrong : ChangeSpec := { name := "wareMoulds", fn := fun _ => fun
  | [d1, d2, d3] => { results := [.lit (.bool false)], args := [d1, d2, d3] }
  | _ => none }
def WareMouldsWrongFalsely : Prop := wareMouldsRow.holds Try.pinned (OpenSpec.ofChange wareMouldsWrong)

/-- 'potbanklaw01.WareFires': WHATEVER THE INPUT: true; the input reads as it did. -/
def wareFiresSpec : ChangeSpec := { name := "wareFires", fn := fun _ => fun
  | [d1, d2, d3] => { results := [.lit (.bool true)], args := [d1, d2, d3] }
  | _ => none }
def wareFiresRow : OpenClaim := { program := "ytcgokimagimamaa", sum := "5eb94dba39b91d230f2b34fa0c4745c8ec245ff68b4a19e729f599f0a43be6aa", func := "potbank/potbanklaw01.WareFires", spec := "wareFires", unfollowed := true, recurses := true, apart := false }
def WareFiresSaid : Prop := wareFiresRow.holds Try.pinned (OpenSpec.ofChange wareFiresSpec)

/-- ITS FALSE NEIGHBOUR: 'it returns false'. Refute it at one input. -/
def wareFiresWrong : ChangeSpec := { name := "wareFires", fn := fun _ => fun
  | [d1, d2, d3] => { results := [.lit (.bool false)], args := [d1, d2, d3] }
  | _ => none }
def WareFiresWrongFalsely : Prop := wareFiresRow.holds Try.pinned (OpenSpec.ofChange wareFiresWrong)

/-- 'potbanklaw01.WareNarrows': WHATEVER THE INPUT: true; the input reads as it did. -/
def wareNarrowsSpec : ChangeSpec := { name := "wareNarrows", fn := fun _ => fun
  | [d1, d2, d3] => { results := [.lit (.bool true)], args := [d1, d2, d3] }
  | _ => none }
def wareNarrowsRow : OpenClaim := { program := "ytcgokimagimamaa", sum := "5eb94dba39b91d230f2b34fa0c4745c8ec245ff68b4a19e729f599f0a43be6aa", func := "potbank/potbanklaw01.WareNarrows", spec := "wareNarrows", unfollowed := true, recurses := true, apart := false }
def WareNarrowsSaid : Prop := wareNarrowsRow.holds Try.pinned (OpenSpec.ofChange wareNarrowsSpec)

/-- ITS FALSE NEIGHBOUR: 'it returns false'. Refute it at one input. -/
def wareNarrowsWrong : ChangeSpec := { name := "wareNarrows", fn := fun _ => fun
  | [d1, d2, d3] => { results := [.lit (.bool false)], args := [d1, d2, d3] }
  | _ => none }
def WareNarrowsWrongFalsely : Prop := wareNarrowsRow.holds Try.pinned (OpenSpec.ofChange wareNarrowsWrong)

/-- 'potbanklaw01.WareChecks': WHATEVER THE INPUT: true; the input reads as it did. -/
def wareChecksSpec : ChangeSpec := { name := "wareChecks", fn := fun _ => fun
  | [d1, d2, d3] => { results := [.lit (.bool true)], args := [d1, d2, d3] }
  | _ => none }
def wareChecksRow : OpenClaim := { program := "ytcgokimagimamaa", sum := "5eb94dba39b91d230f2b34fa0c4745c8ec245ff68b4a19e729f599f0a43be6aa", func := "potbank/potbanklaw01.WareChecks", spec := "wareChecks", unfollowed := true, recurses := true, apart := false }
def WareChecksSaid : Prop := wareChecksRow.holds Try.pinned (OpenSpec.ofChange wareChecksSpec)

/-- ITS FALSE NEIGHBOUR: 'it returns false'. Refute it at one input. -/
def wareChecksWrong : ChangeSpec := { name := "wareChecks", fn := fun _ => fun
  | [d1, d2, d3] => { results := [.lit (.bool false)], args := [d1, d2, d3] }
  | _ => none }
def WareChecksWrongFalsely : Prop := wareChecksRow.holds Try.pinned (OpenSpec.ofChange wareChecksWrong)

/-- 'potbanklaw01.WareTwo': WHATEVER THE INPUT: true; the input reads as it did. -/
def wareTwoSpec : ChangeSpec := { name := "wareTwo", fn := fun _ => fun
  | [d1, d2] => { results := [.lit (.bool true)], args := [d1, d2] }
  | _ => none }
def wareTwoRow : OpenClaim := { program := "ytcgokimagimamaa", sum := "5eb94dba39b91d230f2b34fa0c4745c8ec245ff68b4a19e729f599f0a43be6aa", func := "potbank/potbanklaw01.WareTwo", spec := "wareTwo", unfollowed := true, recurses := true, apart := false }
def WareTwoSaid : Prop := wareTwoRow.holds Try.pinned (OpenSpec.ofChange wareTwoSpec)

/-- ITS FALSE NEIGHBOUR: 'it returns false'. Refute it at one input. -/
def wareTwoWrong : ChangeSpec := { name := "wareTwo", fn := fun _ => fun
  | [d1, d2] => { results := [.lit (.bool false)], args := [d1, d2] }
  | _ => none }
def WareTwoWrongFalsely : Prop := wareTwoRow.holds Try.pinned (OpenSpec.ofChange wareTwoWrong)

/- THE SECOND FORM. 'bulk': how many values and letters a reading holds, each counted each time it is reached (what is shared counts as often as it is met; a slice's spare places count too). A statement '..UptoSaid' is the law's where the arguments, and the package variables that the reading takes, are together of bulk at most 1048576: NARROWER than '..Said'. Prove '..Said' where nothing that the law and all that it calls make is longer than what came in: it says more and counts as full. Else prove '..UptoSaid'. A law counts once. -/
mutual
def uptoBulk {H : Type} : DataW H → Nat
  | .lit (.string bytes) => bytes.length + 1
  | .lit _ => 1
  | .nil => 1
  | .ptr d => uptoBulk d + 1
  | .slice elems spare => uptoBulkAll elems + uptoBulkAll spare + 1
  | .agg parts => uptoBulkAll parts + 1
  | .iface _ d => uptoBulk d + 1
  | .map entries => uptoBulkEntries entries + 1
  | .held _ => 1
def uptoBulkAll {H : Type} : List (DataW H) → Nat
  | [] => 0
  | d :: r => uptoBulk d + uptoBulkAll r
def uptoBulkEntries {H : Type} : List (Lit × DataW H) → Nat
  | [] => 0
  | x :: r => uptoBulkEntry x + uptoBulkEntries r
def uptoBulkEntry {H : Type} : Lit × DataW H → Nat
  | (.string bytes, d) => bytes.length + uptoBulk d + 1
  | (_, d) => uptoBulk d + 1
 end
def uptoSmall : (H : Type) → List (DataW H) → Bool := fun _ ds => decide (uptoBulkAll ds ≤ 1048576)
def OpenSpec.upto (s : _root_.Go.ChangeSpec) : _root_.Go.OpenSpec := { _root_.Go.OpenSpec.ofChange s with cond := some uptoSmall }

/-- 'potbanklaw01.WarePiles', WHERE WHAT IT READS IS OF BULK AT MOST 1048576: true; the input reads as it did. -/
def warePilesUptoRow : OpenClaim := { program := "ytcgokimagimamaa", sum := "5eb94dba39b91d230f2b34fa0c4745c8ec245ff68b4a19e729f599f0a43be6aa", func := "potbank/potbanklaw01.WarePiles", spec := "warePiles", unfollowed := true, recurses := true, apart := false, narrowed := true }
def WarePilesUptoSaid : Prop := warePilesUptoRow.holds Try.pinned (OpenSpec.upto warePilesSpec)

/-- 'potbanklaw01.WareStands', WHERE WHAT IT READS IS OF BULK AT MOST 1048576: true; the input reads as it did. -/
def wareStandsUptoRow : OpenClaim := { program := "ytcgokimagimamaa", sum := "5eb94dba39b91d230f2b34fa0c4745c8ec245ff68b4a19e729f599f0a43be6aa", func := "potbank/potbanklaw01.WareStands", spec := "wareStands", unfollowed := true, recurses := true, apart := false, narrowed := true }
def WareStandsUptoSaid : Prop := wareStandsUptoRow.holds Try.pinned (OpenSpec.upto wareStandsSpec)

/-- 'potbanklaw01.WareTruths', WHERE WHAT IT READS IS OF BULK AT MOST 1048576: true; the input reads as it did. -/
def wareTruthsUptoRow : OpenClaim := { program := "ytcgokimagimamaa", sum := "5eb94dba39b91d230f2b34fa0c4745c8ec245ff68b4a19e729f599f0a43be6aa", func := "potbank/potbanklaw01.WareTruths", spec := "wareTruths", unfollowed := true, recurses := true, apart := false, narrowed := true }
def WareTruthsUptoSaid : Prop := wareTruthsUptoRow.holds Try.pinned (OpenSpec.upto wareTruthsSpec)

/-- 'potbanklaw01.WareMoulds', WHERE WHAT IT READS IS OF BULK AT MOST 1048576: true; the input reads as it did. -/
def wareMouldsUptoRow : OpenClaim := { program := "ytcgokimagimamaa", sum := "5eb94dba39b91d230f2b34fa0c4745c8ec245ff68b4a19e729f599f0a43be6aa", func := "potbank/potbanklaw01.WareMoulds", spec := "wareMoulds", unfollowed := true, recurses := true, apart := false, narrowed := true }
def WareMouldsUptoSaid : Prop := wareMouldsUptoRow.holds Try.pinned (OpenSpec.upto wareMouldsSpec)

/-- 'potbanklaw01.WareFires', WHERE WHAT IT READS IS OF BULK AT MOST 1048576: true; the input reads as it did. -/
def wareFiresUptoRow : OpenClaim := { program := "ytcgokimagimamaa", sum := "5eb94dba39b91d230f2b34fa0c4745c8ec245ff68b4a19e729f599f0a43be6aa", func := "potbank/potbanklaw01.WareFires", spec := "wareFires", unfollowed := true, recurses := true, apart := false, narrowed := true }
def WareFiresUptoSaid : Prop := wareFiresUptoRow.holds Try.pinned (OpenSpec.upto wareFiresSpec)

/-- 'potbanklaw01.WareNarrows', WHERE WHAT IT READS IS OF BULK AT MOST 1048576: true; the input reads as it did. -/
def wareNarrowsUptoRow : OpenClaim := { program := "ytcgokimagimamaa", sum := "5eb94dba39b91d230f2b34fa0c4745c8ec245ff68b4a19e729f599f0a43be6aa", func := "potbank/potbanklaw01.WareNarrows", spec := "wareNarrows", unfollowed := true, recurses := true, apart := false, narrowed := true }
def WareNarrowsUptoSaid : Prop := wareNarrowsUptoRow.holds Try.pinned (OpenSpec.upto wareNarrowsSpec)

/-- 'potbanklaw01.WareChecks', WHERE WHAT IT READS IS OF BULK AT MOST 1048576: true; the input reads as it did. -/
def wareChecksUptoRow : OpenClaim := { program := "ytcgokimagimamaa", sum := "5eb94dba39b91d230f2b34fa0c4745c8ec245ff68b4a19e729f599f0a43be6aa", func := "potbank/potbanklaw01.WareChecks", spec := "wareChecks", unfollowed := true, recurses := true, apart := false, narrowed := true }
def WareChecksUptoSaid : Prop := wareChecksUptoRow.holds Try.pinned (OpenSpec.upto wareChecksSpec)

/-- 'potbanklaw01.WareTwo', WHERE WHAT IT READS IS OF BULK AT MOST 1048576: true; the input reads as it did. -/
def wareTwoUptoRow : OpenClaim := { program := "ytcgokimagimamaa", sum := "5eb94dba39b91d230f2b34fa0c4745c8ec245ff68b4a19e729f599f0a43be6aa", func := "potbank/potbanklaw01.WareTwo", spec := "wareTwo", unfollowed := true, recurses := true, apart := false, narrowed := true }
def WareTwoUptoSaid : Prop := wareTwoUptoRow.holds Try.pinned (OpenSpec.upto wareTwoSpec)

end Rows
end Go.Proofs.Ytcgokimagimamaa
