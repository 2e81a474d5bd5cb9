/-
  No cell of these rows narrows 'for every input' (looked for: loops, veiled, ifaces, maps, wideKeys, modest, calm, conditions, laid).
  DERIVED. THE GIVEN ROWS OF THIS SEAT. 3 by the template 'for every input the law returns true; each argument reads behind the call as it read before'; 0 by the template 'total and deterministic' (their statements: YtlbggbjekpfokaaTotals.lean).
  GIVEN WITH THE SEED: the statements are not yours to turn. If you find one false, say at which input.
  Laid BY PROGRAM, IN A SANDBOX (cutbox-rows.mjs): the forced cells as the released guide's own fill.sh prints them over the translation 41ee47b9e9250b25… (all of the seat's roots in one cut). By AI agents, Wed Nov 11 2026. No macro, syntax, notation, axiom, sorry.
-/
import Derived.Test.YtlbggbjekpfokaaChecked
import GoSem.Claim
import GoSem.ClaimJoined
import GoSem.ClaimMapViews
import Derived.JoinedTies
import Derived.KernelRfl
namespace Go.Proofs.Ytlbggbjekpfokaa
/- THE CELL 'sum', in the pinned program and in every row, IS THE sha256 OF THE DUMP (.gsa) THAT YtlbggbjekpfokaaProg.lean LOADS. Nothing in Lean hashes anything: it is a label: what it is worth is what the hold of that sum in a sandbox is worth. -/
noncomputable def Try.pinned : Pinned := { name := "ytlbggbjekpfokaa", sum := "41ee47b9e9250b25af25ee92567d3f18dd0e12fda84e3e191970450f85d780ce", checked := Try.checked }
namespace Rows
def none {H : Type} : Left H := { results := [], args := [] }

/-- 'argosylaw02.BtreeRanges': WHATEVER THE INPUT: true; the input reads as it did. -/
def btreeRangesSpec : ChangeSpec := { name := "btreeRanges", fn := fun _ => fun
  | [d1, d2, d3] => { results := [.lit (.bool true)], args := [d1, d2, d3] }
  | _ => none }
def btreeRangesRow : OpenClaim := { program := "ytlbggbjekpfokaa", sum := "41ee47b9e9250b25af25ee92567d3f18dd0e12fda84e3e191970450f85d780ce", func := "argosy/argosylaw02.BtreeRanges", spec := "btreeRanges", inPlace := ["slices.overlaps[argosy/btree.item[string, int]]", "slices.overlaps[*argosy/btree.node[string, int]]"], unfollowed := true, recurses := true, apart := false }
def BtreeRangesSaid : Prop := btreeRangesRow.holds Try.pinned (OpenSpec.ofChange btreeRangesSpec)

/-- ITS FALSE NEIGHBOUR: 'it returns false'. Refute it at one input. -/
def btreeRangesWrong : ChangeSpec := { name := "btreeRanges", fn := fun _ => fun
  | [d1, d2, d3] => { results := [.lit (.bool false)], args := [d1, d2, d3] }
  | _ => none }
def BtreeRangesWrongFalsely : Prop := btreeRangesRow.holds Try.pinned (OpenSpec.ofChange btreeRangesWrong)

/-- 'argosylaw02.BtreeNext': WHATEVER THE INPUT: true; the input reads as it did. -/
def btreeNextSpec : ChangeSpec := { name := "btreeNext", fn := fun _ => fun
  | [d] => { results := [.lit (.bool true)], args := [d] }
  | _ => none }
def btreeNextRow : OpenClaim := { program := "ytlbggbjekpfokaa", sum := "41ee47b9e9250b25af25ee92567d3f18dd0e12fda84e3e191970450f85d780ce", func := "argosy/argosylaw02.BtreeNext", spec := "btreeNext", inPlace := ["slices.overlaps[argosy/btree.item[string, int]]", "slices.overlaps[*argosy/btree.node[string, int]]", "slices.overlaps[argosy/btree.item[int, int]]", "slices.overlaps[*argosy/btree.node[int, int]]"], unfollowed := true, recurses := true, apart := false }
def BtreeNextSaid : Prop := btreeNextRow.holds Try.pinned (OpenSpec.ofChange btreeNextSpec)

/-- ITS FALSE NEIGHBOUR: 'it returns false'. Refute it at one input. -/
def btreeNextWrong : ChangeSpec := { name := "btreeNext", fn := fun _ => fun
  | [d] => { results := [.lit (.bool false)], args := [d] }
  | _ => none }
def BtreeNextWrongFalsely : Prop := btreeNextRow.holds Try.pinned (OpenSpec.ofChange btreeNextWrong)

/-- 'argosylaw02.BtreeNumbers': WHATEVER THE INPUT: true; the input reads as it did. -/
def btreeNumbersSpec : ChangeSpec := { name := "btreeNumbers", fn := fun _ => fun
  | [d] => { results := [.lit (.bool true)], args := [d] }
  | _ => none }
def btreeNumbersRow : OpenClaim := { program := "ytlbggbjekpfokaa", sum := "41ee47b9e9250b25af25ee92567d3f18dd0e12fda84e3e191970450f85d780ce", func := "argosy/argosylaw02.BtreeNumbers", spec := "btreeNumbers", inPlace := ["slices.overlaps[argosy/btree.item[string, int]]", "slices.overlaps[*argosy/btree.node[string, int]]", "slices.overlaps[argosy/btree.item[int, bool]]", "slices.overlaps[*argosy/btree.node[int, bool]]"], unfollowed := true, recurses := true, apart := false }
def BtreeNumbersSaid : Prop := btreeNumbersRow.holds Try.pinned (OpenSpec.ofChange btreeNumbersSpec)

/-- ITS FALSE NEIGHBOUR: 'it returns false'. Refute it at one input. -/
def btreeNumbersWrong : ChangeSpec := { name := "btreeNumbers", fn := fun _ => fun
  | [d] => { results := [.lit (.bool false)], args := [d] }
  | _ => none }
def BtreeNumbersWrongFalsely : Prop := btreeNumbersRow.holds Try.pinned (OpenSpec.ofChange btreeNumbersWrong)

/- THE SECOND FORM. 'bulk': how many values and letters a reading holds, each counted each time it is reached (what is shared counts as often as it is met; a slice's spare places count too). A statement '..UptoSaid' is the law's where the arguments, and the package variables that the reading takes, are together of bulk at most 1048576: NARROWER than '..Said'. Prove '..Said' where nothing that the law and all that it calls make is longer than what came in: it says more and counts as full. Else prove '..UptoSaid'. A law counts once. -/
mutual
def uptoBulk {H : Type} : DataW H → Nat
  | .lit (.string bytes) => bytes.length + 1
  | .lit _ => 1
  | .nil => 1
  | .ptr d => uptoBulk d + 1
  | .slice elems spare => uptoBulkAll elems + uptoBulkAll spare + 1
  | .agg parts => uptoBulkAll parts + 1
  | .iface _ d => uptoBulk d + 1
  | .map entries => uptoBulkEntries entries + 1
  | .held _ => 1
def uptoBulkAll {H : Type} : List (DataW H) → Nat
  | [] => 0
  | d :: r => uptoBulk d + uptoBulkAll r
def uptoBulkEntries {H : Type} : List (Lit × DataW H) → Nat
  | [] => 0
  | x :: r => uptoBulkEntry x + uptoBulkEntries r
def uptoBulkEntry {H : Type} : Lit × DataW H → Nat
  | (.string bytes, d) => bytes.length + uptoBulk d + 1
  | (_, d) => uptoBulk d + 1
 end
def uptoSmall : (H : Type) → List (DataW H) → Bool := fun _ ds => decide (uptoBulkAll ds ≤ 1048576)
def OpenSpec.upto (s : _root_.Go.ChangeSpec) : _root_.Go.OpenSpec := { _root_.Go.OpenSpec.ofChange s with cond := some uptoSmall }

/-- 'argosylaw02.BtreeRanges', WHERE WHAT IT READS IS OF BULK AT MOST 1048576: true; the input reads as it did. -/
def btreeRangesUptoRow : OpenClaim := { program := "ytlbggbjekpfokaa", sum := "41ee47b9e9250b25af25ee92567d3f18dd0e12fda84e3e191970450f85d780ce", func := "argosy/argosylaw02.BtreeRanges", spec := "btreeRanges", inPlace := ["slices.overlaps[argosy/btree.item[string, int]]", "slices.overlaps[*argosy/btree.node[string, int]]"], unfollowed := true, recurses := true, apart := false, narrowed := true }
def BtreeRangesUptoSaid : Prop := btreeRangesUptoRow.holds Try.pinned (OpenSpec.upto btreeRangesSpec)

/-- 'argosylaw02.BtreeNext', WHERE WHAT IT READS IS OF BULK AT MOST 1048576: true; the input reads as it did. -/
def btreeNextUptoRow : OpenClaim := { program := "ytlbggbjekpfokaa", sum := "41ee47b9e9250b25af25ee92567d3f18dd0e12fda84e3e191970450f85d780ce", func := "argosy/argosylaw02.BtreeNext", spec := "btreeNext", inPlace := ["slices.overlaps[argosy/btree.item[string, int]]", "slices.overlaps[*argosy/btree.node[string, int]]", "slices.overlaps[argosy/btree.item[int, int]]", "slices.overlaps[*argosy/btree.node[int, int]]"], unfollowed := true, recurses := true, apart := false, narrowed := true }
def BtreeNextUptoSaid : Prop := btreeNextUptoRow.holds Try.pinned (OpenSpec.upto btreeNextSpec)

/-- 'argosylaw02.BtreeNumbers', WHERE WHAT IT READS IS OF BULK AT MOST 1048576: true; the input reads as it did. -/
def btreeNumbersUptoRow : OpenClaim := { program := "ytlbggbjekpfokaa", sum := "41ee47b9e9250b25af25ee92567d3f18dd0e12fda84e3e191970450f85d780ce", func := "argosy/argosylaw02.BtreeNumbers", spec := "btreeNumbers", inPlace := ["slices.overlaps[argosy/btree.item[string, int]]", "slices.overlaps[*argosy/btree.node[string, int]]", "slices.overlaps[argosy/btree.item[int, bool]]", "slices.overlaps[*argosy/btree.node[int, bool]]"], unfollowed := true, recurses := true, apart := false, narrowed := true }
def BtreeNumbersUptoSaid : Prop := btreeNumbersUptoRow.holds Try.pinned (OpenSpec.upto btreeNumbersSpec)

end Rows
end Go.Proofs.Ytlbggbjekpfokaa
