/-
  No cell of these rows narrows 'for every input' (looked for: loops, veiled, ifaces, maps, wideKeys, modest, calm, conditions, laid).
  DERIVED. THE GIVEN ROWS OF THIS SEAT. 4 by the template 'for every input the law returns true; each argument reads behind the call as it read before'; 0 by the template 'total and deterministic' (their statements: YteehongibjkjlaaTotals.lean).
  GIVEN WITH THE SEED: the statements are not yours to turn. If you find one false, say at which input.
  Laid BY PROGRAM, IN A SANDBOX (cutbox-rows.mjs): the forced cells as the released guide's own fill.sh prints them over the translation a4e099939142eb36… (all of the seat's roots in one cut). By AI agents, Wed Nov 11 2026. No macro, syntax, notation, axiom, sorry.
-/
import Derived.Test.YteehongibjkjlaaChecked
import GoSem.Claim
import GoSem.ClaimJoined
import GoSem.ClaimMapViews
import Derived.JoinedTies
import Derived.KernelRfl
namespace Go.Proofs.Yteehongibjkjlaa
/- THE CELL 'sum', in the pinned program and in every row, IS THE sha256 OF THE DUMP (.gsa) THAT YteehongibjkjlaaProg.lean LOADS. Nothing in Lean hashes anything: it is a label: what it is worth is what the hold of that sum in a sandbox is worth. -/
noncomputable def Try.pinned : Pinned := { name := "yteehongibjkjlaa", sum := "a4e099939142eb3641efdb1e47a51b3a5ac7ce1fa2b82620a793601c0f3511a9", checked := Try.checked }
namespace Rows
def none {H : Type} : Left H := { results := [], args := [] }

/-- 'argosylaw15.SplitOrder': WHATEVER THE INPUT: true; the input reads as it did. -/
def splitOrderSpec : ChangeSpec := { name := "splitOrder", fn := fun _ => fun
  | [d] => { results := [.lit (.bool true)], args := [d] }
  | _ => none }
def splitOrderRow : OpenClaim := { program := "yteehongibjkjlaa", sum := "a4e099939142eb3641efdb1e47a51b3a5ac7ce1fa2b82620a793601c0f3511a9", func := "argosy/argosylaw15.SplitOrder", spec := "splitOrder", unfollowed := true, recurses := true, plainKeys := false, apart := false }
def SplitOrderSaid : Prop := splitOrderRow.holds Try.pinned (OpenSpec.ofChange splitOrderSpec)

/-- ITS FALSE NEIGHBOUR: 'it returns false'. Refute it at one input. -/
def splitOrderWrong : ChangeSpec := { name := "splitOrder", fn := fun _ => fun
  | [d] => { results := [.lit (.bool false)], args := [d] }
  | _ => none }
def SplitOrderWrongFalsely : Prop := splitOrderRow.holds Try.pinned (OpenSpec.ofChange splitOrderWrong)

/-- 'argosylaw15.SplitParts': WHATEVER THE INPUT: true; the input reads as it did. -/
def splitPartsSpec : ChangeSpec := { name := "splitParts", fn := fun _ => fun
  | [d1, d2] => { results := [.lit (.bool true)], args := [d1, d2] }
  | _ => none }
def splitPartsRow : OpenClaim := { program := "yteehongibjkjlaa", sum := "a4e099939142eb3641efdb1e47a51b3a5ac7ce1fa2b82620a793601c0f3511a9", func := "argosy/argosylaw15.SplitParts", spec := "splitParts", unfollowed := true, recurses := true, plainKeys := false, apart := false }
def SplitPartsSaid : Prop := splitPartsRow.holds Try.pinned (OpenSpec.ofChange splitPartsSpec)

/-- ITS FALSE NEIGHBOUR: 'it returns false'. Refute it at one input. -/
def splitPartsWrong : ChangeSpec := { name := "splitParts", fn := fun _ => fun
  | [d1, d2] => { results := [.lit (.bool false)], args := [d1, d2] }
  | _ => none }
def SplitPartsWrongFalsely : Prop := splitPartsRow.holds Try.pinned (OpenSpec.ofChange splitPartsWrong)

/-- 'argosylaw15.SplitPieces': WHATEVER THE INPUT: true; the input reads as it did. -/
def splitPiecesSpec : ChangeSpec := { name := "splitPieces", fn := fun _ => fun
  | [d1, d2, d3] => { results := [.lit (.bool true)], args := [d1, d2, d3] }
  | _ => none }
def splitPiecesRow : OpenClaim := { program := "yteehongibjkjlaa", sum := "a4e099939142eb3641efdb1e47a51b3a5ac7ce1fa2b82620a793601c0f3511a9", func := "argosy/argosylaw15.SplitPieces", spec := "splitPieces", unfollowed := true, recurses := true, plainKeys := false, apart := false }
def SplitPiecesSaid : Prop := splitPiecesRow.holds Try.pinned (OpenSpec.ofChange splitPiecesSpec)

/-- ITS FALSE NEIGHBOUR: 'it returns false'. Refute it at one input. -/
def splitPiecesWrong : ChangeSpec := { name := "splitPieces", fn := fun _ => fun
  | [d1, d2, d3] => { results := [.lit (.bool false)], args := [d1, d2, d3] }
  | _ => none }
def SplitPiecesWrongFalsely : Prop := splitPiecesRow.holds Try.pinned (OpenSpec.ofChange splitPiecesWrong)

/-- 'argosylaw15.SplitGoesOn': WHATEVER THE INPUT: true; the input reads as it did. -/
def splitGoesOnSpec : ChangeSpec := { name := "splitGoesOn", fn := fun _ => fun
  | [d1, d2, d3] => { results := [.lit (.bool true)], args := [d1, d2, d3] }
  | _ => none }
def splitGoesOnRow : OpenClaim := { program := "yteehongibjkjlaa", sum := "a4e099939142eb3641efdb1e47a51b3a5ac7ce1fa2b82620a793601c0f3511a9", func := "argosy/argosylaw15.SplitGoesOn", spec := "splitGoesOn", unfollowed := true, recurses := true, plainKeys := false, apart := false }
def SplitGoesOnSaid : Prop := splitGoesOnRow.holds Try.pinned (OpenSpec.ofChange splitGoesOnSpec)

/-- ITS FALSE NEIGHBOUR: 'it returns false'. Refute it at one input. -/
def splitGoesOnWrong : ChangeSpec := { name := "splitGoesOn", fn := fun _ => fun
  | [d1, d2, d3] => { results := [.lit (.bool false)], args := [d1, d2, d3] }
  | _ => none }
def SplitGoesOnWrongFalsely : Prop := splitGoesOnRow.holds Try.pinned (OpenSpec.ofChange splitGoesOnWrong)

/- THE SECOND FORM. 'bulk': how many values and letters a reading holds, each counted each time it is reached (what is shared counts as often as it is met; a slice's spare places count too). A statement '..UptoSaid' is the law's where the arguments, and the package variables that the reading takes, are together of bulk at most 1048576: NARROWER than '..Said'. Prove '..Said' where nothing that the law and all that it calls make is longer than what came in: it says more and counts as full. Else prove '..UptoSaid'. A law counts once. -/
mutual
def uptoBulk {H : Type} : DataW H → Nat
  | .lit (.string bytes) => bytes.length + 1
  | .lit _ => 1
  | .nil => 1
  | .ptr d => uptoBulk d + 1
  | .slice elems spare => uptoBulkAll elems + uptoBulkAll spare + 1
  | .agg parts => uptoBulkAll parts + 1
  | .iface _ d => uptoBulk d + 1
  | .map entries => uptoBulkEntries entries + 1
  | .held _ => 1
def uptoBulkAll {H : Type} : List (DataW H) → Nat
  | [] => 0
  | d :: r => uptoBulk d + uptoBulkAll r
def uptoBulkEntries {H : Type} : List (Lit × DataW H) → Nat
  | [] => 0
  | x :: r => uptoBulkEntry x + uptoBulkEntries r
def uptoBulkEntry {H : Type} : Lit × DataW H → Nat
  | (.string bytes, d) => bytes.length + uptoBulk d + 1
  | (_, d) => uptoBulk d + 1
 end
def uptoSmall : (H : Type) → List (DataW H) → Bool := fun _ ds => decide (uptoBulkAll ds ≤ 1048576)
def OpenSpec.upto (s : _root_.Go.ChangeSpec) : _root_.Go.OpenSpec := { _root_.Go.OpenSpec.ofChange s with cond := some uptoSmall }

/-- 'argosylaw15.SplitOrder', WHERE WHAT IT READS IS OF BULK AT MOST 1048576: true; the input reads as it did. -/
def splitOrderUptoRow : OpenClaim := { program := "yteehongibjkjlaa", sum := "a4e099939142eb3641efdb1e47a51b3a5ac7ce1fa2b82620a793601c0f3511a9", func := "argosy/argosylaw15.SplitOrder", spec := "splitOrder", unfollowed := true, recurses := true, plainKeys := false, apart := false, narrowed := true }
def SplitOrderUptoSaid : Prop := splitOrderUptoRow.holds Try.pinned (OpenSpec.upto splitOrderSpec)

/-- 'argosylaw15.SplitParts', WHERE WHAT IT READS IS OF BULK AT MOST 1048576: true; the input reads as it did. -/
def splitPartsUptoRow : OpenClaim := { program := "yteehongibjkjlaa", sum := "a4e099939142eb3641efdb1e47a51b3a5ac7ce1fa2b82620a793601c0f3511a9", func := "argosy/argosylaw15.SplitParts", spec := "splitParts", unfollowed := true, recurses := true, plainKeys := false, apart := false, narrowed := true }
def SplitPartsUptoSaid : Prop := splitPartsUptoRow.holds Try.pinned (OpenSpec.upto splitPartsSpec)

/-- 'argosylaw15.SplitPieces', WHERE WHAT IT READS IS OF BULK AT MOST 1048576: true; the input reads as it did. -/
def splitPiecesUptoRow : OpenClaim := { program := "yteehongibjkjlaa", sum := "a4e099939142eb3641efdb1e47a51b3a5ac7ce1fa2b82620a793601c0f3511a9", func := "argosy/argosylaw15.SplitPieces", spec := "splitPieces", unfollowed := true, recurses := true, plainKeys := false, apart := false, narrowed := true }
def SplitPiecesUptoSaid : Prop := splitPiecesUptoRow.holds Try.pinned (OpenSpec.upto splitPiecesSpec)

/-- 'argosylaw15.SplitGoesOn', WHERE WHAT IT READS IS OF BULK AT MOST 1048576: true; the input reads as it did. -/
def splitGoesOnUptoRow : OpenClaim := { program := "yteehongibjkjlaa", sum := "a4e099939142eb3641efdb1e47a51b3a5ac7ce1fa2b82620a793601c0f3511a9", func := "argosy/argosylaw15.SplitGoesOn", spec := "splitGoesOn", unfollowed := true, recurses := true, plainKeys := false, apart := false, narrowed := true }
def SplitGoesOnUptoSaid : Prop := splitGoesOnUptoRow.holds Try.pinned (OpenSpec.upto splitGoesOnSpec)

end Rows
end Go.Proofs.Yteehongibjkjlaa
