/-
  No cell of these rows narrows 'for every input' (looked for: loops, veiled, ifaces, maps, wideKeys, modest, calm, conditions, laid).
  DERIVED. THE GIVEN ROWS OF THIS SEAT. 7 by the template 'for every input the law returns true; each argument reads behind the call as it read before'; 0 by the template 'total and deterministic' (their statements: YtllclglbfdncnaaTotals.lean).
  GIVEN WITH THE SEED: the statements are not yours to turn. If you find one false, say at which input.
  Laid BY PROGRAM, IN A SANDBOX (cutbox-rows.mjs): the forced cells as the released guide's own fill.sh prints them over the translation a98377770ebbe411… (all of the seat's roots in one cut). By AI agents, Wed Nov 11 2026. No macro, syntax, notation, axiom, sorry.
-/
import Derived.Test.YtllclglbfdncnaaChecked
import GoSem.Claim
import GoSem.ClaimJoined
import GoSem.ClaimMapViews
import Derived.JoinedTies
import Derived.KernelRfl
namespace Go.Proofs.Ytllclglbfdncnaa
/- THE CELL 'sum', in the pinned program and in every row, IS THE sha256 OF THE DUMP (.gsa) THAT YtllclglbfdncnaaProg.lean LOADS. Nothing in Lean hashes anything: it is a label: what it is worth is what the hold of that sum in a sandbox is worth. -/
noncomputable def Try.pinned : Pinned := { name := "ytllclglbfdncnaa", sum := "a98377770ebbe411386d16ae31b1047e9c4c1d12aee3a05dd78fae8e534465a5", checked := Try.checked }
namespace Rows
def none {H : Type} : Left H := { results := [], args := [] }

/-- 'argosylaw05.ProgNames': WHATEVER THE INPUT: true; the input reads as it did. -/
def progNamesSpec : ChangeSpec := { name := "progNames", fn := fun _ => fun
  | [] => { results := [.lit (.bool true)], args := [] }
  | _ => none }
def progNamesRow : OpenClaim := { program := "ytllclglbfdncnaa", sum := "a98377770ebbe411386d16ae31b1047e9c4c1d12aee3a05dd78fae8e534465a5", func := "argosy/argosylaw05.ProgNames", spec := "progNames", unfollowed := true, recurses := true, apart := false }
def ProgNamesSaid : Prop := progNamesRow.holds Try.pinned (OpenSpec.ofChange progNamesSpec)

/-- ITS FALSE NEIGHBOUR: 'it returns false'. Refute it at one input. -/
def progNamesWrong : ChangeSpec := { name := "progNames", fn := fun _ => fun
  | [] => { results := [.lit (.bool false)], args := [] }
  | _ => none }
def ProgNamesWrongFalsely : Prop := progNamesRow.holds Try.pinned (OpenSpec.ofChange progNamesWrong)

/-- 'argosylaw05.ProgChecks': WHATEVER THE INPUT: true; the input reads as it did. -/
def progChecksSpec : ChangeSpec := { name := "progChecks", fn := fun _ => fun
  | [d1, d2] => { results := [.lit (.bool true)], args := [d1, d2] }
  | _ => none }
def progChecksRow : OpenClaim := { program := "ytllclglbfdncnaa", sum := "a98377770ebbe411386d16ae31b1047e9c4c1d12aee3a05dd78fae8e534465a5", func := "argosy/argosylaw05.ProgChecks", spec := "progChecks", unfollowed := true, recurses := true, apart := false }
def ProgChecksSaid : Prop := progChecksRow.holds Try.pinned (OpenSpec.ofChange progChecksSpec)

/-- ITS FALSE NEIGHBOUR: 'it returns false'. Refute it at one input. -/
def progChecksWrong : ChangeSpec := { name := "progChecks", fn := fun _ => fun
  | [d1, d2] => { results := [.lit (.bool false)], args := [d1, d2] }
  | _ => none }
def ProgChecksWrongFalsely : Prop := progChecksRow.holds Try.pinned (OpenSpec.ofChange progChecksWrong)

/-- 'argosylaw05.ProgSame': WHATEVER THE INPUT: true; the input reads as it did. -/
def progSameSpec : ChangeSpec := { name := "progSame", fn := fun _ => fun
  | [d1, d2] => { results := [.lit (.bool true)], args := [d1, d2] }
  | _ => none }
def progSameRow : OpenClaim := { program := "ytllclglbfdncnaa", sum := "a98377770ebbe411386d16ae31b1047e9c4c1d12aee3a05dd78fae8e534465a5", func := "argosy/argosylaw05.ProgSame", spec := "progSame", unfollowed := true, recurses := true, apart := false }
def ProgSameSaid : Prop := progSameRow.holds Try.pinned (OpenSpec.ofChange progSameSpec)

/-- ITS FALSE NEIGHBOUR: 'it returns false'. Refute it at one input. -/
def progSameWrong : ChangeSpec := { name := "progSame", fn := fun _ => fun
  | [d1, d2] => { results := [.lit (.bool false)], args := [d1, d2] }
  | _ => none }
def ProgSameWrongFalsely : Prop := progSameRow.holds Try.pinned (OpenSpec.ofChange progSameWrong)

/-- 'argosylaw05.ProgFewer': WHATEVER THE INPUT: true; the input reads as it did. -/
def progFewerSpec : ChangeSpec := { name := "progFewer", fn := fun _ => fun
  | [d1, d2, d3] => { results := [.lit (.bool true)], args := [d1, d2, d3] }
  | _ => none }
def progFewerRow : OpenClaim := { program := "ytllclglbfdncnaa", sum := "a98377770ebbe411386d16ae31b1047e9c4c1d12aee3a05dd78fae8e534465a5", func := "argosy/argosylaw05.ProgFewer", spec := "progFewer", unfollowed := true, recurses := true, apart := false }
def ProgFewerSaid : Prop := progFewerRow.holds Try.pinned (OpenSpec.ofChange progFewerSpec)

/-- ITS FALSE NEIGHBOUR: 'it returns false'. Refute it at one input. -/
def progFewerWrong : ChangeSpec := { name := "progFewer", fn := fun _ => fun
  | [d1, d2, d3] => { results := [.lit (.bool false)], args := [d1, d2, d3] }
  | _ => none }
def ProgFewerWrongFalsely : Prop := progFewerRow.holds Try.pinned (OpenSpec.ofChange progFewerWrong)

/-- 'argosylaw05.ProgOrder': WHATEVER THE INPUT: true; the input reads as it did. -/
def progOrderSpec : ChangeSpec := { name := "progOrder", fn := fun _ => fun
  | [d1, d2] => { results := [.lit (.bool true)], args := [d1, d2] }
  | _ => none }
def progOrderRow : OpenClaim := { program := "ytllclglbfdncnaa", sum := "a98377770ebbe411386d16ae31b1047e9c4c1d12aee3a05dd78fae8e534465a5", func := "argosy/argosylaw05.ProgOrder", spec := "progOrder", unfollowed := true, recurses := true, apart := false }
def ProgOrderSaid : Prop := progOrderRow.holds Try.pinned (OpenSpec.ofChange progOrderSpec)

/-- ITS FALSE NEIGHBOUR: 'it returns false'. Refute it at one input. -/
def progOrderWrong : ChangeSpec := { name := "progOrder", fn := fun _ => fun
  | [d1, d2] => { results := [.lit (.bool false)], args := [d1, d2] }
  | _ => none }
def ProgOrderWrongFalsely : Prop := progOrderRow.holds Try.pinned (OpenSpec.ofChange progOrderWrong)

/-- 'argosylaw05.ProgWider': WHATEVER THE INPUT: true; the input reads as it did. -/
def progWiderSpec : ChangeSpec := { name := "progWider", fn := fun _ => fun
  | [d] => { results := [.lit (.bool true)], args := [d] }
  | _ => none }
def progWiderRow : OpenClaim := { program := "ytllclglbfdncnaa", sum := "a98377770ebbe411386d16ae31b1047e9c4c1d12aee3a05dd78fae8e534465a5", func := "argosy/argosylaw05.ProgWider", spec := "progWider", unfollowed := true, recurses := true, apart := false }
def ProgWiderSaid : Prop := progWiderRow.holds Try.pinned (OpenSpec.ofChange progWiderSpec)

/-- ITS FALSE NEIGHBOUR: 'it returns false'. Refute it at one input. -/
def progWiderWrong : ChangeSpec := { name := "progWider", fn := fun _ => fun
  | [d] => { results := [.lit (.bool false)], args := [d] }
  | _ => none }
def ProgWiderWrongFalsely : Prop := progWiderRow.holds Try.pinned (OpenSpec.ofChange progWiderWrong)

/-- 'argosylaw05.ProgKeys': WHATEVER THE INPUT: true; the input reads as it did. -/
def progKeysSpec : ChangeSpec := { name := "progKeys", fn := fun _ => fun
  | [d1, d2] => { results := [.lit (.bool true)], args := [d1, d2] }
  | _ => none }
def progKeysRow : OpenClaim := { program := "ytllclglbfdncnaa", sum := "a98377770ebbe411386d16ae31b1047e9c4c1d12aee3a05dd78fae8e534465a5", func := "argosy/argosylaw05.ProgKeys", spec := "progKeys", unfollowed := true, recurses := true, apart := false }
def ProgKeysSaid : Prop := progKeysRow.holds Try.pinned (OpenSpec.ofChange progKeysSpec)

/-- ITS FALSE NEIGHBOUR: 'it returns false'. Refute it at one input. -/
def progKeysWrong : ChangeSpec := { name := "progKeys", fn := fun _ => fun
  | [d1, d2] => { results := [.lit (.bool false)], args := [d1, d2] }
  | _ => none }
def ProgKeysWrongFalsely : Prop := progKeysRow.holds Try.pinned (OpenSpec.ofChange progKeysWrong)

/- THE SECOND FORM. 'bulk': how many values and letters a reading holds, each counted each time it is reached (what is shared counts as often as it is met; a slice's spare places count too). A statement '..UptoSaid' is the law's where the arguments, and the package variables that the reading takes, are together of bulk at most 1048576: NARROWER than '..Said'. Prove '..Said' where nothing that the law and all that it calls make is longer than what came in: it says more and counts as full. Else prove '..UptoSaid'. A law counts once. -/
mutual
def uptoBulk {H : Type} : DataW H → Nat
  | .lit (.string bytes) => bytes.length + 1
  | .lit _ => 1
  | .nil => 1
  | .ptr d => uptoBulk d + 1
  | .slice elems spare => uptoBulkAll elems + uptoBulkAll spare + 1
  | .agg parts => uptoBulkAll parts + 1
  | .iface _ d => uptoBulk d + 1
  | .map entries => uptoBulkEntries entries + 1
  | .held _ => 1
def uptoBulkAll {H : Type} : List (DataW H) → Nat
  | [] => 0
  | d :: r => uptoBulk d + uptoBulkAll r
def uptoBulkEntries {H : Type} : List (Lit × DataW H) → Nat
  | [] => 0
  | x :: r => uptoBulkEntry x + uptoBulkEntries r
def uptoBulkEntry {H : Type} : Lit × DataW H → Nat
  | (.string bytes, d) => bytes.length + uptoBulk d + 1
  | (_, d) => uptoBulk d + 1
 end
def uptoSmall : (H : Type) → List (DataW H) → Bool := fun _ ds => decide (uptoBulkAll ds ≤ 1048576)
def OpenSpec.upto (s : _root_.Go.ChangeSpec) : _root_.Go.OpenSpec := { _root_.Go.OpenSpec.ofChange s with cond := some uptoSmall }

/-- 'argosylaw05.ProgNames', WHERE WHAT IT READS IS OF BULK AT MOST 1048576: true; the input reads as it did. -/
def progNamesUptoRow : OpenClaim := { program := "ytllclglbfdncnaa", sum := "a98377770ebbe411386d16ae31b1047e9c4c1d12aee3a05dd78fae8e534465a5", func := "argosy/argosylaw05.ProgNames", spec := "progNames", unfollowed := true, recurses := true, apart := false, narrowed := true }
def ProgNamesUptoSaid : Prop := progNamesUptoRow.holds Try.pinned (OpenSpec.upto progNamesSpec)

/-- 'argosylaw05.ProgChecks', WHERE WHAT IT READS IS OF BULK AT MOST 1048576: true; the input reads as it did. -/
def progChecksUptoRow : OpenClaim := { program := "ytllclglbfdncnaa", sum := "a98377770ebbe411386d16ae31b1047e9c4c1d12aee3a05dd78fae8e534465a5", func := "argosy/argosylaw05.ProgChecks", spec := "progChecks", unfollowed := true, recurses := true, apart := false, narrowed := true }
def ProgChecksUptoSaid : Prop := progChecksUptoRow.holds Try.pinned (OpenSpec.upto progChecksSpec)

/-- 'argosylaw05.ProgSame', WHERE WHAT IT READS IS OF BULK AT MOST 1048576: true; the input reads as it did. -/
def progSameUptoRow : OpenClaim := { program := "ytllclglbfdncnaa", sum := "a98377770ebbe411386d16ae31b1047e9c4c1d12aee3a05dd78fae8e534465a5", func := "argosy/argosylaw05.ProgSame", spec := "progSame", unfollowed := true, recurses := true, apart := false, narrowed := true }
def ProgSameUptoSaid : Prop := progSameUptoRow.holds Try.pinned (OpenSpec.upto progSameSpec)

/-- 'argosylaw05.ProgFewer', WHERE WHAT IT READS IS OF BULK AT MOST 1048576: true; the input reads as it did. -/
def progFewerUptoRow : OpenClaim := { program := "ytllclglbfdncnaa", sum := "a98377770ebbe411386d16ae31b1047e9c4c1d12aee3a05dd78fae8e534465a5", func := "argosy/argosylaw05.ProgFewer", spec := "progFewer", unfollowed := true, recurses := true, apart := false, narrowed := true }
def ProgFewerUptoSaid : Prop := progFewerUptoRow.holds Try.pinned (OpenSpec.upto progFewerSpec)

/-- 'argosylaw05.ProgOrder', WHERE WHAT IT READS IS OF BULK AT MOST 1048576: true; the input reads as it did. -/
def progOrderUptoRow : OpenClaim := { program := "ytllclglbfdncnaa", sum := "a98377770ebbe411386d16ae31b1047e9c4c1d12aee3a05dd78fae8e534465a5", func := "argosy/argosylaw05.ProgOrder", spec := "progOrder", unfollowed := true, recurses := true, apart := false, narrowed := true }
def ProgOrderUptoSaid : Prop := progOrderUptoRow.holds Try.pinned (OpenSpec.upto progOrderSpec)

/-- 'argosylaw05.ProgWider', WHERE WHAT IT READS IS OF BULK AT MOST 1048576: true; the input reads as it did. -/
def progWiderUptoRow : OpenClaim := { program := "ytllclglbfdncnaa", sum := "a98377770ebbe411386d16ae31b1047e9c4c1d12aee3a05dd78fae8e534465a5", func := "argosy/argosylaw05.ProgWider", spec := "progWider", unfollowed := true, recurses := true, apart := false, narrowed := true }
def ProgWiderUptoSaid : Prop := progWiderUptoRow.holds Try.pinned (OpenSpec.upto progWiderSpec)

/-- 'argosylaw05.ProgKeys', WHERE WHAT IT READS IS OF BULK AT MOST 1048576: true; the input reads as it did. -/
def progKeysUptoRow : OpenClaim := { program := "ytllclglbfdncnaa", sum := "a98377770ebbe411386d16ae31b1047e9c4c1d12aee3a05dd78fae8e534465a5", func := "argosy/argosylaw05.ProgKeys", spec := "progKeys", unfollowed := true, recurses := true, apart := false, narrowed := true }
def ProgKeysUptoSaid : Prop := progKeysUptoRow.holds Try.pinned (OpenSpec.upto progKeysSpec)

end Rows
end Go.Proofs.Ytllclglbfdncnaa
