/-
  No cell of these rows narrows 'for every input' (looked for: loops, veiled, ifaces, maps, wideKeys, modest, calm, conditions, laid).
  DERIVED. THE GIVEN ROWS OF THIS SEAT. 5 by the template 'for every input the law returns true; each argument reads behind the call as it read before'; 0 by the template 'total and deterministic' (their statements: YtakjmdeckngnlaaTotals.lean).
  GIVEN WITH THE SEED: the statements are not yours to turn. If you find one false, say at which input.
  Laid BY PROGRAM, IN A SANDBOX (cutbox-rows.mjs): the forced cells as the released guide's own fill.sh prints them over the translation 40aa67272c36f8ca… (all of the seat's roots in one cut). By AI agents, Wed Nov 11 2026. No macro, syntax, notation, axiom, sorry.
-/
import Derived.Test.YtakjmdeckngnlaaChecked
import GoSem.Claim
import GoSem.ClaimJoined
import GoSem.ClaimMapViews
import Derived.JoinedTies
import Derived.KernelRfl
namespace Go.Proofs.Ytakjmdeckngnlaa
/- THE CELL 'sum', in the pinned program and in every row, IS THE sha256 OF THE DUMP (.gsa) THAT YtakjmdeckngnlaaProg.lean LOADS. Nothing in Lean hashes anything: it is a label: what it is worth is what the hold of that sum in a sandbox is worth. -/
noncomputable def Try.pinned : Pinned := { name := "ytakjmdeckngnlaa", sum := "40aa67272c36f8ca31b5fe05b7d1eb52a56b8a5edd7d06c0d720b3065cd5e852", checked := Try.checked }
namespace Rows
def none {H : Type} : Left H := { results := [], args := [] }

/-- 'argosylaw12.LeadPlays': WHATEVER THE INPUT: true; the input reads as it did. -/
def leadPlaysSpec : ChangeSpec := { name := "leadPlays", fn := fun _ => fun
  | [d1, d2, d3] => { results := [.lit (.bool true)], args := [d1, d2, d3] }
  | _ => none }
def leadPlaysRow : OpenClaim := { program := "ytakjmdeckngnlaa", sum := "40aa67272c36f8ca31b5fe05b7d1eb52a56b8a5edd7d06c0d720b3065cd5e852", func := "argosy/argosylaw12.LeadPlays", spec := "leadPlays", apart := false }
def LeadPlaysSaid : Prop := leadPlaysRow.holds Try.pinned (OpenSpec.ofChange leadPlaysSpec)

/-- ITS FALSE NEIGHBOUR: 'it returns false'. Refute it at one input. -/
def leadPlaysWrong : ChangeSpec := { name := "leadPlays", fn := fun _ => fun
  | [d1, d2, d3] => { results := [.lit (.bool false)], args := [d1, d2, d3] }
  | _ => none }
def LeadPlaysWrongFalsely : Prop := leadPlaysRow.holds Try.pinned (OpenSpec.ofChange leadPlaysWrong)

/-- 'argosylaw12.LeadFull': WHATEVER THE INPUT: true; the input reads as it did. -/
def leadFullSpec : ChangeSpec := { name := "leadFull", fn := fun _ => fun
  | [d1, d2] => { results := [.lit (.bool true)], args := [d1, d2] }
  | _ => none }
def leadFullRow : OpenClaim := { program := "ytakjmdeckngnlaa", sum := "40aa67272c36f8ca31b5fe05b7d1eb52a56b8a5edd7d06c0d720b3065cd5e852", func := "argosy/argosylaw12.LeadFull", spec := "leadFull", apart := false }
def LeadFullSaid : Prop := leadFullRow.holds Try.pinned (OpenSpec.ofChange leadFullSpec)

/-- ITS FALSE NEIGHBOUR: 'it returns false'. Refute it at one input. -/
def leadFullWrong : ChangeSpec := { name := "leadFull", fn := fun _ => fun
  | [d1, d2] => { results := [.lit (.bool false)], args := [d1, d2] }
  | _ => none }
def LeadFullWrongFalsely : Prop := leadFullRow.holds Try.pinned (OpenSpec.ofChange leadFullWrong)

/-- 'argosylaw12.LeadOnce': WHATEVER THE INPUT: true; the input reads as it did. -/
def leadOnceSpec : ChangeSpec := { name := "leadOnce", fn := fun _ => fun
  | [d1, d2] => { results := [.lit (.bool true)], args := [d1, d2] }
  | _ => none }
def leadOnceRow : OpenClaim := { program := "ytakjmdeckngnlaa", sum := "40aa67272c36f8ca31b5fe05b7d1eb52a56b8a5edd7d06c0d720b3065cd5e852", func := "argosy/argosylaw12.LeadOnce", spec := "leadOnce", apart := false }
def LeadOnceSaid : Prop := leadOnceRow.holds Try.pinned (OpenSpec.ofChange leadOnceSpec)

/-- ITS FALSE NEIGHBOUR: 'it returns false'. Refute it at one input. -/
def leadOnceWrong : ChangeSpec := { name := "leadOnce", fn := fun _ => fun
  | [d1, d2] => { results := [.lit (.bool false)], args := [d1, d2] }
  | _ => none }
def LeadOnceWrongFalsely : Prop := leadOnceRow.holds Try.pinned (OpenSpec.ofChange leadOnceWrong)

/-- 'argosylaw12.LeadAgrees': WHATEVER THE INPUT: true; the input reads as it did. -/
def leadAgreesSpec : ChangeSpec := { name := "leadAgrees", fn := fun _ => fun
  | [d1, d2] => { results := [.lit (.bool true)], args := [d1, d2] }
  | _ => none }
def leadAgreesRow : OpenClaim := { program := "ytakjmdeckngnlaa", sum := "40aa67272c36f8ca31b5fe05b7d1eb52a56b8a5edd7d06c0d720b3065cd5e852", func := "argosy/argosylaw12.LeadAgrees", spec := "leadAgrees", inPlace := ["slices.overlaps[argosy/btree.item[int, argosy/api.Vote[int]]]", "slices.overlaps[*argosy/btree.node[int, argosy/api.Vote[int]]]"], unfollowed := true, recurses := true, apart := false }
def LeadAgreesSaid : Prop := leadAgreesRow.holds Try.pinned (OpenSpec.ofChange leadAgreesSpec)

/-- ITS FALSE NEIGHBOUR: 'it returns false'. Refute it at one input. -/
def leadAgreesWrong : ChangeSpec := { name := "leadAgrees", fn := fun _ => fun
  | [d1, d2] => { results := [.lit (.bool false)], args := [d1, d2] }
  | _ => none }
def LeadAgreesWrongFalsely : Prop := leadAgreesRow.holds Try.pinned (OpenSpec.ofChange leadAgreesWrong)

/-- 'argosylaw12.LeadLater': WHATEVER THE INPUT: true; the input reads as it did. -/
def leadLaterSpec : ChangeSpec := { name := "leadLater", fn := fun _ => fun
  | [d1, d2, d3] => { results := [.lit (.bool true)], args := [d1, d2, d3] }
  | _ => none }
def leadLaterRow : OpenClaim := { program := "ytakjmdeckngnlaa", sum := "40aa67272c36f8ca31b5fe05b7d1eb52a56b8a5edd7d06c0d720b3065cd5e852", func := "argosy/argosylaw12.LeadLater", spec := "leadLater", inPlace := ["slices.overlaps[argosy/btree.item[int, argosy/api.Vote[string]]]", "slices.overlaps[*argosy/btree.node[int, argosy/api.Vote[string]]]"], unfollowed := true, recurses := true, apart := false }
def LeadLaterSaid : Prop := leadLaterRow.holds Try.pinned (OpenSpec.ofChange leadLaterSpec)

/-- ITS FALSE NEIGHBOUR: 'it returns false'. Refute it at one input. -/
def leadLaterWrong : ChangeSpec := { name := "leadLater", fn := fun _ => fun
  | [d1, d2, d3] => { results := [.lit (.bool false)], args := [d1, d2, d3] }
  | _ => none }
def LeadLaterWrongFalsely : Prop := leadLaterRow.holds Try.pinned (OpenSpec.ofChange leadLaterWrong)

/- THE SECOND FORM. 'bulk': how many values and letters a reading holds, each counted each time it is reached (what is shared counts as often as it is met; a slice's spare places count too). A statement '..UptoSaid' is the law's where the arguments, and the package variables that the reading takes, are together of bulk at most 1048576: NARROWER than '..Said'. Prove '..Said' where nothing that the law and all that it calls make is longer than what came in: it says more and counts as full. Else prove '..UptoSaid'. A law counts once. -/
mutual
def uptoBulk {H : Type} : DataW H → Nat
  | .lit (.string bytes) => bytes.length + 1
  | .lit _ => 1
  | .nil => 1
  | .ptr d => uptoBulk d + 1
  | .slice elems spare => uptoBulkAll elems + uptoBulkAll spare + 1
  | .agg parts => uptoBulkAll parts + 1
  | .iface _ d => uptoBulk d + 1
  | .map entries => uptoBulkEntries entries + 1
  | .held _ => 1
def uptoBulkAll {H : Type} : List (DataW H) → Nat
  | [] => 0
  | d :: r => uptoBulk d + uptoBulkAll r
def uptoBulkEntries {H : Type} : List (Lit × DataW H) → Nat
  | [] => 0
  | x :: r => uptoBulkEntry x + uptoBulkEntries r
def uptoBulkEntry {H : Type} : Lit × DataW H → Nat
  | (.string bytes, d) => bytes.length + uptoBulk d + 1
  | (_, d) => uptoBulk d + 1
 end
def uptoSmall : (H : Type) → List (DataW H) → Bool := fun _ ds => decide (uptoBulkAll ds ≤ 1048576)
def OpenSpec.upto (s : _root_.Go.ChangeSpec) : _root_.Go.OpenSpec := { _root_.Go.OpenSpec.ofChange s with cond := some uptoSmall }

/-- 'argosylaw12.LeadPlays', WHERE WHAT IT READS IS OF BULK AT MOST 1048576: true; the input reads as it did. -/
def leadPlaysUptoRow : OpenClaim := { program := "ytakjmdeckngnlaa", sum := "40aa67272c36f8ca31b5fe05b7d1eb52a56b8a5edd7d06c0d720b3065cd5e852", func := "argosy/argosylaw12.LeadPlays", spec := "leadPlays", apart := false, narrowed := true }
def LeadPlaysUptoSaid : Prop := leadPlaysUptoRow.holds Try.pinned (OpenSpec.upto leadPlaysSpec)

/-- 'argosylaw12.LeadFull', WHERE WHAT IT READS IS OF BULK AT MOST 1048576: true; the input reads as it did. -/
def leadFullUptoRow : OpenClaim := { program := "ytakjmdeckngnlaa", sum := "40aa67272c36f8ca31b5fe05b7d1eb52a56b8a5edd7d06c0d720b3065cd5e852", func := "argosy/argosylaw12.LeadFull", spec := "leadFull", apart := false, narrowed := true }
def LeadFullUptoSaid : Prop := leadFullUptoRow.holds Try.pinned (OpenSpec.upto leadFullSpec)

/-- 'argosylaw12.LeadOnce', WHERE WHAT IT READS IS OF BULK AT MOST 1048576: true; the input reads as it did. -/
def leadOnceUptoRow : OpenClaim := { program := "ytakjmdeckngnlaa", sum := "40aa67272c36f8ca31b5fe05b7d1eb52a56b8a5edd7d06c0d720b3065cd5e852", func := "argosy/argosylaw12.LeadOnce", spec := "leadOnce", apart := false, narrowed := true }
def LeadOnceUptoSaid : Prop := leadOnceUptoRow.holds Try.pinned (OpenSpec.upto leadOnceSpec)

/-- 'argosylaw12.LeadAgrees', WHERE WHAT IT READS IS OF BULK AT MOST 1048576: true; the input reads as it did. -/
def leadAgreesUptoRow : OpenClaim := { program := "ytakjmdeckngnlaa", sum := "40aa67272c36f8ca31b5fe05b7d1eb52a56b8a5edd7d06c0d720b3065cd5e852", func := "argosy/argosylaw12.LeadAgrees", spec := "leadAgrees", inPlace := ["slices.overlaps[argosy/btree.item[int, argosy/api.Vote[int]]]", "slices.overlaps[*argosy/btree.node[int, argosy/api.Vote[int]]]"], unfollowed := true, recurses := true, apart := false, narrowed := true }
def LeadAgreesUptoSaid : Prop := leadAgreesUptoRow.holds Try.pinned (OpenSpec.upto leadAgreesSpec)

/-- 'argosylaw12.LeadLater', WHERE WHAT IT READS IS OF BULK AT MOST 1048576: true; the input reads as it did. -/
def leadLaterUptoRow : OpenClaim := { program := "ytakjmdeckngnlaa", sum := "40aa67272c36f8ca31b5fe05b7d1eb52a56b8a5edd7d06c0d720b3065cd5e852", func := "argosy/argosylaw12.LeadLater", spec := "leadLater", inPlace := ["slices.overlaps[argosy/btree.item[int, argosy/api.Vote[string]]]", "slices.overlaps[*argosy/btree.node[int, argosy/api.Vote[string]]]"], unfollowed := true, recurses := true, apart := false, narrowed := true }
def LeadLaterUptoSaid : Prop := leadLaterUptoRow.holds Try.pinned (OpenSpec.upto leadLaterSpec)

end Rows
end Go.Proofs.Ytakjmdeckngnlaa
