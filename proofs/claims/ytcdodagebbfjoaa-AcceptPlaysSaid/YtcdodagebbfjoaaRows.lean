/-
  No cell of these rows narrows 'for every input' (looked for: loops, veiled, ifaces, maps, wideKeys, modest, calm, conditions, laid).
  DERIVED. THE GIVEN ROWS OF THIS SEAT. 4 by the template 'for every input the law returns true; each argument reads behind the call as it read before'; 0 by the template 'total and deterministic' (their statements: YtcdodagebbfjoaaTotals.lean).
  GIVEN WITH THE SEED: the statements are not yours to turn. If you find one false, say at which input.
  Laid BY PROGRAM, IN A SANDBOX (cutbox-rows.mjs): the forced cells as the released guide's own fill.sh prints them over the translation 7674542e8f9c0a70… (all of the seat's roots in one cut). By AI agents, Wed Nov 11 2026. No macro, syntax, notation, axiom, sorry.
-/
import Derived.Test.YtcdodagebbfjoaaChecked
import GoSem.Claim
import GoSem.ClaimJoined
import GoSem.ClaimMapViews
import Derived.JoinedTies
import Derived.KernelRfl
namespace Go.Proofs.Ytcdodagebbfjoaa
/- THE CELL 'sum', in the pinned program and in every row, IS THE sha256 OF THE DUMP (.gsa) THAT YtcdodagebbfjoaaProg.lean LOADS. Nothing in Lean hashes anything: it is a label: what it is worth is what the hold of that sum in a sandbox is worth. -/
noncomputable def Try.pinned : Pinned := { name := "ytcdodagebbfjoaa", sum := "7674542e8f9c0a70e63381d9ff75ed9893143d4dc7b486514f92f75bd8613c5c", checked := Try.checked }
namespace Rows
def none {H : Type} : Left H := { results := [], args := [] }

/-- 'argosylaw11.AcceptTells': WHATEVER THE INPUT: true; the input reads as it did. -/
def acceptTellsSpec : ChangeSpec := { name := "acceptTells", fn := fun _ => fun
  | [d1, d2] => { results := [.lit (.bool true)], args := [d1, d2] }
  | _ => none }
def acceptTellsRow : OpenClaim := { program := "ytcdodagebbfjoaa", sum := "7674542e8f9c0a70e63381d9ff75ed9893143d4dc7b486514f92f75bd8613c5c", func := "argosy/argosylaw11.AcceptTells", spec := "acceptTells", inPlace := ["slices.overlaps[argosy/btree.item[int, argosy/api.Vote[string]]]", "slices.overlaps[*argosy/btree.node[int, argosy/api.Vote[string]]]"], unfollowed := true, recurses := true, apart := false }
def AcceptTellsSaid : Prop := acceptTellsRow.holds Try.pinned (OpenSpec.ofChange acceptTellsSpec)

/-- ITS FALSE NEIGHBOUR: 'it returns false'. Refute it at one input. -/
def acceptTellsWrong : ChangeSpec := { name := "acceptTells", fn := fun _ => fun
  | [d1, d2] => { results := [.lit (.bool false)], args := [d1, d2] }
  | _ => none }
def AcceptTellsWrongFalsely : Prop := acceptTellsRow.holds Try.pinned (OpenSpec.ofChange acceptTellsWrong)

/-- 'argosylaw11.AcceptMajorities': WHATEVER THE INPUT: true; the input reads as it did. -/
def acceptMajoritiesSpec : ChangeSpec := { name := "acceptMajorities", fn := fun _ => fun
  | [d1, d2, d3] => { results := [.lit (.bool true)], args := [d1, d2, d3] }
  | _ => none }
def acceptMajoritiesRow : OpenClaim := { program := "ytcdodagebbfjoaa", sum := "7674542e8f9c0a70e63381d9ff75ed9893143d4dc7b486514f92f75bd8613c5c", func := "argosy/argosylaw11.AcceptMajorities", spec := "acceptMajorities", inPlace := ["slices.overlaps[argosy/btree.item[int, argosy/api.Vote[string]]]", "slices.overlaps[*argosy/btree.node[int, argosy/api.Vote[string]]]"], unfollowed := true, recurses := true, apart := false }
def AcceptMajoritiesSaid : Prop := acceptMajoritiesRow.holds Try.pinned (OpenSpec.ofChange acceptMajoritiesSpec)

/-- ITS FALSE NEIGHBOUR: 'it returns false'. Refute it at one input. -/
def acceptMajoritiesWrong : ChangeSpec := { name := "acceptMajorities", fn := fun _ => fun
  | [d1, d2, d3] => { results := [.lit (.bool false)], args := [d1, d2, d3] }
  | _ => none }
def AcceptMajoritiesWrongFalsely : Prop := acceptMajoritiesRow.holds Try.pinned (OpenSpec.ofChange acceptMajoritiesWrong)

/-- 'argosylaw11.AcceptPlays': WHATEVER THE INPUT: true; the input reads as it did. -/
def acceptPlaysSpec : ChangeSpec := { name := "acceptPlays", fn := fun _ => fun
  | [d] => { results := [.lit (.bool true)], args := [d] }
  | _ => none }
def acceptPlaysRow : OpenClaim := { program := "ytcdodagebbfjoaa", sum := "7674542e8f9c0a70e63381d9ff75ed9893143d4dc7b486514f92f75bd8613c5c", func := "argosy/argosylaw11.AcceptPlays", spec := "acceptPlays", inPlace := ["slices.overlaps[argosy/btree.item[int, argosy/api.Vote[string]]]", "slices.overlaps[*argosy/btree.node[int, argosy/api.Vote[string]]]"], unfollowed := true, recurses := true, apart := false }
def AcceptPlaysSaid : Prop := acceptPlaysRow.holds Try.pinned (OpenSpec.ofChange acceptPlaysSpec)

/-- ITS FALSE NEIGHBOUR: 'it returns false'. Refute it at one input. -/
def acceptPlaysWrong : ChangeSpec := { name := "acceptPlays", fn := fun _ => fun
  | [d] => { results := [.lit (.bool false)], args := [d] }
  | _ => none }
def AcceptPlaysWrongFalsely : Prop := acceptPlaysRow.holds Try.pinned (OpenSpec.ofChange acceptPlaysWrong)

/-- 'argosylaw11.AcceptRises': WHATEVER THE INPUT: true; the input reads as it did. -/
def acceptRisesSpec : ChangeSpec := { name := "acceptRises", fn := fun _ => fun
  | [d] => { results := [.lit (.bool true)], args := [d] }
  | _ => none }
def acceptRisesRow : OpenClaim := { program := "ytcdodagebbfjoaa", sum := "7674542e8f9c0a70e63381d9ff75ed9893143d4dc7b486514f92f75bd8613c5c", func := "argosy/argosylaw11.AcceptRises", spec := "acceptRises", inPlace := ["slices.overlaps[argosy/btree.item[int, argosy/api.Vote[string]]]", "slices.overlaps[*argosy/btree.node[int, argosy/api.Vote[string]]]", "slices.overlaps[argosy/btree.item[int, argosy/api.Vote[int]]]", "slices.overlaps[*argosy/btree.node[int, argosy/api.Vote[int]]]"], unfollowed := true, recurses := true, apart := false }
def AcceptRisesSaid : Prop := acceptRisesRow.holds Try.pinned (OpenSpec.ofChange acceptRisesSpec)

/-- ITS FALSE NEIGHBOUR: 'it returns false'. Refute it at one input. -/
def acceptRisesWrong : ChangeSpec := { name := "acceptRises", fn := fun _ => fun
  | [d] => { results := [.lit (.bool false)], args := [d] }
  | _ => none }
def AcceptRisesWrongFalsely : Prop := acceptRisesRow.holds Try.pinned (OpenSpec.ofChange acceptRisesWrong)

/- THE SECOND FORM. 'bulk': how many values and letters a reading holds, each counted each time it is reached (what is shared counts as often as it is met; a slice's spare places count too). A statement '..UptoSaid' is the law's where the arguments, and the package variables that the reading takes, are together of bulk at most 1048576: NARROWER than '..Said'. Prove '..Said' where nothing that the law and all that it calls make is longer than what came in: it says more and counts as full. Else prove '..UptoSaid'. A law counts once. -/
mutual
def uptoBulk {H : Type} : DataW H → Nat
  | .lit (.string bytes) => bytes.length + 1
  | .lit _ => 1
  | .nil => 1
  | .ptr d => uptoBulk d + 1
  | .slice elems spare => uptoBulkAll elems + uptoBulkAll spare + 1
  | .agg parts => uptoBulkAll parts + 1
  | .iface _ d => uptoBulk d + 1
  | .map entries => uptoBulkEntries entries + 1
  | .held _ => 1
def uptoBulkAll {H : Type} : List (DataW H) → Nat
  | [] => 0
  | d :: r => uptoBulk d + uptoBulkAll r
def uptoBulkEntries {H : Type} : List (Lit × DataW H) → Nat
  | [] => 0
  | x :: r => uptoBulkEntry x + uptoBulkEntries r
def uptoBulkEntry {H : Type} : Lit × DataW H → Nat
  | (.string bytes, d) => bytes.length + uptoBulk d + 1
  | (_, d) => uptoBulk d + 1
 end
def uptoSmall : (H : Type) → List (DataW H) → Bool := fun _ ds => decide (uptoBulkAll ds ≤ 1048576)
def OpenSpec.upto (s : _root_.Go.ChangeSpec) : _root_.Go.OpenSpec := { _root_.Go.OpenSpec.ofChange s with cond := some uptoSmall }

/-- 'argosylaw11.AcceptTells', WHERE WHAT IT READS IS OF BULK AT MOST 1048576: true; the input reads as it did. -/
def acceptTellsUptoRow : OpenClaim := { program := "ytcdodagebbfjoaa", sum := "7674542e8f9c0a70e63381d9ff75ed9893143d4dc7b486514f92f75bd8613c5c", func := "argosy/argosylaw11.AcceptTells", spec := "acceptTells", inPlace := ["slices.overlaps[argosy/btree.item[int, argosy/api.Vote[string]]]", "slices.overlaps[*argosy/btree.node[int, argosy/api.Vote[string]]]"], unfollowed := true, recurses := true, apart := false, narrowed := true }
def AcceptTellsUptoSaid : Prop := acceptTellsUptoRow.holds Try.pinned (OpenSpec.upto acceptTellsSpec)

/-- 'argosylaw11.AcceptMajorities', WHERE WHAT IT READS IS OF BULK AT MOST 1048576: true; the input reads as it did. -/
def acceptMajoritiesUptoRow : OpenClaim := { program := "ytcdodagebbfjoaa", sum := "7674542e8f9c0a70e63381d9ff75ed9893143d4dc7b486514f92f75bd8613c5c", func := "argosy/argosylaw11.AcceptMajorities", spec := "acceptMajorities", inPlace := ["slices.overlaps[argosy/btree.item[int, argosy/api.Vote[string]]]", "slices.overlaps[*argosy/btree.node[int, argosy/api.Vote[string]]]"], unfollowed := true, recurses := true, apart := false, narrowed := true }
def AcceptMajoritiesUptoSaid : Prop := acceptMajoritiesUptoRow.holds Try.pinned (OpenSpec.upto acceptMajoritiesSpec)

/-- 'argosylaw11.AcceptPlays', WHERE WHAT IT READS IS OF BULK AT MOST 1048576: true; the input reads as it did. -/
def acceptPlaysUptoRow : OpenClaim := { program := "ytcdodagebbfjoaa", sum := "7674542e8f9c0a70e63381d9ff75ed9893143d4dc7b486514f92f75bd8613c5c", func := "argosy/argosylaw11.AcceptPlays", spec := "acceptPlays", inPlace := ["slices.overlaps[argosy/btree.item[int, argosy/api.Vote[string]]]", "slices.overlaps[*argosy/btree.node[int, argosy/api.Vote[string]]]"], unfollowed := true, recurses := true, apart := false, narrowed := true }
def AcceptPlaysUptoSaid : Prop := acceptPlaysUptoRow.holds Try.pinned (OpenSpec.upto acceptPlaysSpec)

/-- 'argosylaw11.AcceptRises', WHERE WHAT IT READS IS OF BULK AT MOST 1048576: true; the input reads as it did. -/
def acceptRisesUptoRow : OpenClaim := { program := "ytcdodagebbfjoaa", sum := "7674542e8f9c0a70e63381d9ff75ed9893143d4dc7b486514f92f75bd8613c5c", func := "argosy/argosylaw11.AcceptRises", spec := "acceptRises", inPlace := ["slices.overlaps[argosy/btree.item[int, argosy/api.Vote[string]]]", "slices.overlaps[*argosy/btree.node[int, argosy/api.Vote[string]]]", "slices.overlaps[argosy/btree.item[int, argosy/api.Vote[int]]]", "slices.overlaps[*argosy/btree.node[int, argosy/api.Vote[int]]]"], unfollowed := true, recurses := true, apart := false, narrowed := true }
def AcceptRisesUptoSaid : Prop := acceptRisesUptoRow.holds Try.pinned (OpenSpec.upto acceptRisesSpec)

end Rows
end Go.Proofs.Ytcdodagebbfjoaa
