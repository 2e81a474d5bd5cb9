/-
  No cell of these rows narrows 'for every input' (looked for: loops, veiled, ifaces, maps, wideKeys, modest, calm, conditions, laid).
  DERIVED. THE GIVEN ROWS OF THIS SEAT. 5 by the template 'for every input the law returns true; each argument reads behind the call as it read before'; 0 by the template 'total and deterministic' (their statements: YtnfbjidpiglabaaTotals.lean).
  GIVEN WITH THE SEED: the statements are not yours to turn. If you find one false, say at which input.
  Laid BY PROGRAM, IN A SANDBOX (cutbox-rows.mjs): the forced cells as the released guide's own fill.sh prints them over the translation 481fc731ee6b4400… (all of the seat's roots in one cut). By AI agents, Wed Nov 11 2026. No macro, syntax, notation, axiom, sorry.
-/
import Derived.Test.YtnfbjidpiglabaaChecked
import GoSem.Claim
import GoSem.ClaimJoined
import GoSem.ClaimMapViews
import Derived.JoinedTies
import Derived.KernelRfl
namespace Go.Proofs.Ytnfbjidpiglabaa
/- THE CELL 'sum', in the pinned program and in every row, IS THE sha256 OF THE DUMP (.gsa) THAT YtnfbjidpiglabaaProg.lean LOADS. Nothing in Lean hashes anything: it is a label: what it is worth is what the hold of that sum in a sandbox is worth. -/
noncomputable def Try.pinned : Pinned := { name := "ytnfbjidpiglabaa", sum := "481fc731ee6b44009fbb38e63c78b66d1ea8be28fb753f6d2f88dec3bf4bb5b6", checked := Try.checked }
namespace Rows
def none {H : Type} : Left H := { results := [], args := [] }

/-- 'argosylaw06.StoreLast': WHATEVER THE INPUT: true; the input reads as it did. -/
def storeLastSpec : ChangeSpec := { name := "storeLast", fn := fun _ => fun
  | [d1, d2, d3] => { results := [.lit (.bool true)], args := [d1, d2, d3] }
  | _ => none }
def storeLastRow : OpenClaim := { program := "ytnfbjidpiglabaa", sum := "481fc731ee6b44009fbb38e63c78b66d1ea8be28fb753f6d2f88dec3bf4bb5b6", func := "argosy/argosylaw06.StoreLast", spec := "storeLast", inPlace := ["slices.overlaps[argosy/btree.item[string, argosy/api.Record]]", "slices.overlaps[*argosy/btree.node[string, argosy/api.Record]]"], unfollowed := true, recurses := true, apart := false }
def StoreLastSaid : Prop := storeLastRow.holds Try.pinned (OpenSpec.ofChange storeLastSpec)

/-- ITS FALSE NEIGHBOUR: 'it returns false'. Refute it at one input. -/
def storeLastWrong : ChangeSpec := { name := "storeLast", fn := fun _ => fun
  | [d1, d2, d3] => { results := [.lit (.bool false)], args := [d1, d2, d3] }
  | _ => none }
def StoreLastWrongFalsely : Prop := storeLastRow.holds Try.pinned (OpenSpec.ofChange storeLastWrong)

/-- 'argosylaw06.StoreMoves': WHATEVER THE INPUT: true; the input reads as it did. -/
def storeMovesSpec : ChangeSpec := { name := "storeMoves", fn := fun _ => fun
  | [d1, d2, d3] => { results := [.lit (.bool true)], args := [d1, d2, d3] }
  | _ => none }
def storeMovesRow : OpenClaim := { program := "ytnfbjidpiglabaa", sum := "481fc731ee6b44009fbb38e63c78b66d1ea8be28fb753f6d2f88dec3bf4bb5b6", func := "argosy/argosylaw06.StoreMoves", spec := "storeMoves", inPlace := ["slices.overlaps[argosy/btree.item[string, argosy/api.Record]]", "slices.overlaps[*argosy/btree.node[string, argosy/api.Record]]"], unfollowed := true, recurses := true, apart := false }
def StoreMovesSaid : Prop := storeMovesRow.holds Try.pinned (OpenSpec.ofChange storeMovesSpec)

/-- ITS FALSE NEIGHBOUR: 'it returns false'. Refute it at one input. -/
def storeMovesWrong : ChangeSpec := { name := "storeMoves", fn := fun _ => fun
  | [d1, d2, d3] => { results := [.lit (.bool false)], args := [d1, d2, d3] }
  | _ => none }
def StoreMovesWrongFalsely : Prop := storeMovesRow.holds Try.pinned (OpenSpec.ofChange storeMovesWrong)

/-- 'argosylaw06.StorePages': WHATEVER THE INPUT: true; the input reads as it did. -/
def storePagesSpec : ChangeSpec := { name := "storePages", fn := fun _ => fun
  | [d1, d2] => { results := [.lit (.bool true)], args := [d1, d2] }
  | _ => none }
def storePagesRow : OpenClaim := { program := "ytnfbjidpiglabaa", sum := "481fc731ee6b44009fbb38e63c78b66d1ea8be28fb753f6d2f88dec3bf4bb5b6", func := "argosy/argosylaw06.StorePages", spec := "storePages", inPlace := ["slices.overlaps[argosy/btree.item[string, argosy/api.Record]]", "slices.overlaps[*argosy/btree.node[string, argosy/api.Record]]"], unfollowed := true, recurses := true, apart := false }
def StorePagesSaid : Prop := storePagesRow.holds Try.pinned (OpenSpec.ofChange storePagesSpec)

/-- ITS FALSE NEIGHBOUR: 'it returns false'. Refute it at one input. -/
def storePagesWrong : ChangeSpec := { name := "storePages", fn := fun _ => fun
  | [d1, d2] => { results := [.lit (.bool false)], args := [d1, d2] }
  | _ => none }
def StorePagesWrongFalsely : Prop := storePagesRow.holds Try.pinned (OpenSpec.ofChange storePagesWrong)

/-- 'argosylaw06.StorePlays': WHATEVER THE INPUT: true; the input reads as it did. -/
def storePlaysSpec : ChangeSpec := { name := "storePlays", fn := fun _ => fun
  | [d1, d2] => { results := [.lit (.bool true)], args := [d1, d2] }
  | _ => none }
def storePlaysRow : OpenClaim := { program := "ytnfbjidpiglabaa", sum := "481fc731ee6b44009fbb38e63c78b66d1ea8be28fb753f6d2f88dec3bf4bb5b6", func := "argosy/argosylaw06.StorePlays", spec := "storePlays", inPlace := ["slices.overlaps[argosy/btree.item[string, argosy/api.Record]]", "slices.overlaps[*argosy/btree.node[string, argosy/api.Record]]"], unfollowed := true, recurses := true, apart := false }
def StorePlaysSaid : Prop := storePlaysRow.holds Try.pinned (OpenSpec.ofChange storePlaysSpec)

/-- ITS FALSE NEIGHBOUR: 'it returns false'. Refute it at one input. -/
def storePlaysWrong : ChangeSpec := { name := "storePlays", fn := fun _ => fun
  | [d1, d2] => { results := [.lit (.bool false)], args := [d1, d2] }
  | _ => none }
def StorePlaysWrongFalsely : Prop := storePlaysRow.holds Try.pinned (OpenSpec.ofChange storePlaysWrong)

/-- 'argosylaw06.StoreRestores': WHATEVER THE INPUT: true; the input reads as it did. -/
def storeRestoresSpec : ChangeSpec := { name := "storeRestores", fn := fun _ => fun
  | [d1, d2] => { results := [.lit (.bool true)], args := [d1, d2] }
  | _ => none }
def storeRestoresRow : OpenClaim := { program := "ytnfbjidpiglabaa", sum := "481fc731ee6b44009fbb38e63c78b66d1ea8be28fb753f6d2f88dec3bf4bb5b6", func := "argosy/argosylaw06.StoreRestores", spec := "storeRestores", inPlace := ["slices.overlaps[argosy/btree.item[string, argosy/api.Record]]", "slices.overlaps[*argosy/btree.node[string, argosy/api.Record]]"], unfollowed := true, recurses := true, apart := false }
def StoreRestoresSaid : Prop := storeRestoresRow.holds Try.pinned (OpenSpec.ofChange storeRestoresSpec)

/-- ITS FALSE NEIGHBOUR: 'it returns false'. Refute it at one input. -/
def storeRestoresWrong : ChangeSpec := { name := "storeRestores", fn := fun _ => fun
  | [d1, d2] => { results := [.lit (.bool false)], args := [d1, d2] }
  | _ => none }
def StoreRestoresWrongFalsely : Prop := storeRestoresRow.holds Try.pinned (OpenSpec.ofChange storeRestoresWrong)

/- THE SECOND FORM. 'bulk': how many values and letters a reading holds, each counted each time it is reached (what is shared counts as often as it is met; a slice's spare places count too). A statement '..UptoSaid' is the law's where the arguments, and the package variables that the reading takes, are together of bulk at most 1048576: NARROWER than '..Said'. Prove '..Said' where nothing that the law and all that it calls make is longer than what came in: it says more and counts as full. Else prove '..UptoSaid'. A law counts once. -/
mutual
def uptoBulk {H : Type} : DataW H → Nat
  | .lit (.string bytes) => bytes.length + 1
  | .lit _ => 1
  | .nil => 1
  | .ptr d => uptoBulk d + 1
  | .slice elems spare => uptoBulkAll elems + uptoBulkAll spare + 1
  | .agg parts => uptoBulkAll parts + 1
  | .iface _ d => uptoBulk d + 1
  | .map entries => uptoBulkEntries entries + 1
  | .held _ => 1
def uptoBulkAll {H : Type} : List (DataW H) → Nat
  | [] => 0
  | d :: r => uptoBulk d + uptoBulkAll r
def uptoBulkEntries {H : Type} : List (Lit × DataW H) → Nat
  | [] => 0
  | x :: r => uptoBulkEntry x + uptoBulkEntries r
def uptoBulkEntry {H : Type} : Lit × DataW H → Nat
  | (.string bytes, d) => bytes.length + uptoBulk d + 1
  | (_, d) => uptoBulk d + 1
 end
def uptoSmall : (H : Type) → List (DataW H) → Bool := fun _ ds => decide (uptoBulkAll ds ≤ 1048576)
def OpenSpec.upto (s : _root_.Go.ChangeSpec) : _root_.Go.OpenSpec := { _root_.Go.OpenSpec.ofChange s with cond := some uptoSmall }

/-- 'argosylaw06.StoreLast', WHERE WHAT IT READS IS OF BULK AT MOST 1048576: true; the input reads as it did. -/
def storeLastUptoRow : OpenClaim := { program := "ytnfbjidpiglabaa", sum := "481fc731ee6b44009fbb38e63c78b66d1ea8be28fb753f6d2f88dec3bf4bb5b6", func := "argosy/argosylaw06.StoreLast", spec := "storeLast", inPlace := ["slices.overlaps[argosy/btree.item[string, argosy/api.Record]]", "slices.overlaps[*argosy/btree.node[string, argosy/api.Record]]"], unfollowed := true, recurses := true, apart := false, narrowed := true }
def StoreLastUptoSaid : Prop := storeLastUptoRow.holds Try.pinned (OpenSpec.upto storeLastSpec)

/-- 'argosylaw06.StoreMoves', WHERE WHAT IT READS IS OF BULK AT MOST 1048576: true; the input reads as it did. -/
def storeMovesUptoRow : OpenClaim := { program := "ytnfbjidpiglabaa", sum := "481fc731ee6b44009fbb38e63c78b66d1ea8be28fb753f6d2f88dec3bf4bb5b6", func := "argosy/argosylaw06.StoreMoves", spec := "storeMoves", inPlace := ["slices.overlaps[argosy/btree.item[string, argosy/api.Record]]", "slices.overlaps[*argosy/btree.node[string, argosy/api.Record]]"], unfollowed := true, recurses := true, apart := false, narrowed := true }
def StoreMovesUptoSaid : Prop := storeMovesUptoRow.holds Try.pinned (OpenSpec.upto storeMovesSpec)

/-- 'argosylaw06.StorePages', WHERE WHAT IT READS IS OF BULK AT MOST 1048576: true; the input reads as it did. -/
def storePagesUptoRow : OpenClaim := { program := "ytnfbjidpiglabaa", sum := "481fc731ee6b44009fbb38e63c78b66d1ea8be28fb753f6d2f88dec3bf4bb5b6", func := "argosy/argosylaw06.StorePages", spec := "storePages", inPlace := ["slices.overlaps[argosy/btree.item[string, argosy/api.Record]]", "slices.overlaps[*argosy/btree.node[string, argosy/api.Record]]"], unfollowed := true, recurses := true, apart := false, narrowed := true }
def StorePagesUptoSaid : Prop := storePagesUptoRow.holds Try.pinned (OpenSpec.upto storePagesSpec)

/-- 'argosylaw06.StorePlays', WHERE WHAT IT READS IS OF BULK AT MOST 1048576: true; the input reads as it did. -/
def storePlaysUptoRow : OpenClaim := { program := "ytnfbjidpiglabaa", sum := "481fc731ee6b44009fbb38e63c78b66d1ea8be28fb753f6d2f88dec3bf4bb5b6", func := "argosy/argosylaw06.StorePlays", spec := "storePlays", inPlace := ["slices.overlaps[argosy/btree.item[string, argosy/api.Record]]", "slices.overlaps[*argosy/btree.node[string, argosy/api.Record]]"], unfollowed := true, recurses := true, apart := false, narrowed := true }
def StorePlaysUptoSaid : Prop := storePlaysUptoRow.holds Try.pinned (OpenSpec.upto storePlaysSpec)

/-- 'argosylaw06.StoreRestores', WHERE WHAT IT READS IS OF BULK AT MOST 1048576: true; the input reads as it did. -/
def storeRestoresUptoRow : OpenClaim := { program := "ytnfbjidpiglabaa", sum := "481fc731ee6b44009fbb38e63c78b66d1ea8be28fb753f6d2f88dec3bf4bb5b6", func := "argosy/argosylaw06.StoreRestores", spec := "storeRestores", inPlace := ["slices.overlaps[argosy/btree.item[string, argosy/api.Record]]", "slices.overlaps[*argosy/btree.node[string, argosy/api.Record]]"], unfollowed := true, recurses := true, apart := false, narrowed := true }
def StoreRestoresUptoSaid : Prop := storeRestoresUptoRow.holds Try.pinned (OpenSpec.upto storeRestoresSpec)

end Rows
end Go.Proofs.Ytnfbjidpiglabaa
