/-
  No cell of these rows narrows 'for every input' (looked for: loops, veiled, ifaces, maps, wideKeys, modest, calm, conditions, laid).
  DERIVED. THE GIVEN ROWS OF THIS SEAT. 5 by the template 'for every input the law returns true; each argument reads behind the call as it read before'; 0 by the template 'total and deterministic' (their statements: YtjoigmbapnjhhaaTotals.lean).
  GIVEN WITH THE SEED: the statements are not yours to turn. If you find one false, say at which input.
  Laid BY PROGRAM, IN A SANDBOX (cutbox-rows.mjs): the forced cells as the released guide's own fill.sh prints them over the translation bb975a1090980b5f… (all of the seat's roots in one cut). By AI agents, Wed Nov 11 2026. No macro, syntax, notation, axiom, sorry.
-/
import Derived.Test.YtjoigmbapnjhhaaChecked
import GoSem.Claim
import GoSem.ClaimJoined
import GoSem.ClaimMapViews
import Derived.JoinedTies
import Derived.KernelRfl
namespace Go.Proofs.Ytjoigmbapnjhhaa
/- THE CELL 'sum', in the pinned program and in every row, IS THE sha256 OF THE DUMP (.gsa) THAT YtjoigmbapnjhhaaProg.lean LOADS. Nothing in Lean hashes anything: it is a label: what it is worth is what the hold of that sum in a sandbox is worth. -/
noncomputable def Try.pinned : Pinned := { name := "ytjoigmbapnjhhaa", sum := "bb975a1090980b5f41e86b9e16979c141ed9fad531198453fa2d775c43e4bad5", checked := Try.checked }
namespace Rows
def none {H : Type} : Left H := { results := [], args := [] }

/-- 'argosylaw14.FilterOnce': WHATEVER THE INPUT: true; the input reads as it did. -/
def filterOnceSpec : ChangeSpec := { name := "filterOnce", fn := fun _ => fun
  | [d1, d2] => { results := [.lit (.bool true)], args := [d1, d2] }
  | _ => none }
def filterOnceRow : OpenClaim := { program := "ytjoigmbapnjhhaa", sum := "bb975a1090980b5f41e86b9e16979c141ed9fad531198453fa2d775c43e4bad5", func := "argosy/argosylaw14.FilterOnce", spec := "filterOnce", recurses := true, plainKeys := false, apart := false }
def FilterOnceSaid : Prop := filterOnceRow.holds Try.pinned (OpenSpec.ofChange filterOnceSpec)

/-- ITS FALSE NEIGHBOUR: 'it returns false'. Refute it at one input. -/
def filterOnceWrong : ChangeSpec := { name := "filterOnce", fn := fun _ => fun
  | [d1, d2] => { results := [.lit (.bool false)], args := [d1, d2] }
  | _ => none }
def FilterOnceWrongFalsely : Prop := filterOnceRow.holds Try.pinned (OpenSpec.ofChange filterOnceWrong)

/-- 'argosylaw14.FilterItems': WHATEVER THE INPUT: true; the input reads as it did. -/
def filterItemsSpec : ChangeSpec := { name := "filterItems", fn := fun _ => fun
  | [d1, d2] => { results := [.lit (.bool true)], args := [d1, d2] }
  | _ => none }
def filterItemsRow : OpenClaim := { program := "ytjoigmbapnjhhaa", sum := "bb975a1090980b5f41e86b9e16979c141ed9fad531198453fa2d775c43e4bad5", func := "argosy/argosylaw14.FilterItems", spec := "filterItems", recurses := true, plainKeys := false, apart := false }
def FilterItemsSaid : Prop := filterItemsRow.holds Try.pinned (OpenSpec.ofChange filterItemsSpec)

/-- ITS FALSE NEIGHBOUR: 'it returns false'. Refute it at one input. -/
def filterItemsWrong : ChangeSpec := { name := "filterItems", fn := fun _ => fun
  | [d1, d2] => { results := [.lit (.bool false)], args := [d1, d2] }
  | _ => none }
def FilterItemsWrongFalsely : Prop := filterItemsRow.holds Try.pinned (OpenSpec.ofChange filterItemsWrong)

/-- 'argosylaw14.FilterOrders': WHATEVER THE INPUT: true; the input reads as it did. -/
def filterOrdersSpec : ChangeSpec := { name := "filterOrders", fn := fun _ => fun
  | [d] => { results := [.lit (.bool true)], args := [d] }
  | _ => none }
def filterOrdersRow : OpenClaim := { program := "ytjoigmbapnjhhaa", sum := "bb975a1090980b5f41e86b9e16979c141ed9fad531198453fa2d775c43e4bad5", func := "argosy/argosylaw14.FilterOrders", spec := "filterOrders", recurses := true, plainKeys := false, apart := false }
def FilterOrdersSaid : Prop := filterOrdersRow.holds Try.pinned (OpenSpec.ofChange filterOrdersSpec)

/-- ITS FALSE NEIGHBOUR: 'it returns false'. Refute it at one input. -/
def filterOrdersWrong : ChangeSpec := { name := "filterOrders", fn := fun _ => fun
  | [d] => { results := [.lit (.bool false)], args := [d] }
  | _ => none }
def FilterOrdersWrongFalsely : Prop := filterOrdersRow.holds Try.pinned (OpenSpec.ofChange filterOrdersWrong)

/-- 'argosylaw14.FilterPlaces': WHATEVER THE INPUT: true; the input reads as it did. -/
def filterPlacesSpec : ChangeSpec := { name := "filterPlaces", fn := fun _ => fun
  | [d1, d2, d3] => { results := [.lit (.bool true)], args := [d1, d2, d3] }
  | _ => none }
def filterPlacesRow : OpenClaim := { program := "ytjoigmbapnjhhaa", sum := "bb975a1090980b5f41e86b9e16979c141ed9fad531198453fa2d775c43e4bad5", func := "argosy/argosylaw14.FilterPlaces", spec := "filterPlaces", unfollowed := true, recurses := true, plainKeys := false, apart := false }
def FilterPlacesSaid : Prop := filterPlacesRow.holds Try.pinned (OpenSpec.ofChange filterPlacesSpec)

/-- ITS FALSE NEIGHBOUR: 'it returns false'. Refute it at one input. -/
def filterPlacesWrong : ChangeSpec := { name := "filterPlaces", fn := fun _ => fun
  | [d1, d2, d3] => { results := [.lit (.bool false)], args := [d1, d2, d3] }
  | _ => none }
def FilterPlacesWrongFalsely : Prop := filterPlacesRow.holds Try.pinned (OpenSpec.ofChange filterPlacesWrong)

/-- 'argosylaw14.FilterRestores': WHATEVER THE INPUT: true; the input reads as it did. -/
def filterRestoresSpec : ChangeSpec := { name := "filterRestores", fn := fun _ => fun
  | [d1, d2, d3] => { results := [.lit (.bool true)], args := [d1, d2, d3] }
  | _ => none }
def filterRestoresRow : OpenClaim := { program := "ytjoigmbapnjhhaa", sum := "bb975a1090980b5f41e86b9e16979c141ed9fad531198453fa2d775c43e4bad5", func := "argosy/argosylaw14.FilterRestores", spec := "filterRestores", unfollowed := true, recurses := true, plainKeys := false, apart := false }
def FilterRestoresSaid : Prop := filterRestoresRow.holds Try.pinned (OpenSpec.ofChange filterRestoresSpec)

/-- ITS FALSE NEIGHBOUR: 'it returns false'. Refute it at one input. -/
def filterRestoresWrong : ChangeSpec := { name := "filterRestores", fn := fun _ => fun
  | [d1, d2, d3] => { results := [.lit (.bool false)], args := [d1, d2, d3] }
  | _ => none }
def FilterRestoresWrongFalsely : Prop := filterRestoresRow.holds Try.pinned (OpenSpec.ofChange filterRestoresWrong)

/- THE SECOND FORM. 'bulk': how many values and letters a reading holds, each counted each time it is reached (what is shared counts as often as it is met; a slice's spare places count too). A statement '..UptoSaid' is the law's where the arguments, and the package variables that the reading takes, are together of bulk at most 1048576: NARROWER than '..Said'. Prove '..Said' where nothing that the law and all that it calls make is longer than what came in: it says more and counts as full. Else prove '..UptoSaid'. A law counts once. -/
mutual
def uptoBulk {H : Type} : DataW H → Nat
  | .lit (.string bytes) => bytes.length + 1
  | .lit _ => 1
  | .nil => 1
  | .ptr d => uptoBulk d + 1
  | .slice elems spare => uptoBulkAll elems + uptoBulkAll spare + 1
  | .agg parts => uptoBulkAll parts + 1
  | .iface _ d => uptoBulk d + 1
  | .map entries => uptoBulkEntries entries + 1
  | .held _ => 1
def uptoBulkAll {H : Type} : List (DataW H) → Nat
  | [] => 0
  | d :: r => uptoBulk d + uptoBulkAll r
def uptoBulkEntries {H : Type} : List (Lit × DataW H) → Nat
  | [] => 0
  | x :: r => uptoBulkEntry x + uptoBulkEntries r
def uptoBulkEntry {H : Type} : Lit × DataW H → Nat
  | (.string bytes, d) => bytes.length + uptoBulk d + 1
  | (_, d) => uptoBulk d + 1
 end
def uptoSmall : (H : Type) → List (DataW H) → Bool := fun _ ds => decide (uptoBulkAll ds ≤ 1048576)
def OpenSpec.upto (s : _root_.Go.ChangeSpec) : _root_.Go.OpenSpec := { _root_.Go.OpenSpec.ofChange s with cond := some uptoSmall }

/-- 'argosylaw14.FilterOnce', WHERE WHAT IT READS IS OF BULK AT MOST 1048576: true; the input reads as it did. -/
def filterOnceUptoRow : OpenClaim := { program := "ytjoigmbapnjhhaa", sum := "bb975a1090980b5f41e86b9e16979c141ed9fad531198453fa2d775c43e4bad5", func := "argosy/argosylaw14.FilterOnce", spec := "filterOnce", recurses := true, plainKeys := false, apart := false, narrowed := true }
def FilterOnceUptoSaid : Prop := filterOnceUptoRow.holds Try.pinned (OpenSpec.upto filterOnceSpec)

/-- 'argosylaw14.FilterItems', WHERE WHAT IT READS IS OF BULK AT MOST 1048576: true; the input reads as it did. -/
def filterItemsUptoRow : OpenClaim := { program := "ytjoigmbapnjhhaa", sum := "bb975a1090980b5f41e86b9e16979c141ed9fad531198453fa2d775c43e4bad5", func := "argosy/argosylaw14.FilterItems", spec := "filterItems", recurses := true, plainKeys := false, apart := false, narrowed := true }
def FilterItemsUptoSaid : Prop := filterItemsUptoRow.holds Try.pinned (OpenSpec.upto filterItemsSpec)

/-- 'argosylaw14.FilterOrders', WHERE WHAT IT READS IS OF BULK AT MOST 1048576: true; the input reads as it did. -/
def filterOrdersUptoRow : OpenClaim := { program := "ytjoigmbapnjhhaa", sum := "bb975a1090980b5f41e86b9e16979c141ed9fad531198453fa2d775c43e4bad5", func := "argosy/argosylaw14.FilterOrders", spec := "filterOrders", recurses := true, plainKeys := false, apart := false, narrowed := true }
def FilterOrdersUptoSaid : Prop := filterOrdersUptoRow.holds Try.pinned (OpenSpec.upto filterOrdersSpec)

/-- 'argosylaw14.FilterPlaces', WHERE WHAT IT READS IS OF BULK AT MOST 1048576: true; the input reads as it did. -/
def filterPlacesUptoRow : OpenClaim := { program := "ytjoigmbapnjhhaa", sum := "bb975a1090980b5f41e86b9e16979c141ed9fad531198453fa2d775c43e4bad5", func := "argosy/argosylaw14.FilterPlaces", spec := "filterPlaces", unfollowed := true, recurses := true, plainKeys := false, apart := false, narrowed := true }
def FilterPlacesUptoSaid : Prop := filterPlacesUptoRow.holds Try.pinned (OpenSpec.upto filterPlacesSpec)

/-- 'argosylaw14.FilterRestores', WHERE WHAT IT READS IS OF BULK AT MOST 1048576: true; the input reads as it did. -/
def filterRestoresUptoRow : OpenClaim := { program := "ytjoigmbapnjhhaa", sum := "bb975a1090980b5f41e86b9e16979c141ed9fad531198453fa2d775c43e4bad5", func := "argosy/argosylaw14.FilterRestores", spec := "filterRestores", unfollowed := true, recurses := true, plainKeys := false, apart := false, narrowed := true }
def FilterRestoresUptoSaid : Prop := filterRestoresUptoRow.holds Try.pinned (OpenSpec.upto filterRestoresSpec)

end Rows
end Go.Proofs.Ytjoigmbapnjhhaa
