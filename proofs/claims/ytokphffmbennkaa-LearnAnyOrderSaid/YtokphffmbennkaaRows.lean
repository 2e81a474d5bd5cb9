/-
  No cell of these rows narrows 'for every input' (looked for: loops, veiled, ifaces, maps, wideKeys, modest, calm, conditions, laid).
  DERIVED. THE GIVEN ROWS OF THIS SEAT. 4 by the template 'for every input the law returns true; each argument reads behind the call as it read before'; 0 by the template 'total and deterministic' (their statements: YtokphffmbennkaaTotals.lean).
  GIVEN WITH THE SEED: the statements are not yours to turn. If you find one false, say at which input.
  Laid BY PROGRAM, IN A SANDBOX (cutbox-rows.mjs): the forced cells as the released guide's own fill.sh prints them over the translation 8382321708db9db8… (all of the seat's roots in one cut). By AI agents, Wed Nov 11 2026. No macro, syntax, notation, axiom, sorry.
-/
import Derived.Test.YtokphffmbennkaaChecked
import GoSem.Claim
import GoSem.ClaimJoined
import GoSem.ClaimMapViews
import Derived.JoinedTies
import Derived.KernelRfl
namespace Go.Proofs.Ytokphffmbennkaa
/- THE CELL 'sum', in the pinned program and in every row, IS THE sha256 OF THE DUMP (.gsa) THAT YtokphffmbennkaaProg.lean LOADS. Nothing in Lean hashes anything: it is a label: what it is worth is what the hold of that sum in a sandbox is worth. -/
noncomputable def Try.pinned : Pinned := { name := "ytokphffmbennkaa", sum := "8382321708db9db83a2c163dc4895a39d58c7532d77c39a8fa04a1bc97767c83", checked := Try.checked }
namespace Rows
def none {H : Type} : Left H := { results := [], args := [] }

/-- 'argosylaw13.LearnAnyOrder': WHATEVER THE INPUT: true; the input reads as it did. -/
def learnAnyOrderSpec : ChangeSpec := { name := "learnAnyOrder", fn := fun _ => fun
  | [d1, d2] => { results := [.lit (.bool true)], args := [d1, d2] }
  | _ => none }
def learnAnyOrderRow : OpenClaim := { program := "ytokphffmbennkaa", sum := "8382321708db9db83a2c163dc4895a39d58c7532d77c39a8fa04a1bc97767c83", func := "argosy/argosylaw13.LearnAnyOrder", spec := "learnAnyOrder", apart := false }
def LearnAnyOrderSaid : Prop := learnAnyOrderRow.holds Try.pinned (OpenSpec.ofChange learnAnyOrderSpec)

/-- ITS FALSE NEIGHBOUR: 'it returns false'. Refute it at one input. -/
def learnAnyOrderWrong : ChangeSpec := { name := "learnAnyOrder", fn := fun _ => fun
  | [d1, d2] => { results := [.lit (.bool false)], args := [d1, d2] }
  | _ => none }
def LearnAnyOrderWrongFalsely : Prop := learnAnyOrderRow.holds Try.pinned (OpenSpec.ofChange learnAnyOrderWrong)

/-- 'argosylaw13.LearnPlays': WHATEVER THE INPUT: true; the input reads as it did. -/
def learnPlaysSpec : ChangeSpec := { name := "learnPlays", fn := fun _ => fun
  | [d] => { results := [.lit (.bool true)], args := [d] }
  | _ => none }
def learnPlaysRow : OpenClaim := { program := "ytokphffmbennkaa", sum := "8382321708db9db83a2c163dc4895a39d58c7532d77c39a8fa04a1bc97767c83", func := "argosy/argosylaw13.LearnPlays", spec := "learnPlays", apart := false }
def LearnPlaysSaid : Prop := learnPlaysRow.holds Try.pinned (OpenSpec.ofChange learnPlaysSpec)

/-- ITS FALSE NEIGHBOUR: 'it returns false'. Refute it at one input. -/
def learnPlaysWrong : ChangeSpec := { name := "learnPlays", fn := fun _ => fun
  | [d] => { results := [.lit (.bool false)], args := [d] }
  | _ => none }
def LearnPlaysWrongFalsely : Prop := learnPlaysRow.holds Try.pinned (OpenSpec.ofChange learnPlaysWrong)

/-- 'argosylaw13.LearnOnce': WHATEVER THE INPUT: true; the input reads as it did. -/
def learnOnceSpec : ChangeSpec := { name := "learnOnce", fn := fun _ => fun
  | [d1, d2] => { results := [.lit (.bool true)], args := [d1, d2] }
  | _ => none }
def learnOnceRow : OpenClaim := { program := "ytokphffmbennkaa", sum := "8382321708db9db83a2c163dc4895a39d58c7532d77c39a8fa04a1bc97767c83", func := "argosy/argosylaw13.LearnOnce", spec := "learnOnce", apart := false }
def LearnOnceSaid : Prop := learnOnceRow.holds Try.pinned (OpenSpec.ofChange learnOnceSpec)

/-- ITS FALSE NEIGHBOUR: 'it returns false'. Refute it at one input. -/
def learnOnceWrong : ChangeSpec := { name := "learnOnce", fn := fun _ => fun
  | [d1, d2] => { results := [.lit (.bool false)], args := [d1, d2] }
  | _ => none }
def LearnOnceWrongFalsely : Prop := learnOnceRow.holds Try.pinned (OpenSpec.ofChange learnOnceWrong)

/-- 'argosylaw13.LearnLoops': WHATEVER THE INPUT: true; the input reads as it did. -/
def learnLoopsSpec : ChangeSpec := { name := "learnLoops", fn := fun _ => fun
  | [d1, d2] => { results := [.lit (.bool true)], args := [d1, d2] }
  | _ => none }
def learnLoopsRow : OpenClaim := { program := "ytokphffmbennkaa", sum := "8382321708db9db83a2c163dc4895a39d58c7532d77c39a8fa04a1bc97767c83", func := "argosy/argosylaw13.LearnLoops", spec := "learnLoops", unfollowed := true, recurses := true, apart := false }
def LearnLoopsSaid : Prop := learnLoopsRow.holds Try.pinned (OpenSpec.ofChange learnLoopsSpec)

/-- ITS FALSE NEIGHBOUR: 'it returns false'. Refute it at one input. -/
def learnLoopsWrong : ChangeSpec := { name := "learnLoops", fn := fun _ => fun
  | [d1, d2] => { results := [.lit (.bool false)], args := [d1, d2] }
  | _ => none }
def LearnLoopsWrongFalsely : Prop := learnLoopsRow.holds Try.pinned (OpenSpec.ofChange learnLoopsWrong)

/- THE SECOND FORM. 'bulk': how many values and letters a reading holds, each counted each time it is reached (what is shared counts as often as it is met; a slice's spare places count too). A statement '..UptoSaid' is the law's where the arguments, and the package variables that the reading takes, are together of bulk at most 1048576: NARROWER than '..Said'. Prove '..Said' where nothing that the law and all that it calls make is longer than what came in: it says more and counts as full. Else prove '..UptoSaid'. A law counts once. -/
mutual
def uptoBulk {H : Type} : DataW H → Nat
  | .lit (.string bytes) => bytes.length + 1
  | .lit _ => 1
  | .nil => 1
  | .ptr d => uptoBulk d + 1
  | .slice elems spare => uptoBulkAll elems + uptoBulkAll spare + 1
  | .agg parts => uptoBulkAll parts + 1
  | .iface _ d => uptoBulk d + 1
  | .map entries => uptoBulkEntries entries + 1
  | .held _ => 1
def uptoBulkAll {H : Type} : List (DataW H) → Nat
  | [] => 0
  | d :: r => uptoBulk d + uptoBulkAll r
def uptoBulkEntries {H : Type} : List (Lit × DataW H) → Nat
  | [] => 0
  | x :: r => uptoBulkEntry x + uptoBulkEntries r
def uptoBulkEntry {H : Type} : Lit × DataW H → Nat
  | (.string bytes, d) => bytes.length + uptoBulk d + 1
  | (_, d) => uptoBulk d + 1
 end
def uptoSmall : (H : Type) → List (DataW H) → Bool := fun _ ds => decide (uptoBulkAll ds ≤ 1048576)
def OpenSpec.upto (s : _root_.Go.ChangeSpec) : _root_.Go.OpenSpec := { _root_.Go.OpenSpec.ofChange s with cond := some uptoSmall }

/-- 'argosylaw13.LearnAnyOrder', WHERE WHAT IT READS IS OF BULK AT MOST 1048576: true; the input reads as it did. -/
def learnAnyOrderUptoRow : OpenClaim := { program := "ytokphffmbennkaa", sum := "8382321708db9db83a2c163dc4895a39d58c7532d77c39a8fa04a1bc97767c83", func := "argosy/argosylaw13.LearnAnyOrder", spec := "learnAnyOrder", apart := false, narrowed := true }
def LearnAnyOrderUptoSaid : Prop := learnAnyOrderUptoRow.holds Try.pinned (OpenSpec.upto learnAnyOrderSpec)

/-- 'argosylaw13.LearnPlays', WHERE WHAT IT READS IS OF BULK AT MOST 1048576: true; the input reads as it did. -/
def learnPlaysUptoRow : OpenClaim := { program := "ytokphffmbennkaa", sum := "8382321708db9db83a2c163dc4895a39d58c7532d77c39a8fa04a1bc97767c83", func := "argosy/argosylaw13.LearnPlays", spec := "learnPlays", apart := false, narrowed := true }
def LearnPlaysUptoSaid : Prop := learnPlaysUptoRow.holds Try.pinned (OpenSpec.upto learnPlaysSpec)

/-- 'argosylaw13.LearnOnce', WHERE WHAT IT READS IS OF BULK AT MOST 1048576: true; the input reads as it did. -/
def learnOnceUptoRow : OpenClaim := { program := "ytokphffmbennkaa", sum := "8382321708db9db83a2c163dc4895a39d58c7532d77c39a8fa04a1bc97767c83", func := "argosy/argosylaw13.LearnOnce", spec := "learnOnce", apart := false, narrowed := true }
def LearnOnceUptoSaid : Prop := learnOnceUptoRow.holds Try.pinned (OpenSpec.upto learnOnceSpec)

/-- 'argosylaw13.LearnLoops', WHERE WHAT IT READS IS OF BULK AT MOST 1048576: true; the input reads as it did. -/
def learnLoopsUptoRow : OpenClaim := { program := "ytokphffmbennkaa", sum := "8382321708db9db83a2c163dc4895a39d58c7532d77c39a8fa04a1bc97767c83", func := "argosy/argosylaw13.LearnLoops", spec := "learnLoops", unfollowed := true, recurses := true, apart := false, narrowed := true }
def LearnLoopsUptoSaid : Prop := learnLoopsUptoRow.holds Try.pinned (OpenSpec.upto learnLoopsSpec)

end Rows
end Go.Proofs.Ytokphffmbennkaa
