/-
  No cell of these rows narrows 'for every input' (looked for: loops, veiled, ifaces, maps, wideKeys, modest, calm, conditions, laid).
  DERIVED. THE GIVEN ROWS OF THIS SEAT. 9 by the template 'for every input the law returns true; each argument reads behind the call as it read before'; 0 by the template 'total and deterministic' (their statements: YtkohbgblnkelnaaTotals.lean).
  GIVEN WITH THE SEED: the statements are not yours to turn. If you find one false, say at which input.
  Laid BY PROGRAM, IN A SANDBOX (cutbox-rows.mjs): the forced cells as the released guide's own fill.sh prints them over the translation 49bfb8fd9d68a4a0… (all of the seat's roots in one cut). By AI agents, Wed Nov 11 2026. No macro, syntax, notation, axiom, sorry.
-/
import Derived.Test.YtkohbgblnkelnaaChecked
import GoSem.Claim
import GoSem.ClaimJoined
import GoSem.ClaimMapViews
import Derived.JoinedTies
import Derived.KernelRfl
namespace Go.Proofs.Ytkohbgblnkelnaa
/- THE CELL 'sum', in the pinned program and in every row, IS THE sha256 OF THE DUMP (.gsa) THAT YtkohbgblnkelnaaProg.lean LOADS. Nothing in Lean hashes anything: it is a label: what it is worth is what the hold of that sum in a sandbox is worth. -/
noncomputable def Try.pinned : Pinned := { name := "ytkohbgblnkelnaa", sum := "49bfb8fd9d68a4a0caa07fd73914438bab6088202592d20fc34b6f8f0a83fcd4", checked := Try.checked }
namespace Rows
def none {H : Type} : Left H := { results := [], args := [] }

/-- 'argosylaw01.CodeNames': WHATEVER THE INPUT: true; the input reads as it did. -/
def codeNamesSpec : ChangeSpec := { name := "codeNames", fn := fun _ => fun
  | [] => { results := [.lit (.bool true)], args := [] }
  | _ => none }
def codeNamesRow : OpenClaim := { program := "ytkohbgblnkelnaa", sum := "49bfb8fd9d68a4a0caa07fd73914438bab6088202592d20fc34b6f8f0a83fcd4", func := "argosy/argosylaw01.CodeNames", spec := "codeNames", apart := false }
def CodeNamesSaid : Prop := codeNamesRow.holds Try.pinned (OpenSpec.ofChange codeNamesSpec)

/-- ITS FALSE NEIGHBOUR: 'it returns false'. Refute it at one input. -/
def codeNamesWrong : ChangeSpec := { name := "codeNames", fn := fun _ => fun
  | [] => { results := [.lit (.bool false)], args := [] }
  | _ => none }
def CodeNamesWrongFalsely : Prop := codeNamesRow.holds Try.pinned (OpenSpec.ofChange codeNamesWrong)

/-- 'argosylaw01.CodeOrder': WHATEVER THE INPUT: true; the input reads as it did. -/
def codeOrderSpec : ChangeSpec := { name := "codeOrder", fn := fun _ => fun
  | [d1, d2] => { results := [.lit (.bool true)], args := [d1, d2] }
  | _ => none }
def codeOrderRow : OpenClaim := { program := "ytkohbgblnkelnaa", sum := "49bfb8fd9d68a4a0caa07fd73914438bab6088202592d20fc34b6f8f0a83fcd4", func := "argosy/argosylaw01.CodeOrder", spec := "codeOrder", apart := false }
def CodeOrderSaid : Prop := codeOrderRow.holds Try.pinned (OpenSpec.ofChange codeOrderSpec)

/-- ITS FALSE NEIGHBOUR: 'it returns false'. Refute it at one input. -/
def codeOrderWrong : ChangeSpec := { name := "codeOrder", fn := fun _ => fun
  | [d1, d2] => { results := [.lit (.bool false)], args := [d1, d2] }
  | _ => none }
def CodeOrderWrongFalsely : Prop := codeOrderRow.holds Try.pinned (OpenSpec.ofChange codeOrderWrong)

/-- 'argosylaw01.CodeWrites': WHATEVER THE INPUT: true; the input reads as it did. -/
def codeWritesSpec : ChangeSpec := { name := "codeWrites", fn := fun _ => fun
  | [d] => { results := [.lit (.bool true)], args := [d] }
  | _ => none }
def codeWritesRow : OpenClaim := { program := "ytkohbgblnkelnaa", sum := "49bfb8fd9d68a4a0caa07fd73914438bab6088202592d20fc34b6f8f0a83fcd4", func := "argosy/argosylaw01.CodeWrites", spec := "codeWrites", apart := false }
def CodeWritesSaid : Prop := codeWritesRow.holds Try.pinned (OpenSpec.ofChange codeWritesSpec)

/-- ITS FALSE NEIGHBOUR: 'it returns false'. Refute it at one input. -/
def codeWritesWrong : ChangeSpec := { name := "codeWrites", fn := fun _ => fun
  | [d] => { results := [.lit (.bool false)], args := [d] }
  | _ => none }
def CodeWritesWrongFalsely : Prop := codeWritesRow.holds Try.pinned (OpenSpec.ofChange codeWritesWrong)

/-- 'argosylaw01.CodeBack': WHATEVER THE INPUT: true; the input reads as it did. -/
def codeBackSpec : ChangeSpec := { name := "codeBack", fn := fun _ => fun
  | [d1, d2] => { results := [.lit (.bool true)], args := [d1, d2] }
  | _ => none }
def codeBackRow : OpenClaim := { program := "ytkohbgblnkelnaa", sum := "49bfb8fd9d68a4a0caa07fd73914438bab6088202592d20fc34b6f8f0a83fcd4", func := "argosy/argosylaw01.CodeBack", spec := "codeBack", apart := false }
def CodeBackSaid : Prop := codeBackRow.holds Try.pinned (OpenSpec.ofChange codeBackSpec)

/-- ITS FALSE NEIGHBOUR: 'it returns false'. Refute it at one input. -/
def codeBackWrong : ChangeSpec := { name := "codeBack", fn := fun _ => fun
  | [d1, d2] => { results := [.lit (.bool false)], args := [d1, d2] }
  | _ => none }
def CodeBackWrongFalsely : Prop := codeBackRow.holds Try.pinned (OpenSpec.ofChange codeBackWrong)

/-- 'argosylaw01.CodeFrames': WHATEVER THE INPUT: true; the input reads as it did. -/
def codeFramesSpec : ChangeSpec := { name := "codeFrames", fn := fun _ => fun
  | [d1, d2] => { results := [.lit (.bool true)], args := [d1, d2] }
  | _ => none }
def codeFramesRow : OpenClaim := { program := "ytkohbgblnkelnaa", sum := "49bfb8fd9d68a4a0caa07fd73914438bab6088202592d20fc34b6f8f0a83fcd4", func := "argosy/argosylaw01.CodeFrames", spec := "codeFrames", apart := false }
def CodeFramesSaid : Prop := codeFramesRow.holds Try.pinned (OpenSpec.ofChange codeFramesSpec)

/-- ITS FALSE NEIGHBOUR: 'it returns false'. Refute it at one input. -/
def codeFramesWrong : ChangeSpec := { name := "codeFrames", fn := fun _ => fun
  | [d1, d2] => { results := [.lit (.bool false)], args := [d1, d2] }
  | _ => none }
def CodeFramesWrongFalsely : Prop := codeFramesRow.holds Try.pinned (OpenSpec.ofChange codeFramesWrong)

/-- 'argosylaw01.CodeBursts': WHATEVER THE INPUT: true; the input reads as it did. -/
def codeBurstsSpec : ChangeSpec := { name := "codeBursts", fn := fun _ => fun
  | [d1, d2, d3] => { results := [.lit (.bool true)], args := [d1, d2, d3] }
  | _ => none }
def codeBurstsRow : OpenClaim := { program := "ytkohbgblnkelnaa", sum := "49bfb8fd9d68a4a0caa07fd73914438bab6088202592d20fc34b6f8f0a83fcd4", func := "argosy/argosylaw01.CodeBursts", spec := "codeBursts", apart := false }
def CodeBurstsSaid : Prop := codeBurstsRow.holds Try.pinned (OpenSpec.ofChange codeBurstsSpec)

/-- ITS FALSE NEIGHBOUR: 'it returns false'. Refute it at one input. -/
def codeBurstsWrong : ChangeSpec := { name := "codeBursts", fn := fun _ => fun
  | [d1, d2, d3] => { results := [.lit (.bool false)], args := [d1, d2, d3] }
  | _ => none }
def CodeBurstsWrongFalsely : Prop := codeBurstsRow.holds Try.pinned (OpenSpec.ofChange codeBurstsWrong)

/-- 'argosylaw01.CodeRows': WHATEVER THE INPUT: true; the input reads as it did. -/
def codeRowsSpec : ChangeSpec := { name := "codeRows", fn := fun _ => fun
  | [d1, d2] => { results := [.lit (.bool true)], args := [d1, d2] }
  | _ => none }
def codeRowsRow : OpenClaim := { program := "ytkohbgblnkelnaa", sum := "49bfb8fd9d68a4a0caa07fd73914438bab6088202592d20fc34b6f8f0a83fcd4", func := "argosy/argosylaw01.CodeRows", spec := "codeRows", apart := false }
def CodeRowsSaid : Prop := codeRowsRow.holds Try.pinned (OpenSpec.ofChange codeRowsSpec)

/-- ITS FALSE NEIGHBOUR: 'it returns false'. Refute it at one input. -/
def codeRowsWrong : ChangeSpec := { name := "codeRows", fn := fun _ => fun
  | [d1, d2] => { results := [.lit (.bool false)], args := [d1, d2] }
  | _ => none }
def CodeRowsWrongFalsely : Prop := codeRowsRow.holds Try.pinned (OpenSpec.ofChange codeRowsWrong)

/-- 'argosylaw01.CodeReads': WHATEVER THE INPUT: true; the input reads as it did. -/
def codeReadsSpec : ChangeSpec := { name := "codeReads", fn := fun _ => fun
  | [d1, d2] => { results := [.lit (.bool true)], args := [d1, d2] }
  | _ => none }
def codeReadsRow : OpenClaim := { program := "ytkohbgblnkelnaa", sum := "49bfb8fd9d68a4a0caa07fd73914438bab6088202592d20fc34b6f8f0a83fcd4", func := "argosy/argosylaw01.CodeReads", spec := "codeReads", apart := false }
def CodeReadsSaid : Prop := codeReadsRow.holds Try.pinned (OpenSpec.ofChange codeReadsSpec)

/-- ITS FALSE NEIGHBOUR: 'it returns false'. Refute it at one input. -/
def codeReadsWrong : ChangeSpec := { name := "codeReads", fn := fun _ => fun
  | [d1, d2] => { results := [.lit (.bool false)], args := [d1, d2] }
  | _ => none }
def CodeReadsWrongFalsely : Prop := codeReadsRow.holds Try.pinned (OpenSpec.ofChange codeReadsWrong)

/-- 'argosylaw01.CodeCuts': WHATEVER THE INPUT: true; the input reads as it did. -/
def codeCutsSpec : ChangeSpec := { name := "codeCuts", fn := fun _ => fun
  | [d1, d2] => { results := [.lit (.bool true)], args := [d1, d2] }
  | _ => none }
def codeCutsRow : OpenClaim := { program := "ytkohbgblnkelnaa", sum := "49bfb8fd9d68a4a0caa07fd73914438bab6088202592d20fc34b6f8f0a83fcd4", func := "argosy/argosylaw01.CodeCuts", spec := "codeCuts", apart := false }
def CodeCutsSaid : Prop := codeCutsRow.holds Try.pinned (OpenSpec.ofChange codeCutsSpec)

/-- ITS FALSE NEIGHBOUR: 'it returns false'. Refute it at one input. -/
def codeCutsWrong : ChangeSpec := { name := "codeCuts", fn := fun _ => fun
  | [d1, d2] => { results := [.lit (.bool false)], args := [d1, d2] }
  | _ => none }
def CodeCutsWrongFalsely : Prop := codeCutsRow.holds Try.pinned (OpenSpec.ofChange codeCutsWrong)

/- THE SECOND FORM. 'bulk': how many values and letters a reading holds, each counted each time it is reached (what is shared counts as often as it is met; a slice's spare places count too). A statement '..UptoSaid' is the law's where the arguments, and the package variables that the reading takes, are together of bulk at most 1048576: NARROWER than '..Said'. Prove '..Said' where nothing that the law and all that it calls make is longer than what came in: it says more and counts as full. Else prove '..UptoSaid'. A law counts once. -/
mutual
def uptoBulk {H : Type} : DataW H → Nat
  | .lit (.string bytes) => bytes.length + 1
  | .lit _ => 1
  | .nil => 1
  | .ptr d => uptoBulk d + 1
  | .slice elems spare => uptoBulkAll elems + uptoBulkAll spare + 1
  | .agg parts => uptoBulkAll parts + 1
  | .iface _ d => uptoBulk d + 1
  | .map entries => uptoBulkEntries entries + 1
  | .held _ => 1
def uptoBulkAll {H : Type} : List (DataW H) → Nat
  | [] => 0
  | d :: r => uptoBulk d + uptoBulkAll r
def uptoBulkEntries {H : Type} : List (Lit × DataW H) → Nat
  | [] => 0
  | x :: r => uptoBulkEntry x + uptoBulkEntries r
def uptoBulkEntry {H : Type} : Lit × DataW H → Nat
  | (.string bytes, d) => bytes.length + uptoBulk d + 1
  | (_, d) => uptoBulk d + 1
 end
def uptoSmall : (H : Type) → List (DataW H) → Bool := fun _ ds => decide (uptoBulkAll ds ≤ 1048576)
def OpenSpec.upto (s : _root_.Go.ChangeSpec) : _root_.Go.OpenSpec := { _root_.Go.OpenSpec.ofChange s with cond := some uptoSmall }

/-- 'argosylaw01.CodeNames', WHERE WHAT IT READS IS OF BULK AT MOST 1048576: true; the input reads as it did. -/
def codeNamesUptoRow : OpenClaim := { program := "ytkohbgblnkelnaa", sum := "49bfb8fd9d68a4a0caa07fd73914438bab6088202592d20fc34b6f8f0a83fcd4", func := "argosy/argosylaw01.CodeNames", spec := "codeNames", apart := false, narrowed := true }
def CodeNamesUptoSaid : Prop := codeNamesUptoRow.holds Try.pinned (OpenSpec.upto codeNamesSpec)

/-- 'argosylaw01.CodeOrder', WHERE WHAT IT READS IS OF BULK AT MOST 1048576: true; the input reads as it did. -/
def codeOrderUptoRow : OpenClaim := { program := "ytkohbgblnkelnaa", sum := "49bfb8fd9d68a4a0caa07fd73914438bab6088202592d20fc34b6f8f0a83fcd4", func := "argosy/argosylaw01.CodeOrder", spec := "codeOrder", apart := false, narrowed := true }
def CodeOrderUptoSaid : Prop := codeOrderUptoRow.holds Try.pinned (OpenSpec.upto codeOrderSpec)

/-- 'argosylaw01.CodeWrites', WHERE WHAT IT READS IS OF BULK AT MOST 1048576: true; the input reads as it did. -/
def codeWritesUptoRow : OpenClaim := { program := "ytkohbgblnkelnaa", sum := "49bfb8fd9d68a4a0caa07fd73914438bab6088202592d20fc34b6f8f0a83fcd4", func := "argosy/argosylaw01.CodeWrites", spec := "codeWrites", apart := false, narrowed := true }
def CodeWritesUptoSaid : Prop := codeWritesUptoRow.holds Try.pinned (OpenSpec.upto codeWritesSpec)

/-- 'argosylaw01.CodeBack', WHERE WHAT IT READS IS OF BULK AT MOST 1048576: true; the input reads as it did. -/
def codeBackUptoRow : OpenClaim := { program := "ytkohbgblnkelnaa", sum := "49bfb8fd9d68a4a0caa07fd73914438bab6088202592d20fc34b6f8f0a83fcd4", func := "argosy/argosylaw01.CodeBack", spec := "codeBack", apart := false, narrowed := true }
def CodeBackUptoSaid : Prop := codeBackUptoRow.holds Try.pinned (OpenSpec.upto codeBackSpec)

/-- 'argosylaw01.CodeFrames', WHERE WHAT IT READS IS OF BULK AT MOST 1048576: true; the input reads as it did. -/
def codeFramesUptoRow : OpenClaim := { program := "ytkohbgblnkelnaa", sum := "49bfb8fd9d68a4a0caa07fd73914438bab6088202592d20fc34b6f8f0a83fcd4", func := "argosy/argosylaw01.CodeFrames", spec := "codeFrames", apart := false, narrowed := true }
def CodeFramesUptoSaid : Prop := codeFramesUptoRow.holds Try.pinned (OpenSpec.upto codeFramesSpec)

/-- 'argosylaw01.CodeBursts', WHERE WHAT IT READS IS OF BULK AT MOST 1048576: true; the input reads as it did. -/
def codeBurstsUptoRow : OpenClaim := { program := "ytkohbgblnkelnaa", sum := "49bfb8fd9d68a4a0caa07fd73914438bab6088202592d20fc34b6f8f0a83fcd4", func := "argosy/argosylaw01.CodeBursts", spec := "codeBursts", apart := false, narrowed := true }
def CodeBurstsUptoSaid : Prop := codeBurstsUptoRow.holds Try.pinned (OpenSpec.upto codeBurstsSpec)

/-- 'argosylaw01.CodeRows', WHERE WHAT IT READS IS OF BULK AT MOST 1048576: true; the input reads as it did. -/
def codeRowsUptoRow : OpenClaim := { program := "ytkohbgblnkelnaa", sum := "49bfb8fd9d68a4a0caa07fd73914438bab6088202592d20fc34b6f8f0a83fcd4", func := "argosy/argosylaw01.CodeRows", spec := "codeRows", apart := false, narrowed := true }
def CodeRowsUptoSaid : Prop := codeRowsUptoRow.holds Try.pinned (OpenSpec.upto codeRowsSpec)

/-- 'argosylaw01.CodeReads', WHERE WHAT IT READS IS OF BULK AT MOST 1048576: true; the input reads as it did. -/
def codeReadsUptoRow : OpenClaim := { program := "ytkohbgblnkelnaa", sum := "49bfb8fd9d68a4a0caa07fd73914438bab6088202592d20fc34b6f8f0a83fcd4", func := "argosy/argosylaw01.CodeReads", spec := "codeReads", apart := false, narrowed := true }
def CodeReadsUptoSaid : Prop := codeReadsUptoRow.holds Try.pinned (OpenSpec.upto codeReadsSpec)

/-- 'argosylaw01.CodeCuts', WHERE WHAT IT READS IS OF BULK AT MOST 1048576: true; the input reads as it did. -/
def codeCutsUptoRow : OpenClaim := { program := "ytkohbgblnkelnaa", sum := "49bfb8fd9d68a4a0caa07fd73914438bab6088202592d20fc34b6f8f0a83fcd4", func := "argosy/argosylaw01.CodeCuts", spec := "codeCuts", apart := false, narrowed := true }
def CodeCutsUptoSaid : Prop := codeCutsUptoRow.holds Try.pinned (OpenSpec.upto codeCutsSpec)

end Rows
end Go.Proofs.Ytkohbgblnkelnaa
