/- Types of the law of the majorities. -/
import Derived.Test.YtcdodagebbfjoaaTy
set_option linter.unusedVariables false
set_option linter.unusedSimpArgs false
set_option maxRecDepth 10000
namespace Go.Proofs.Ytcdodagebbfjoaa
open Go.RowKit
theorem ti36 : TI Try.prog 36 (.slice none 0 0) 1 24 := by unfold TI; kernel_rfl
abbrev eVP : Enc Nat := ⟨27, 1, 8, (.pointer none), fun x => [.pointer (some ⟨x, 0, none⟩)]⟩
theorem eVP_ok : EncOk Try.prog eVP := ⟨ti27, rfl, Nat.zero_lt_one, fun _ => rfl, fun x v hv => by simp at hv; subst hv; rfl⟩
end Go.Proofs.Ytcdodagebbfjoaa
