/- Printed by eng2.py out of 09a/spec.py. -/
import Derived.Test.YtlblipkcbmcfkaaPen
set_option linter.unusedVariables false
set_option linter.unusedSimpArgs false
set_option maxRecDepth 10000
namespace Go.Proofs.Ytlblipkcbmcfkaa
open Go.RowKit Classical
theorem ti98 : TI Try.prog 98 (.agg #[.slice none 0 0]) 1 24 := by unfold TI; kernel_rfl
theorem ti72 : TI Try.prog 72 (.pointer none) 1 8 := by unfold TI; kernel_rfl
theorem ti75 : TI Try.prog 75 (.agg #[.pointer none]) 1 8 := by unfold TI; kernel_rfl
theorem sp98 : StructP Try.prog 98 #[(0, 1)] := ⟨_, Try.underlying98, fun w => by kernel_rfl⟩
theorem sp75 : StructP Try.prog 75 #[(0, 1)] := ⟨_, Try.underlying75, fun w => by kernel_rfl⟩
end Go.Proofs.Ytlblipkcbmcfkaa
