/- Printed by eng2.py out of 18/spec.py. -/
import Derived.Test.YtoigakfglgdjdaaNames
import Derived.Laws.StructEq
set_option linter.unusedVariables false
set_option linter.unusedSimpArgs false
set_option maxRecDepth 10000
namespace Go.Proofs.Ytoigakfglgdjdaa
open Go.RowKit Classical
theorem eqS58 (x y : RVote) (w : World) : (Op.equalIn 10000 58 (.agg (e_RVote.cells x).toArray) (.agg (e_RVote.cells y).toArray)).run Try.prog w = .ok (decide (x = y)) w := by
  rw [run_equalIn_agg w 9999 58 _ _ (by simp [Program.fieldsOf, Try.underlying58]) (by kernel_rfl)]
  obtain ⟨a0, a1, a2⟩ := x
  obtain ⟨b0, b1, b2⟩ := y
  by_cases h : (⟨a0, a1, a2⟩ : RVote) = ⟨b0, b1, b2⟩
  · rw [decide_eq_true h]
    obtain ⟨rfl, rfl, rfl⟩ := RVote.mk.inj h
    simp [Program.fieldsOf, Try.underlying58, Op.eqFields, part, run_isAgg Try.underlying3, run_isAgg Try.underlying9, run_isAgg Try.underlying23, aggD, run_equalIn_int w _ _ _ _ _ _ Try.underlying3, run_equalIn_string w _ _ _ _ Try.underlying9, run_equalIn_int w _ _ _ _ _ _ Try.underlying23, toList_eq_iff]
  · rw [decide_eq_false h]
    simp only [RVote.mk.injEq] at h
    simp [Program.fieldsOf, Try.underlying58, Op.eqFields, part, run_isAgg Try.underlying3, run_isAgg Try.underlying9, run_isAgg Try.underlying23, aggD, run_equalIn_int w _ _ _ _ _ _ Try.underlying3, run_equalIn_string w _ _ _ _ Try.underlying9, run_equalIn_int w _ _ _ _ _ _ Try.underlying23, toList_eq_iff]
    grind
theorem b_eqlS58 (x y : RVote) {p q : Operand} : BinV Try.prog .eql 58 p q (.agg (e_RVote.cells x).toArray) (.agg (e_RVote.cells y).toArray) (.bool (decide (x = y))) := binV_of (fun w => run_eqGuard_agg w _ _ _ _ _ _ (by kernel_rfl)) fun w => by rw [run_eql_struct, eqS58]; rfl
theorem b_neqS58 (x y : RVote) {p q : Operand} : BinV Try.prog .neq 58 p q (.agg (e_RVote.cells x).toArray) (.agg (e_RVote.cells y).toArray) (.bool (!decide (x = y))) := binV_of (fun w => run_eqGuard_agg w _ _ _ _ _ _ (by kernel_rfl)) fun w => by rw [run_neq_struct, eqS58]; rfl
end Go.Proofs.Ytoigakfglgdjdaa
