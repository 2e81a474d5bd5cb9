/- Messages: the plain law. -/
import Derived.Test.YtoigakfglgdjdaaTy
import Derived.Test.YtoigakfglgdjdaaMany
import Derived.Test.YtoigakfglgdjdaaPlain
set_option linter.unusedVariables false
set_option linter.unusedSimpArgs false
namespace Go.Proofs.Ytoigakfglgdjdaa
open Go.RowKit Classical
/-- votes that are right, up to number i -/
def VotesTo (vs : List Vote) (i : Nat) : Prop := (∀ j v, j < i → vs[j]? = some v → 0 ≤ v.f_Slot ∧ v.f_Slot < 64 ∧ v.f_Value.size ≤ 4096) ∧ (∀ j v u, j + 1 < i → vs[j]? = some v → vs[j + 1]? = some u → v.f_Slot < u.f_Slot)
def Valued (k : Int) : Prop := k = 3 ∨ k = 6 ∨ k = 8 ∨ k = 9
def MsgOk (m : Msg) : Prop := 1 ≤ m.f_Kind ∧ m.f_Kind ≤ 9 ∧ (0 ≤ m.f_From ∧ m.f_From ≤ 8) ∧ (0 ≤ m.f_To ∧ m.f_To ≤ 8) ∧ (0 ≤ m.f_Group ∧ m.f_Group ≤ 3) ∧ (0 ≤ m.f_Slot ∧ m.f_Slot ≤ 64) ∧ m.f_Value.size ≤ 4096 ∧
  (m.f_Value = ByteArray.empty ∨ Valued m.f_Kind) ∧ (m.f_Votes.xs.length = 0 ∨ m.f_Kind = 2) ∧ VotesTo m.f_Votes.xs m.f_Votes.xs.length
noncomputable def msgN (m : Msg) : Int := if MsgOk m then 0 else 1
end Go.Proofs.Ytoigakfglgdjdaa
