/- Which orders are right: the plain law. -/
import Derived.Test.YtlblipkcbmcfkaaCopyp
import Derived.Test.YtlblipkcbmcfkaaKeys
set_option linter.unusedVariables false
set_option linter.unusedSimpArgs false
namespace Go.Proofs.Ytlblipkcbmcfkaa
open Go.RowKit Classical
def MkOk (r : Int) (m : Mark) (k : ByteArray) : Prop := m.f_Key = k ∧ 0 ≤ m.f_Home ∧ m.f_Home < r
def MksTo (r : Int) (ms : List Mark) (ks : List ByteArray) (i : Nat) : Prop := ∀ j m k, j < i → ms[j]? = some m → ks[j]? = some k → MkOk r m k
def IdOk (o : Order) : Prop := 0 ≤ o.f_Tag_Id_Node ∧ o.f_Tag_Id_Node < 9 ∧ 0 < o.f_Tag_Id_Epoch ∧ 0 < o.f_Tag_Id_Seq ∧ 0 ≤ o.f_Tag_Try ∧ o.f_Tag_Try < 3
def OrdOk (o : Order) (r : Int) : Prop := ChkOk o.txn r ∧ IdOk o ∧ o.f_Marks.xs.length = (keysT o.txn).length ∧ MksTo r o.f_Marks.xs (keysT o.txn) o.f_Marks.xs.length
noncomputable def chkO (o : Order) (r : Int) : Int := if OrdOk o r then 0 else 1
theorem chkO_0 {o : Order} {r : Int} : chkO o r = 0 ↔ OrdOk o r := by unfold chkO; split <;> simp_all
theorem chkO_yes {o : Order} {r : Int} (h : OrdOk o r) : chkO o r = 0 := if_pos h
theorem chkO_no {o : Order} {r : Int} (h : ¬ OrdOk o r) : chkO o r = 1 := if_neg h
theorem mks_0 {r : Int} {ms : List Mark} {ks : List ByteArray} : MksTo r ms ks 0 := fun j m k h => absurd h (by omega)
theorem mks_on {r : Int} {ms : List Mark} {ks : List ByteArray} {i : Nat} {m : Mark} {k : ByteArray} (h : MksTo r ms ks i) (hm : ms[((i : Int)).toNat]? = some m) (hk : ks[((i : Int)).toNat]? = some k) (h1 : MkOk r m k) : MksTo r ms ks (i + 1) := fun j a b hj ha hb => by
  have hm' : ms[i]? = some m := hm
  have hk' : ks[i]? = some k := hk
  by_cases hji : j < i
  · exact h j a b hji ha hb
  · obtain rfl : j = i := by omega
    rw [hm'] at ha; rw [hk'] at hb; cases ha; cases hb; exact h1
theorem ord_no {o : Order} {r : Int} {i : Nat} {m : Mark} {k : ByteArray} (hm : o.f_Marks.xs[((i : Int)).toNat]? = some m) (hk : (keysT o.txn)[((i : Int)).toNat]? = some k) (h1 : ¬ MkOk r m k) : ¬ OrdOk o r := fun h => h1 (h.2.2.2 i m k (List.getElem?_eq_some_iff.1 hm).1 hm hk)
theorem ordOk_same {a b : Order} {r : Int} (h : SameO a b) : OrdOk a r ↔ OrdOk b r := by
  have h1 : a.f_Tag_Id_Node = b.f_Tag_Id_Node := congrArg Tag.f_Id_Node h.1
  have h2 : a.f_Tag_Id_Epoch = b.f_Tag_Id_Epoch := congrArg Tag.f_Id_Epoch h.1
  have h3 : a.f_Tag_Id_Seq = b.f_Tag_Id_Seq := congrArg Tag.f_Id_Seq h.1
  have h4 : a.f_Tag_Try = b.f_Tag_Try := congrArg Tag.f_Try h.1
  unfold OrdOk IdOk
  rw [chk_same h.2.1, keysT_same h.2.1, h.2.2, h1, h2, h3, h4]
theorem chkO_same {a b : Order} (h : SameO a b) (r : Int) : chkO a r = chkO b r := by
  by_cases hb : OrdOk b r
  · rw [chkO_yes hb, chkO_yes ((ordOk_same h).2 hb)]
  · rw [chkO_no hb, chkO_no fun h9 => hb ((ordOk_same h).1 h9)]
end Go.Proofs.Ytlblipkcbmcfkaa
