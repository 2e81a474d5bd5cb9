/- The example of the document on pieces: the plain law. -/
import Derived.Test.YteehongibjkjlaaPcsp
set_option linter.unusedVariables false
set_option linter.unusedSimpArgs false
namespace Go.Proofs.Yteehongibjkjlaa
open Go.RowKit Classical
abbrev twO (s x y : Int) (a : Option Addr) (c : Nat) : Order := ⟨0, 0, s, 0, 1, ⟨none, [], 0⟩, ⟨none, [], 0⟩, ⟨none, [], 0⟩, 0, ⟨a, [⟨ByteArray.empty, x, 0⟩, ⟨ByteArray.empty, y, 0⟩], c⟩⟩
theorem twO_R {W : World} {s x y : Int} {a : Option Addr} {c : Nat} (h : SlR W e_Mark a [⟨ByteArray.empty, x, 0⟩, ⟨ByteArray.empty, y, 0⟩]) (L : List Res) : OrdR W L (twO s x y a c) := ⟨rds_old h, rds_nil _ _, rds_nil _ _, rds_nil _ _, fun x hx => by (simp at hx), by simp, by simp, by simp, by simp, fun x hx => by (simp at hx)⟩
theorem twO_small {s x y : Int} {a : Option Addr} {c : Nat} : OSmall (twO s x y a c) := ⟨by simp, by simp, by simp, by simp, by simp, by simp, by simp [show ByteArray.empty.size = 0 from rfl], by simp⟩
theorem twO_homes {s x y : Int} {a : Option Addr} {c : Nat} (h : x < y) : homes (twO s x y a c) = [x, y] := by
  rw [homes_ne (by simp)]
  show setOf ilt [x, y] = [x, y]
  have h1 : ¬ ilt y x := by show ¬ y < x; omega
  have h2 : ilt x y := h
  simp [setOf, ins, h1, h2]
theorem twO_single {s x y : Int} {a : Option Addr} {c : Nat} (h : x < y) : ¬ single (twO s x y a c) := fun h9 => by have := h9.2; rw [twO_homes h] at this; simp at this
section
variable {a b : Option Addr} {c d : Nat}
abbrev twL (a b : Option Addr) (c d : Nat) : List Order := [twO 1 0 1 a c, twO 2 1 2 b d]
theorem tw_f0 : FirstG (twL a b c d) 0 := ⟨_, rfl, twO_single (by decide), fun j y h => absurd h (by omega)⟩
theorem tw_f1 : FirstG (twL a b c d) 1 := ⟨_, rfl, twO_single (by decide), fun j y h hy ht => by
  obtain rfl : j = 0 := by omega
  have e : twO 1 0 1 a c = y := by simpa using hy
  subst e
  have := congrArg Tag.f_Id_Seq ht
  simp at this⟩
theorem tw_idx1 : idx 1 (twL a b c d) (twL a b c d).length = [0, 1] := by
  show idx 1 (twL a b c d) 2 = [0, 1]
  have q1 : PcOk 1 (twL a b c d) 1 := ⟨tw_f1, _, rfl, by rw [twO_homes (by decide)]; simp⟩
  have q0 : PcOk 1 (twL a b c d) 0 := ⟨tw_f0, _, rfl, by rw [twO_homes (by decide)]; simp⟩
  rw [idx_succ, if_pos q1, idx_succ, if_pos q0]
  rfl
theorem tw_idx2 : idx 2 (twL a b c d) (twL a b c d).length = [1] := by
  show idx 2 (twL a b c d) 2 = [1]
  have q1 : PcOk 2 (twL a b c d) 1 := ⟨tw_f1, _, rfl, by rw [twO_homes (by decide)]; simp⟩
  have q0 : ¬ PcOk 2 (twL a b c d) 0 := fun h => by
    obtain ⟨_, o, ho, hm⟩ := h
    have e : twO 1 0 1 a c = o := by simpa using ho
    subst e
    rw [twO_homes (by decide)] at hm; simp at hm
  rw [idx_succ, if_pos q1, idx_succ, if_neg q0]
  rfl
theorem tw_ps1 {ps : List Item} (h : DnP 1 (twL a b c d) ps) : ps.length = 2 ∧ ∀ x, ps[(1 : Int).toNat]? = some x → x.f_Index = 1 := by
  refine ⟨by rw [h.1.len, tw_idx1]; rfl, fun x hx => ?_⟩
  exact (h.1.pl 1 x 1 hx (by rw [tw_idx1]; rfl)).2.1
theorem tw_ps2 {ps : List Item} (h : DnP 2 (twL a b c d) ps) : ps.length = 1 ∧ ∀ x, ps[(0 : Int).toNat]? = some x → x.f_Index = 1 ∧ x.f_Kind = 2 := by
  refine ⟨by rw [h.1.len, tw_idx2]; rfl, fun x hx => ?_⟩
  have := h.1.pl 0 x 1 hx (by rw [tw_idx2]; rfl)
  exact ⟨this.2.1, this.1⟩
theorem twL_R {W : World} (h1 : SlR W e_Mark a [⟨ByteArray.empty, 0, 0⟩, ⟨ByteArray.empty, 1, 0⟩]) (h2 : SlR W e_Mark b [⟨ByteArray.empty, 1, 0⟩, ⟨ByteArray.empty, 2, 0⟩]) : ∀ x ∈ twL a b c d, ∀ L, OrdR W L x := fun x hx => by
  simp only [List.mem_cons, List.not_mem_nil, or_false] at hx
  rcases hx with rfl | rfl
  · exact twO_R h1
  · exact twO_R h2
theorem twL_small : ∀ x ∈ twL a b c d, OSmall x := fun x hx => by
  simp only [List.mem_cons, List.not_mem_nil, or_false] at hx
  rcases hx with rfl | rfl <;> exact twO_small
end
end Go.Proofs.Yteehongibjkjlaa
