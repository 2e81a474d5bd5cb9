/- make of a slice whose elements are one cell. -/
import Derived.Test.YteehongibjkjlaaRange
import Derived.Laws.MakeOwn
set_option linter.unusedVariables false
namespace Go.Proofs.Yteehongibjkjlaa
open Go.RowKit
section
variable {P : Program} {N : FN} {l : Fr} {W : World} {L L0 : List Res} {Q : Exit → Act → World → Prop} {ops : Array Oper} {rest : List Oper}
variable {d : Nat} {ty : TypeId} {pos : String} {af : Array Edge}
theorem made_1 {α : Type} {e : Enc α} {x : α} (ok : EncOk P e) (h1 : e.sz = 1) (hx : e.z.cells.toList = e.cells x) (n : Nat) : (madeCells e.z.cells n).toList = flat e (List.replicate n x) := by
  have hl := ok.len x
  rw [h1] at hl
  obtain ⟨v, hv⟩ := List.length_eq_one_iff.1 hl
  have hz : e.z.cells = #[v] := by apply Array.ext'; rw [hx, hv]
  have hf : flat e (List.replicate n x) = List.replicate n v := by
    induction n with
    | zero => rfl
    | succ n ih => rw [List.replicate_succ, List.replicate_succ, ← ih]; simp [flat, hv]
  rw [hf, hz]
  refine List.ext_getElem (by simp [madeCells]) fun i h1 h2 => ?_
  simp [madeCells, Nat.mod_one]
theorem o_make {α : Type} {e : Enc α} {t n : Nat} {o1 o2 : Operand} {k1 k2 : IntKind} (ok : EncOk P e) (x : α) (hd : Nat.ble (d + 1) N = true) (h1 : e.sz = 1) (hx : e.z.cells.toList = e.cells x) (ho1 : opv l o1 = some (.int k1 (n : Int))) (ho2 : opv l o2 = some (.int k2 (n : Int))) (ht : P.underlying t = some (.slice e.T)) (hb : e.bytes * n ≤ 281474976710656) (hn : n ≤ 9223372036854775807)
    (h : ∀ a, WL P ops Q rest N ((d, .slice a (List.replicate n x).length n) :: l) W (row e.T e.sz a (List.replicate n x).length n (flat e (List.replicate n x)) :: L)) : WL P ops Q (⟨some d, .makeSlice t o1 o2, ty, pos, af, none⟩ :: rest) N l W L :=
  o_runx (α := Option Addr) hd (vv := fun a => .slice a (List.replicate n x).length n) (LL := fun a => row e.T e.sz a (List.replicate n x).length n (flat e (List.replicate n x)) :: L) (fun a w K S => by
    have hm := made_1 ok h1 hx n
    have hl : (List.replicate n x).length = n := List.length_replicate
    have hc : madeCells e.z.cells n = (flat e (List.replicate n x)).toArray := by rw [← hm]
    refine ⟨some ⟨w.heap.size, 0, none⟩, w.alloc (.cells (flat e (List.replicate n x)).toArray e.T), ?_, ?_⟩
    · obtain ⟨i, hi, hzz⟩ := Option.map_eq_some_iff.1 ok.ti
      simp only [Prod.mk.injEq] at hzz
      obtain ⟨hz, hs, hbb⟩ := hzz
      have hb' : (i.bytes : Int) * (n : Int) ≤ 281474976710656 := by
        rw [hbb, ← Int.natCast_mul]; omega
      have hr := run_make (P := P) w t e.T i e.z ht hi hz k1 k2 n n (by omega) (Int.le_refl _) hb' (by omega)
      simp only [Int.toNat_natCast, hs, h1, Nat.mul_one, hc] at hr
      rw [hl]
      simp [execOp, K.eval ho1, K.eval ho2, hr]
    · have hfl := flat_length ok (List.replicate n x)
      refine (S.alloc _).own_mk (by rw [hl]; exact Nat.le_refl _) ?_ ?_ ?_
      · simp only [maxLen]; omega
      · rw [List.size_toArray, hfl, hl]; exact Nat.le_refl _
      · rw [List.take_of_length_le (by rw [hfl, hl]; exact Nat.le_refl _)]) h
end
end Go.Proofs.Yteehongibjkjlaa
