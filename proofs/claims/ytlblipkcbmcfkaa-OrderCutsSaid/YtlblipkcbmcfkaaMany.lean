/- Many resources in one; rows of rows. -/
import Derived.Test.YtlblipkcbmcfkaaRange
import Derived.Test.YtlblipkcbmcfkaaOpen
import Derived.Laws.IdiomStrings
set_option linter.unusedVariables false
set_option linter.unusedSimpArgs false
namespace Go.Proofs.Ytlblipkcbmcfkaa
open Go.RowKit
theorem Sat.stars_cons {W w : World} {A : Res} {Rs L : List Res} (S : Sat W w (stars (A :: Rs) :: L)) : Sat W w (A :: stars Rs :: L) := by
  have h := S.flat
  exact (h.perm (List.perm_middle.symm : (A :: (Rs ++ L)).Perm (Rs ++ A :: L))).unflat.perm (List.Perm.swap _ _ _)
theorem Sat.stars_uncons {W w : World} {A : Res} {Rs L : List Res} (S : Sat W w (A :: stars Rs :: L)) : Sat W w (stars (A :: Rs) :: L) := by
  have h := (S.perm (List.Perm.swap _ _ _) : Sat W w (stars Rs :: A :: L)).flat
  exact Sat.unflat (Ls := A :: Rs) (h.perm (List.perm_middle : (Rs ++ A :: L).Perm (A :: (Rs ++ L))))
theorem Sat.stars_snoc {W w : World} {A : Res} {Rs L : List Res} (S : Sat W w (A :: stars Rs :: L)) : Sat W w (stars (Rs ++ [A]) :: L) := by
  have h := (S.perm (List.Perm.swap _ _ _) : Sat W w (stars Rs :: A :: L)).flat
  refine Sat.unflat (Ls := Rs ++ [A]) ?_
  simpa using h
theorem Sat.stars_nil {W w : World} {L : List Res} (S : Sat W w L) : Sat W w (stars [] :: L) := Sat.unflat (Ls := []) S
theorem Sat.stars_mem {W w : World} {A : Res} {Rs L : List Res} (S : Sat W w (stars Rs :: L)) (h : A ∈ Rs) : ∃ L', Sat W w (A :: L') := mem_front (List.mem_append_left _ h) S.flat
/-- A slice's value, owned. -/
def vrow {α : Type} (e : Enc α) (s : Sl α) : Res := row e.T e.sz s.a s.xs.length s.c (flat e s.xs)
theorem rds_stars {α : Type} {P : Program} {W : World} {L : List Res} {e : Enc α} {a : Option Addr} {xs : List α} {c : Nat} {Rs : List Res} (ok : EncOk P e) (i : Nat) (h : L[i]? = some (stars Rs)) (hm : row e.T e.sz a xs.length c (flat e xs) ∈ Rs) : RdS W L e a xs := fun w S => by
  obtain ⟨L1, S1⟩ := mem_front (List.mem_of_getElem? h) S
  obtain ⟨L2, S2⟩ := S1.stars_mem hm
  exact S2.own_rds ok
theorem rds_vrow {α : Type} {P : Program} {W : World} {L : List Res} {e : Enc α} {s : Sl α} {ss : List (Sl α)} (ok : EncOk P e) (i : Nat) (h : L[i]? = some (stars (ss.map (vrow e)))) (hm : s ∈ ss) : RdS W L e s.a s.xs :=
  rds_stars ok i h (List.mem_map.2 ⟨s, hm, rfl⟩)
section
variable {P : Program} {N : FN} {l : Fr} {W : World} {L : List Res} {Q : Exit → Act → World → Prop} {ops : Array Oper} {rest : List Oper} {d : Nat} {ty : TypeId} {pos : String} {af : Array Edge}
theorem map_flat {e : Enc UInt8} (hc : e.cells = fun x => [.int .u8 (x.toNat : Int)]) (xs : List UInt8) : xs.map (fun b => Value.int .u8 (b.toNat : Int)) = flat e xs := by
  simp only [flat, hc]
  induction xs with
  | nil => rfl
  | cons y ys ih => simp [ih]
/-- '[]byte(s)'. -/
theorem o_strBytes {e : Enc UInt8} {s t : TypeId} {x : Operand} {u : ByteArray} (hc : e.cells = fun x => [.int .u8 (x.toNat : Int)]) (hz : e.sz = 1) (hd : Nat.ble (d + 1) N = true) (hx : opv l x = some (.string u)) (hs : P.underlying s = some .string) (ht : P.underlying t = some (.slice e.T)) (hT : P.underlying e.T = some (.int .u8))
    (h : ∀ (a : Option Addr) (c : Nat), u.data.toList.length ≤ c → WL P ops Q rest N ((d, .slice a u.data.toList.length c) :: l) W (mrow e.T e.sz a u.data.toList.length c (flat e u.data.toList) :: L)) :
    WL P ops Q (⟨some d, .convert s t x, ty, pos, af, none⟩ :: rest) N l W L :=
  o_runx (α := { q : Option Addr × Nat // u.data.toList.length ≤ q.2 }) hd (vv := fun q => .slice q.1.1 u.data.toList.length q.1.2) (LL := fun q => mrow e.T e.sz q.1.1 u.data.toList.length q.1.2 (flat e u.data.toList) :: L) (fun b w K S => by
    have hg : u.size ≤ grownCap w u.size 0 e.T := by unfold grownCap Question.cut; exact Nat.le_add_right _ _
    have hl : u.data.toList.length = u.size := by simp
    refine ⟨⟨(some ⟨w.heap.size, 0, none⟩, grownCap w u.size 0 e.T), by rw [hl]; exact hg⟩, w.drew.alloc (.cells (bytesRow u (grownCap w u.size 0 e.T)) e.T ((bytesRow u (grownCap w u.size 0 e.T)).size, (bytesRow u (grownCap w u.size 0 e.T)).size + 1)), ?_, ?_⟩
    · simp only [execOp, K.eval hx]
      rw [Sem.run_bind, run_bytes_of_string w s t e.T u hs ht hT, hl]
      rfl
    · have S1 := S.drew.alloc (.cells (bytesRow u (grownCap w u.size 0 e.T)) e.T ((bytesRow u (grownCap w u.size 0 e.T)).size, (bytesRow u (grownCap w u.size 0 e.T)).size + 1))
      refine S1.imp fun hh hb => ⟨?_, w.heap.size, _, _, rfl, ?_, hb⟩
      · rw [← map_flat hc, List.length_map, hz, Nat.mul_one]
      · rw [hz, Nat.mul_one, bytesRow, Array.toList_append, List.take_append_of_le_length (by simp), Array.toList_map, List.take_of_length_le (by simp), map_flat hc]) fun q => h q.1.1 q.1.2 q.2
/-- 'a[i]' of an array's value whose elements are one cell each. -/
theorem o_arrIndex {α : Type} {f : α → Value} {xs : List α} {t e : TypeId} {x i : Operand} {n : Nat} {k : IntKind} {q : Int} {y : α} {ed : TypeDesc} {z : Value} {b : Nat} (hd : Nat.ble (d + 1) N = true) (hx : opv l x = some (.agg (xs.map f).toArray)) (hi : opv l i = some (.int k q)) (ht : P.underlying t = some (.array n e)) (hu : P.underlying e = some ed) (ha : aggD ed = false) (hs : TI P e z 1 b) (h0 : 0 ≤ q) (hn : q < n) (hv : xs[q.toNat]? = some y)
    (h : WL P ops Q rest N ((d, f y) :: l) W L) : WL P ops Q (⟨some d, .index t x i, ty, pos, af, none⟩ :: rest) N l W L :=
  o_val hd (fun a w K _ => by
    have h9 : ((xs.map f).toArray)[q.toNat]? = some (f y) := by rw [List.getElem?_toArray, List.getElem?_map, hv]; rfl
    simp [execOp, K.eval hx, K.eval hi, Instr.index, asIntOf, run_underlying ht, h0, hn, part, run_isAgg hu, ha, run_sizeOf' hs, hv]) h
end
end Go.Proofs.Ytlblipkcbmcfkaa
