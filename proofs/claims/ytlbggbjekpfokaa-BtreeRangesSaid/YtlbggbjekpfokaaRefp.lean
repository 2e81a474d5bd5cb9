/- The list of the document: plain (hand-written). -/
import Derived.Test.YtlbggbjekpfokaaTy2
import Derived.Test.YtlbggbjekpfokaaIter
set_option linter.unusedVariables false
set_option linter.unusedSimpArgs false
namespace Go.Proofs.Ytlbggbjekpfokaa
open Go.RowKit Classical
def toR (x : ItA) : ItR := ⟨x.f_key, x.f_value⟩
structure PlaceOk (rs : List ItR) (k : ByteArray) (i : Nat) (b : Bool) : Prop where
  le : i ≤ rs.length
  lo : ∀ c ∈ rs.take i, strlt c.f_Key k
  hi : ∀ y, rs[i]? = some y → ¬ strlt y.f_Key k
  eq : b = true ↔ ∃ y, rs[i]? = some y ∧ y.f_Key = k
theorem place_on {rs : List ItR} {k : ByteArray} {i : Nat} {x : ItR} (h : ∀ c ∈ rs.take i, strlt c.f_Key k) (hx : rs[((i : Int)).toNat]? = some x) (h2 : slt x.f_Key k = true) : ∀ c ∈ rs.take (i + 1), strlt c.f_Key k := fun c hc => by
  have hx' : rs[i]? = some x := hx
  obtain ⟨hj, rfl⟩ := List.getElem?_eq_some_iff.1 hx'
  rw [List.take_succ_eq_append_getElem hj] at hc
  rcases List.mem_append.1 hc with h9 | h9
  · exact h c h9
  · rw [List.mem_singleton.1 h9]; exact h2
theorem place_end {rs : List ItR} {k : ByteArray} {i : Nat} (hi : i ≤ rs.length) (h : ∀ c ∈ rs.take i, strlt c.f_Key k) (hn : rs.length ≤ i) : PlaceOk rs k i false :=
  ⟨hi, h, fun y hy => absurd (List.getElem?_eq_some_iff.1 hy).1 (by omega), ⟨fun h9 => (by cases h9), fun ⟨y, hy, _⟩ => absurd (List.getElem?_eq_some_iff.1 hy).1 (by omega)⟩⟩
theorem place_hit {rs : List ItR} {k : ByteArray} {i : Nat} {x y : ItR} (hi : i ≤ rs.length) (h : ∀ c ∈ rs.take i, strlt c.f_Key k) (hx : rs[((i : Int)).toNat]? = some x) (h2 : slt x.f_Key k = false) (hy : rs[((i : Int)).toNat]? = some y) [inst : Decidable (y.f_Key = k)] : PlaceOk rs k i (@decide (y.f_Key = k) inst) := by
  rw [hx] at hy; cases hy
  have hx' : rs[i]? = some x := hx
  refine ⟨hi, h, fun z hz h9 => ?_, ?_⟩
  · rw [hx'] at hz; cases hz
    rw [show slt x.f_Key k = true from h9] at h2; cases h2
  · rw [decide_eq_true_iff]
    exact ⟨fun h9 => ⟨x, hx', h9⟩, fun ⟨z, hz, h9⟩ => by rw [hx'] at hz; cases hz; exact h9⟩
noncomputable def putR (rs : List ItR) (k : ByteArray) (v : Int) (i : Nat) (b : Bool) : List ItR := if b = true then rs.set i ⟨k, v⟩ else rs.take i ++ ⟨k, v⟩ :: rs.drop i
theorem put_two {rs ys zs : List ItR} {x : ItR} {i : Nat} (h1 : ys = sub rs 0 i) (h2 : zs = sub rs i rs.length) : ([] : List ItR) ++ ys ++ [x] ++ zs = rs.take i ++ x :: rs.drop i := by
  subst h1 h2
  simp [sub]
theorem PlaceOk.found {ks : List ItA} {k : ByteArray} {i : Nat} {b : Bool} (hs : Srt ItA.f_key strlt ks) (h : PlaceOk (ks.map toR) k i b) : Found ItA.f_key strlt k ks i := by
  have hle := h.le
  rw [List.length_map] at hle
  refine ⟨hle, fun c hc => ?_, fun d hd => ?_⟩
  · exact h.lo (toR c) (by rw [← List.map_take]; exact List.mem_map_of_mem hc)
  · obtain ⟨m, hm, rfl⟩ := List.mem_iff_getElem.1 hd
    rw [List.length_drop] at hm
    rw [List.getElem_drop]
    have hi : ¬ strlt ks[i].f_key k := h.hi (toR ks[i]) (by rw [List.getElem?_map, List.getElem?_eq_getElem (by omega)]; rfl)
    rcases Nat.eq_zero_or_pos m with rfl | h0
    · exact hi
    · have h2 := (List.pairwise_iff_getElem.1 hs) i (i + m) (by omega) (by omega) (by omega)
      exact fun h9 => hi (strlt_sto.tr h2 h9)
theorem put_ins {ks : List ItA} {k : ByteArray} {v : Int} {i : Nat} {b : Bool} (hs : Srt ItA.f_key strlt ks) (h : PlaceOk (ks.map toR) k i b) : putR (ks.map toR) k v i b = (ins ItA.f_key strlt (⟨k, v⟩ : ItA) ks).map toR := by
  have hf := h.found hs
  have hle := hf.le
  unfold putR
  split
  · rename_i hb
    obtain ⟨y, hy, he⟩ := h.eq.1 hb
    rw [List.getElem?_map] at hy
    obtain ⟨z, hz, rfl⟩ := Option.map_eq_some_iff.1 hy
    obtain ⟨hj, rfl⟩ := List.getElem?_eq_some_iff.1 hz
    have e1 : ks = ks.take i ++ ks[i] :: ks.drop (i + 1) := by rw [← List.drop_eq_getElem_cons hj, List.take_append_drop]
    conv => rhs; rw [e1]
    rw [ins_eq strlt_sto hf.lo he, List.map_append, List.map_cons, List.set_eq_take_append_cons_drop, if_pos (by rw [List.length_map]; exact hj), List.map_take, List.map_drop]
    rfl
  · rename_i hb
    have hg := hf.gt strlt_sto hs fun ⟨y, hy, he⟩ => hb (h.eq.2 ⟨toR y, by rw [List.getElem?_map, hy]; rfl, he⟩)
    conv => rhs; rw [← List.take_append_drop i ks]
    rw [ins_pre strlt_sto hf.lo, ins_gt hg, List.map_append, List.map_cons, List.map_take, List.map_drop]
    rfl
theorem sel_place {ks : List ItA} {k : ByteArray} {i : Nat} {b : Bool} (hs : Srt ItA.f_key strlt ks) (h : PlaceOk (ks.map toR) k i b) : sel ItA.f_key strlt (some k) ks = ks.drop i := by
  have hf := h.found hs
  conv => lhs; rw [← List.take_append_drop i ks]
  rw [sel_append, sel_lt hf.lo, sel_ge hf.hi, List.nil_append]
theorem pre_get {ks pre : List ItA} {x : ItA} {k : ByteArray} {i : Nat} {b : Bool} (hs : Srt ItA.f_key strlt ks) (h : PlaceOk (ks.map toR) k i b) (hp : pre ++ [x] <+: sel ItA.f_key strlt (some k) ks) : (ks.map toR)[i + pre.length]? = some (toR x) ∧ i + pre.length < ks.length := by
  rw [sel_place hs h] at hp
  obtain ⟨zs, hz⟩ := hp
  have h1 : (ks.drop i)[pre.length]? = some x := by rw [← hz]; simp
  rw [List.getElem?_drop] at h1
  exact ⟨by rw [List.getElem?_map, h1]; rfl, (List.getElem?_eq_some_iff.1 h1).1⟩
theorem insA_len {ks : List ItA} {x : ItA} {old : Int} {had : Bool} {n : Nat} (hs : Srt ItA.f_key strlt ks) (h : Old ItA.f_key ItA.f_value (0 : Int) x ks old had) (hn : ks.length ≤ n) : (ins ItA.f_key strlt x ks).length ≤ n + 1 := by
  have := h.len strlt_sto hs
  split at this <;> omega
end Go.Proofs.Ytlbggbjekpfokaa
