/- The law of BtreeNext: plain (hand-written). -/
import Derived.Test.YtlbggbjekpfokaaFstB
import Derived.Test.YtlbggbjekpfokaaFst
set_option linter.unusedVariables false
set_option linter.unusedSimpArgs false
namespace Go.Proofs.Ytlbggbjekpfokaa
open Go.RowKit Classical
abbrev s97 : ByteArray := ⟨#[97]⟩
abbrev s98 : ByteArray := ⟨#[98]⟩
abbrev s9797 : ByteArray := ⟨#[97, 97]⟩
theorem lab : strlt s97 s98 := rfl
theorem nba : ¬ strlt s98 s97 := fun h => by cases (show slt s98 s97 = true from h)
theorem laaa : strlt s97 s9797 := rfl
theorem nbaa : ¬ strlt s98 s9797 := fun h => by cases (show slt s98 s9797 = true from h)
theorem sp1 : ins ItA.f_key strlt (⟨s98, 1⟩ : ItA) [] = [⟨s98, 1⟩] := rfl
theorem sp2 : ins ItA.f_key strlt (⟨s97, 2⟩ : ItA) (ins ItA.f_key strlt (⟨s98, 1⟩ : ItA) []) = [⟨s97, 2⟩, ⟨s98, 1⟩] := if_pos lab
theorem sp3 : ins ItA.f_key strlt (⟨s98, 3⟩ : ItA) (ins ItA.f_key strlt (⟨s97, 2⟩ : ItA) (ins ItA.f_key strlt (⟨s98, 1⟩ : ItA) [])) = [⟨s97, 2⟩, ⟨s98, 3⟩] := by
  rw [sp2]
  rw [ins, if_neg nba, if_pos lab, ins, if_neg (strlt_sto.irr _), if_neg (strlt_sto.irr _)]
theorem spSel : sel ItA.f_key strlt (some s9797) [⟨s97, 2⟩, ⟨s98, 3⟩] = [⟨s98, 3⟩] := by
  simp only [sel]
  rw [List.filter_cons_of_neg (by simp only [decide_eq_true_eq, Classical.not_not]; exact laaa), List.filter_cons_of_pos (by simp only [decide_eq_true_eq]; exact nbaa), List.filter_nil]
theorem spOld {old : Int} {had : Bool} (h : Old ItA.f_key ItA.f_value (0 : Int) (⟨s98, 3⟩ : ItA) (ins ItA.f_key strlt (⟨s97, 2⟩ : ItA) (ins ItA.f_key strlt (⟨s98, 1⟩ : ItA) [])) old had) : old = 1 ∧ had = true := by
  rw [sp2] at h
  exact ⟨h.old1 ⟨s98, 1⟩ (by simp) rfl, h.hadI.2 ⟨⟨s98, 1⟩, by simp, rfl⟩⟩
theorem spFst {nk : ByteArray} {ok : Bool} (h : FirstOk_A (sel ItA.f_key strlt (some s9797) (ins ItA.f_key strlt (⟨s98, 3⟩ : ItA) (ins ItA.f_key strlt (⟨s97, 2⟩ : ItA) (ins ItA.f_key strlt (⟨s98, 1⟩ : ItA) [])))) nk ok) : nk = s98 ∧ ok = true := by
  rw [sp3, spSel] at h
  exact ⟨h.2, h.1⟩
/-- From key to key. -/
structure NextOk (ks : List ItB) (j : Nat) (at_ : Int) : Prop where
  lo : ∀ c ∈ ks.take j, c.f_key < at_
  hi : ∀ d ∈ ks.drop j, ¬ d.f_key < at_
  bd : 0 ≤ at_ ∧ at_ ≤ 65536
theorem nextSel {ks : List ItB} {j : Nat} {at_ : Int} (h : NextOk ks j at_) : sel ItB.f_key ilt (some at_) ks = ks.drop j := by
  conv => lhs; rw [← List.take_append_drop j ks]
  rw [sel_append, sel_lt h.lo, sel_ge h.hi, List.nil_append]
theorem NextOk.start {ks : List ItB} (h : ∀ y ∈ ks, 0 ≤ y.f_key ∧ y.f_key ≤ 65535) : NextOk ks 0 0 := ⟨fun c hc => (by simp at hc), fun d hd => (by have := h d (by simpa using hd); omega), by omega⟩
theorem NextOk.on {ks : List ItB} {j : Nat} {at_ : Int} {y : ItB} (hs : Srt ItB.f_key ilt ks) (hb : ∀ y ∈ ks, 0 ≤ y.f_key ∧ y.f_key ≤ 65535) (h : NextOk ks j at_) (hy : ks[j]? = some y) : NextOk ks (j + 1) (y.f_key + 1) := by
  have hyb := hb y (List.mem_of_getElem? hy)
  refine ⟨fun c hc => ?_, fun d hd => ?_, by omega⟩
  · have h1 := lo_on ilt_sto (k := y.f_key + 1) hs hy (by show y.f_key < y.f_key + 1; omega) c hc
    exact h1
  · obtain ⟨hj, rfl⟩ := List.getElem?_eq_some_iff.1 hy
    obtain ⟨m, hm, rfl⟩ := List.mem_iff_getElem.1 hd
    rw [List.length_drop] at hm
    rw [List.getElem_drop]
    have := (List.pairwise_iff_getElem.1 hs) j (j + 1 + m) hj (by omega) (by omega)
    have h2 : ks[j].f_key < ks[j + 1 + m].f_key := this
    omega
theorem NextOk.first {ks : List ItB} {j : Nat} {at_ nk : Int} {ok : Bool} {y : ItB} (h : NextOk ks j at_) (hy : ks[j]? = some y) (hf : FirstOk_B (sel ItB.f_key ilt (some at_) ks) nk ok) : ok = true ∧ nk = y.f_key := by
  rw [nextSel h] at hf
  obtain ⟨hj, rfl⟩ := List.getElem?_eq_some_iff.1 hy
  rw [List.drop_eq_getElem_cons hj] at hf
  exact hf
theorem NextOk.last {ks : List ItB} {j : Nat} {at_ nk : Int} {ok : Bool} (h : NextOk ks j at_) (hj : ks.length ≤ j) (hf : FirstOk_B (sel ItB.f_key ilt (some at_) ks) nk ok) : ok = false := by
  rw [nextSel h, List.drop_of_length_le hj] at hf
  exact hf.1
theorem ins_bd {ks : List ItB} {q : Nat} {v : Int} (hq : q ≤ 65535) (h : ∀ y ∈ ks, 0 ≤ y.f_key ∧ y.f_key ≤ 65535) : ∀ y ∈ ins ItB.f_key ilt (⟨(q : Int), v⟩ : ItB) ks, 0 ≤ y.f_key ∧ y.f_key ≤ 65535 := fun y hy => by
  rcases mem_ins hy with rfl | hy
  · exact ⟨by show (0 : Int) ≤ (q : Int); omega, by show (q : Int) ≤ 65535; omega⟩
  · exact h y hy
theorem ins_len {ks : List ItB} {x : ItB} {old : Int} {had : Bool} {n : Nat} (hs : Srt ItB.f_key ilt ks) (h : Old ItB.f_key ItB.f_value (0 : Int) x ks old had) (hn : ks.length ≤ n) : (ins ItB.f_key ilt x ks).length ≤ n + 1 := by
  have := h.len ilt_sto hs
  split at this <;> omega
end Go.Proofs.Ytlbggbjekpfokaa
