/- The law of AcceptTells: plain (hand-written). -/
import Derived.Test.YtcdodagebbfjoaaVotep
set_option linter.unusedVariables false
set_option linter.unusedSimpArgs false
namespace Go.Proofs.Ytcdodagebbfjoaa
open Go.RowKit Classical
structure TellsOk (s : VSA) (ok : Bool) (v : VoS) : Prop where
  okv : OkVA s
  pr : ok = true → v.f_Ballot ≤ s.pr
  mem : ok = true → (⟨v.f_Slot, v⟩ : ItA) ∈ s.xs
theorem tells_ok {v : VoS} {ok : Bool} (hu : 0 ≤ v.f_Ballot) (h : decide (accOkA (⟨0, []⟩ : VSA) v) = ok) : ok = (decide (0 ≤ v.f_Slot) && decide (v.f_Slot < 64)) := by
  rw [← h, ← Bool.decide_and]
  congr 1
  unfold accOkA
  exact propext ⟨fun h9 => h9.2, fun h9 => ⟨hu, h9⟩⟩
theorem tells_0 {v : VoS} {ok : Bool} (h : decide (accOkA (⟨0, []⟩ : VSA) v) = ok) : TellsOk (accSA (⟨0, []⟩ : VSA) v) ok v where
  okv := okV_accSA okV_newA
  pr h1 := by
    rw [h1, decide_eq_true_eq] at h
    rw [show accSA (⟨0, []⟩ : VSA) v = _ from if_pos h]
    exact Int.le_refl _
  mem h1 := by
    rw [h1, decide_eq_true_eq] at h
    rw [show accSA (⟨0, []⟩ : VSA) v = _ from if_pos h]
    exact mem_newA
theorem TellsOk.prom {s : VSA} {ok : Bool} {v : VoS} {b : Int} (h : TellsOk s ok v) : TellsOk (promSA s b) ok v where
  okv := okV_promSA h.okv
  pr h1 := by
    have := h.pr h1
    unfold promSA
    split
    · rename_i h2; show v.f_Ballot ≤ b; omega
    · exact this
  mem h1 := by
    have := h.mem h1
    unfold promSA
    split <;> exact this
theorem TellsOk.acc {s : VSA} {ok : Bool} {v u : VoS} (h : TellsOk s ok v) (hne : u.f_Slot ≠ v.f_Slot) : TellsOk (accSA s u) ok v where
  okv := okV_accSA h.okv
  pr h1 := by
    have := h.pr h1
    unfold accSA
    split
    · rename_i h2; exact Int.le_trans this h2.1
    · exact this
  mem h1 := by
    have := h.mem h1
    unfold accSA
    split
    · exact mem_keepA (fun h9 => hne h9.symm) this
    · exact this
theorem TellsOk.list {s : VSA} {v : VoS} {b : Int} (h : TellsOk s true v) (hb : s.pr ≤ b) : ∃ zs, promLA s b v.f_Slot = v :: zs := by
  obtain ⟨zs, hz⟩ := sel_headA h.okv.srt (h.mem rfl)
  exact ⟨zs.map ItA.f_value, by
    rw [show promLA s b v.f_Slot = _ from if_pos hb]
    rw [show sel ItA.f_key ilt (some v.f_Slot) s.xs = (⟨v.f_Slot, v⟩ : ItA) :: zs from hz]; rfl⟩
theorem tells_rise {s : VSA} {ok : Bool} {v : VoS} {b : Int} (h : TellsOk s ok v) (hb : s.pr ≤ b) (h5 : ¬ v.f_Ballot ≤ b) : ok = false := Bool.eq_false_iff.2 fun h9 => h5 (Int.le_trans (h.pr h9) hb)
end Go.Proofs.Ytcdodagebbfjoaa
