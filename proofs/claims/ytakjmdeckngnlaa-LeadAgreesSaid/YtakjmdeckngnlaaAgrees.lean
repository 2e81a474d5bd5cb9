/- The law of LeadAgrees: groups of voters and of leaders, and a round's steps (hand-written). -/
import Derived.Test.YtakjmdeckngnlaaAgreer
import Derived.Test.YtakjmdeckngnlaaVotB
import Derived.Test.YtakjmdeckngnlaaLead2
import Derived.Test.YtakjmdeckngnlaaBits
set_option linter.unusedVariables false
set_option linter.unusedSimpArgs false
namespace Go.Proofs.Ytakjmdeckngnlaa
open Go.RowKit Classical
theorem val_pair {p : Int × Bool} (h : p.2 = true) : p = (p.1, true) := by rw [← h]
def vgR (gs : List (Nat × VSB)) : Res := stars (gs.map fun z => VtB z.1 z.2)
def lgR (ls : List (Nat × LdS Int)) : Res := stars (ls.map fun z => LdRI z.1 z.2)
section
variable {W w : World} {L : List Res}
theorem Sat.vg_take {gs : List (Nat × VSB)} {i : Nat} {z : Nat × VSB} (hk : gs[i]? = some z) (S : Sat W w (vgR gs :: L)) : Sat W w (VtB z.1 z.2 :: vgR (gs.eraseIdx i) :: L) := by
  have hp := erase_perm hk
  exact Sat.stars_cons (Rs := (gs.eraseIdx i).map fun z => VtB z.1 z.2) (S.stars_perm (hp.symm.map fun z => VtB z.1 z.2))
theorem Sat.vg_set {gs : List (Nat × VSB)} {i : Nat} {k : Nat} {s : VSB} (hi : i < gs.length) (S : Sat W w (VtB k s :: vgR (gs.eraseIdx i) :: L)) : Sat W w (vgR (gs.set i (k, s)) :: L) := by
  have hp := set_perm (k := (k, s)) hi
  exact (Sat.stars_uncons S).stars_perm ((hp.symm).map fun z => VtB z.1 z.2)
theorem Sat.vg_app {gs : List (Nat × VSB)} {k : Nat} {s : VSB} (S : Sat W w (VtB k s :: vgR gs :: L)) : Sat W w (vgR (gs ++ [(k, s)]) :: L) := by
  have hp : ((k, s) :: gs).Perm (gs ++ [(k, s)]) := List.perm_append_comm (l₁ := [(k, s)]) (l₂ := gs)
  exact (Sat.stars_uncons S).stars_perm (hp.map fun z => VtB z.1 z.2)
theorem Sat.lg_take {ls : List (Nat × LdS Int)} {i : Nat} {z : Nat × LdS Int} (hk : ls[i]? = some z) (S : Sat W w (lgR ls :: L)) : Sat W w (LdRI z.1 z.2 :: lgR (ls.eraseIdx i) :: L) := by
  have hp := erase_perm hk
  exact Sat.stars_cons (Rs := (ls.eraseIdx i).map fun z => LdRI z.1 z.2) (S.stars_perm (hp.symm.map fun z => LdRI z.1 z.2))
theorem Sat.lg_set {ls : List (Nat × LdS Int)} {i : Nat} {k : Nat} {s : LdS Int} (hi : i < ls.length) (S : Sat W w (LdRI k s :: lgR (ls.eraseIdx i) :: L)) : Sat W w (lgR (ls.set i (k, s)) :: L) := by
  have hp := set_perm (k := (k, s)) hi
  exact (Sat.stars_uncons S).stars_perm ((hp.symm).map fun z => LdRI z.1 z.2)
theorem Sat.lg_app {ls : List (Nat × LdS Int)} {k : Nat} {s : LdS Int} (S : Sat W w (LdRI k s :: lgR ls :: L)) : Sat W w (lgR (ls ++ [(k, s)]) :: L) := by
  have hp : ((k, s) :: ls).Perm (ls ++ [(k, s)]) := List.perm_append_comm (l₁ := [(k, s)]) (l₂ := ls)
  exact (Sat.stars_uncons S).stars_perm (hp.map fun z => LdRI z.1 z.2)
end
/-! ### A group as a function -/
def gAt {σ : Type} (d : Int → σ) (gs : List (Nat × σ)) (k : Int) : σ := if 0 ≤ k then ((gs[k.toNat]?).map Prod.snd).getD (d k) else d k
theorem gAt_get {σ : Type} {d : Int → σ} {gs : List (Nat × σ)} {i : Nat} {z : Nat × σ} (h : gs[i]? = some z) : gAt d gs (i : Int) = z.2 := by
  unfold gAt
  rw [if_pos (by omega), show ((i : Int)).toNat = i from rfl, h]; rfl
theorem gAt_set {σ : Type} {d : Int → σ} {gs : List (Nat × σ)} {i p : Nat} {s : σ} (hi : i < gs.length) : gAt d (gs.set i (p, s)) = fup (gAt d gs) (i : Int) s := by
  funext k
  unfold gAt fup
  dsimp only
  by_cases h0 : 0 ≤ k
  · rw [if_pos h0, if_pos h0, List.getElem?_set]
    by_cases e : k = (i : Int)
    · rw [if_pos e, if_pos (by omega), if_pos (by omega)]; rfl
    · rw [if_neg e, if_neg (by omega)]
  · rw [if_neg h0, if_neg h0, if_neg (by omega)]
theorem gAt_const {σ : Type} {d : Int → σ} {gs : List (Nat × σ)} (h : ∀ (j : Nat) (z : Nat × σ), gs[j]? = some z → z.2 = d (j : Int)) : gAt d gs = d := by
  funext k
  unfold gAt
  by_cases h0 : 0 ≤ k
  · rw [if_pos h0]
    cases hm : gs[k.toNat]? with
    | none => rfl
    | some z =>
      have h1 := h k.toNat z hm
      rw [show ((k.toNat : Nat) : Int) = k by omega] at h1
      exact h1
  · rw [if_neg h0]
theorem fst_setG {σ : Type} {gs : List (Nat × σ)} {i k : Nat} {z : Nat × σ} {s : σ} (hz : gs[i]? = some z) (hk : z.1 = k) : (gs.set i (k, s)).map Prod.fst = gs.map Prod.fst := by
  obtain ⟨hi, rfl⟩ := List.getElem?_eq_some_iff.1 hz
  subst hk
  rw [List.map_set]
  exact List.ext_getElem? fun j => by
    rw [List.getElem?_set]
    split
    · rename_i he; subst he
      rw [List.length_map, if_pos hi, List.getElem?_map, List.getElem?_eq_getElem hi]; rfl
    · rfl
abbrev dV : Int → VSB := fun _ => ⟨0, []⟩
abbrev dL (n : Nat) : Int → LdS Int := fun b => ldNew Int (b + 1) n 0
/-! ### Making the groups -/
structure GV (gs : List (Nat × VSB)) (i : Nat) : Prop where
  len : gs.length = i
  st : ∀ (j : Nat) (z : Nat × VSB), gs[j]? = some z → z.2 = ⟨0, []⟩
theorem gv_0 : GV [] 0 := ⟨rfl, fun j z h => by simp at h⟩
theorem GV.app {gs : List (Nat × VSB)} {i k : Nat} (h : GV gs i) : GV (gs ++ [(k, ⟨0, []⟩)]) (i + 1) := ⟨by simp [h.len], fun j z hz => by
  by_cases hj : j < gs.length
  · rw [List.getElem?_append_left hj] at hz; exact h.st j z hz
  · rw [List.getElem?_append_right (by omega)] at hz
    have := List.mem_of_getElem? hz
    rw [List.mem_singleton.1 this]⟩
structure GL (n : Nat) (ls : List (Nat × LdS Int)) (i : Nat) : Prop where
  len : ls.length = i
  st : ∀ (j : Nat) (z : Nat × LdS Int), ls[j]? = some z → z.2 = dL n (j : Int)
theorem gl_0 {n : Nat} : GL n [] 0 := ⟨rfl, fun j z h => by simp at h⟩
theorem GL.app {n : Nat} {ls : List (Nat × LdS Int)} {i k : Nat} (h : GL n ls i) : GL n (ls ++ [(k, ldNew Int ((i : Int) + 1) n 0)]) (i + 1) := ⟨by simp [h.len], fun j z hz => by
  have hl := h.len
  by_cases hj : j < ls.length
  · rw [List.getElem?_append_left hj] at hz; exact h.st j z hz
  · rw [List.getElem?_append_right (by omega)] at hz
    have h1 := List.mem_of_getElem? hz
    have h2 : j - ls.length = 0 := by have := (List.getElem?_eq_some_iff.1 hz).1; simp at this; omega
    rw [List.mem_singleton.1 h1, show j = i by omega]⟩
/-! ### The rounds -/
structure AgR (n : Nat) (ps qs : List Nat) (gs : List (Nat × VSB)) (ls : List (Nat × LdS Int)) (C : List (Int × Int)) : Prop where
  gl : gs.length = n
  ll : ls.length = 4
  gf : gs.map Prod.fst = ps
  lf : ls.map Prod.fst = qs
  inv : ∃ H, Ag n (gAt dV gs) (gAt (dL n) ls) H ∧ ∀ s y, mget C s = some y → ∃ β, Chosen n H s β y
theorem agr_0 {n : Nat} {gs : List (Nat × VSB)} {ls : List (Nat × LdS Int)} (hg : GV gs n) (hl : GL n ls 4) : AgR n (gs.map Prod.fst) (ls.map Prod.fst) gs ls [] :=
  ⟨hg.len, hl.len, rfl, rfl, [], by rw [gAt_const hg.st, gAt_const hl.st]; exact ag_0, fun s y h => by simp [mget_nil] at h⟩
section
variable {n : Nat} {ps qs : List Nat} {gs : List (Nat × VSB)} {ls : List (Nat × LdS Int)} {C : List (Int × Int)} {w b pw pb : Nat} {s : VSB} {l : LdS Int}
theorem AgR.vok (h : AgR n ps qs gs ls C) (hw : gs[w]? = some (pw, s)) : OkVB s := by
  obtain ⟨H, hA, _⟩ := h.inv
  have e2 : gAt dV gs (w : Int) = s := gAt_get hw
  have := hA.vok (w : Int)
  rw [e2] at this
  exact this
theorem promL_all {s : VSB} {β : Int} (ok : OkVB s) (h : s.pr ≤ β) : promLB s β 0 = s.xs.map ItB.f_value := by
  rw [show promLB s β 0 = _ from if_pos h, sel_ge fun y hy h9 => ?_]
  have h1 := ok.bd y hy
  have h2 : y.f_key < 0 := h9
  omega
theorem promL_lenB {s : VSB} {β fr : Int} (ok : OkVB s) : (promLB s β fr).length ≤ 64 := by
  have := okV_lenB ok
  unfold promLB
  split
  · rw [List.length_map]; exact Nat.le_trans (List.length_filter_le _ _) this
  · simp
/-- A round in which only the voter's promise rises (or nothing). -/
theorem AgR.rise (h : AgR n ps qs gs ls C) (hw : gs[w]? = some (pw, s)) (hb : ls[b]? = some (pb, l)) (β : Int) : AgR n ps qs (gs.set w (pw, promSB s β)) (ls.set b (pb, l)) C := by
  obtain ⟨H, hA, hC⟩ := h.inv
  have hwl := (List.getElem?_eq_some_iff.1 hw).1
  have hbl := (List.getElem?_eq_some_iff.1 hb).1
  refine ⟨by rw [List.length_set]; exact h.gl, by rw [List.length_set]; exact h.ll, by rw [fst_setG hw rfl]; exact h.gf, by rw [fst_setG hb rfl]; exact h.lf, H, ?_, hC⟩
  rw [gAt_set hwl, gAt_set hbl]
  have e1 : gAt (dL n) ls (b : Int) = l := gAt_get hb
  have e2 : gAt dV gs (w : Int) = s := gAt_get hw
  have h1 := hA.rise (w : Int) β
  rw [e2] at h1
  rw [show fup (gAt (dL n) ls) (b : Int) l = gAt (dL n) ls by rw [← e1]; exact fup_id]
  exact h1
theorem AgR.hear (h : AgR n ps qs gs ls C) (hw : gs[w]? = some (pw, s)) (hb : ls[b]? = some (pb, l)) (hp : s.pr ≤ (b : Int) + 1) (z : Vt Int) : AgR n ps qs (gs.set w (pw, promSB s ((b : Int) + 1))) (ls.set b (pb, l.promised z (w : Int) (s.xs.map ItB.f_value))) C := by
  obtain ⟨H, hA, hC⟩ := h.inv
  have hwl := (List.getElem?_eq_some_iff.1 hw).1
  have hbl := (List.getElem?_eq_some_iff.1 hb).1
  refine ⟨by rw [List.length_set]; exact h.gl, by rw [List.length_set]; exact h.ll, by rw [fst_setG hw rfl]; exact h.gf, by rw [fst_setG hb rfl]; exact h.lf, H, ?_, hC⟩
  rw [gAt_set hwl, gAt_set hbl]
  have e1 : gAt (dL n) ls (b : Int) = l := gAt_get hb
  have e2 : gAt dV gs (w : Int) = s := gAt_get hw
  have h1 := hA.rise (w : Int) ((b : Int) + 1)
  rw [e2] at h1
  have h2 := h1.hear (b := (b : Int)) (w := (w : Int)) (z := z) ⟨by omega, by have := h.gl; omega⟩ (by rw [fup_same, show promSB s ((b : Int) + 1) = _ from if_pos hp])
  rw [fup_same, e1, show (promSB s ((b : Int) + 1)).xs = s.xs by unfold promSB; split <;> rfl] at h2
  exact h2
theorem AgR.offer (h : AgR n ps qs gs ls C) (hw : gs[w]? = some (pw, s)) (hb : ls[b]? = some (pb, l)) (x : Int) : AgR n ps qs (gs.set w (pw, s)) (ls.set b (pb, (l.offer 0 x).2)) C := by
  obtain ⟨H, hA, hC⟩ := h.inv
  have hwl := (List.getElem?_eq_some_iff.1 hw).1
  have hbl := (List.getElem?_eq_some_iff.1 hb).1
  refine ⟨by rw [List.length_set]; exact h.gl, by rw [List.length_set]; exact h.ll, by rw [fst_setG hw rfl]; exact h.gf, by rw [fst_setG hb rfl]; exact h.lf, H, ?_, hC⟩
  rw [gAt_set hwl, gAt_set hbl]
  have e1 : gAt (dL n) ls (b : Int) = l := gAt_get hb
  have e2 : gAt dV gs (w : Int) = s := gAt_get hw
  rw [show fup (gAt dV gs) (w : Int) s = gAt dV gs by rw [← e2]; exact fup_id]
  have h1 := hA.offer (b : Int) x
  rw [e1] at h1
  exact h1
theorem AgR.same (h : AgR n ps qs gs ls C) (hw : gs[w]? = some (pw, s)) (hb : ls[b]? = some (pb, l)) : AgR n ps qs (gs.set w (pw, s)) (ls.set b (pb, l)) C := by
  obtain ⟨H, hA, hC⟩ := h.inv
  have hwl := (List.getElem?_eq_some_iff.1 hw).1
  have hbl := (List.getElem?_eq_some_iff.1 hb).1
  refine ⟨by rw [List.length_set]; exact h.gl, by rw [List.length_set]; exact h.ll, by rw [fst_setG hw rfl]; exact h.gf, by rw [fst_setG hb rfl]; exact h.lf, H, ?_, hC⟩
  rw [gAt_set hwl, gAt_set hbl]
  have e1 : gAt (dL n) ls (b : Int) = l := gAt_get hb
  have e2 : gAt dV gs (w : Int) = s := gAt_get hw
  rw [show fup (gAt dV gs) (w : Int) s = gAt dV gs by rw [← e2]; exact fup_id, show fup (gAt (dL n) ls) (b : Int) l = gAt (dL n) ls by rw [← e1]; exact fup_id]
  exact hA
/-- The voter takes the leader's value, and the leader counts it. -/
theorem AgR.take (h : AgR n ps qs gs ls C) (hn : n ≤ 9) (hw : gs[w]? = some (pw, s)) (hb : ls[b]? = some (pb, l)) {x : Int} (hv : l.value 0 = (x, true)) (ha : accOkB s (⟨l.slot, (b : Int) + 1, x⟩ : Vt Int)) :
    AgR n ps qs (gs.set w (pw, accSB s (⟨l.slot, (b : Int) + 1, x⟩ : Vt Int))) (ls.set b (pb, (l.taken 0 (w : Int) l.slot).2)) C ∧
    ((l.taken 0 (w : Int) l.slot).1.2 = true → (l.taken 0 (w : Int) l.slot).1.1 = x ∧ (∀ y, mget C l.slot = some y → y = x) ∧
      AgR n ps qs (gs.set w (pw, accSB s (⟨l.slot, (b : Int) + 1, x⟩ : Vt Int))) (ls.set b (pb, (l.taken 0 (w : Int) l.slot).2)) (mset C l.slot x)) := by
  obtain ⟨H, hA, hC⟩ := h.inv
  have hwl := (List.getElem?_eq_some_iff.1 hw).1
  have hbl := (List.getElem?_eq_some_iff.1 hb).1
  have e1 : gAt (dL n) ls (b : Int) = l := gAt_get hb
  have e2 : gAt dV gs (w : Int) = s := gAt_get hw
  have h1 := hA.vote hn (b := (b : Int)) (w := (w : Int)) (x := x) (by rw [e2]; exact ha.1) (by rw [e1]; exact ha.2.1) (by rw [e1]; exact hv)
  rw [e1, e2] at h1
  have h2 := h1.take hn (b := (b : Int)) (w := (w : Int)) (x := x) ⟨by omega, by have := h.gl; omega⟩ (by rw [e1]; exact List.mem_cons_self) (by rw [e1]; exact hv)
  rw [e1] at h2
  have hst : accSB s (⟨l.slot, (b : Int) + 1, x⟩ : Vt Int) = _ := if_pos ha
  have mk : ∀ C', (∀ s y, mget C' s = some y → ∃ β, Chosen n (((w : Int), l.slot, (b : Int) + 1, x) :: H) s β y) → AgR n ps qs (gs.set w (pw, accSB s (⟨l.slot, (b : Int) + 1, x⟩ : Vt Int))) (ls.set b (pb, (l.taken 0 (w : Int) l.slot).2)) C' := fun C' hC' =>
    ⟨by rw [List.length_set]; exact h.gl, by rw [List.length_set]; exact h.ll, by rw [fst_setG hw rfl]; exact h.gf, by rw [fst_setG hb rfl]; exact h.lf, _, by rw [gAt_set hwl, gAt_set hbl, hst]; exact h2.1, hC'⟩
  have hC2 : ∀ s y, mget C s = some y → ∃ β, Chosen n (((w : Int), l.slot, (b : Int) + 1, x) :: H) s β y := fun s y hs => by
    obtain ⟨β, hβ⟩ := hC s y hs
    exact ⟨β, hβ.more⟩
  refine ⟨mk C hC2, fun hd => ?_⟩
  obtain ⟨hx, hch⟩ := h2.2 hd
  refine ⟨hx, fun y hy => ?_, mk _ fun s2 y hs => ?_⟩
  · obtain ⟨β, hβ⟩ := hC2 _ y hy
    exact h2.1.agree hβ hch
  · rw [mget_set] at hs
    split at hs
    · rename_i e; cases hs; subst e; exact ⟨_, hch⟩
    · exact hC2 s2 y hs
end
end Go.Proofs.Ytakjmdeckngnlaa
