/- Many resources in one; rows of rows. -/
import Derived.Test.YtllclglbfdncnaaRange
import Derived.Test.YtllclglbfdncnaaOpen
set_option linter.unusedVariables false
set_option linter.unusedSimpArgs false
namespace Go.Proofs.Ytllclglbfdncnaa
open Go.RowKit
theorem Sat.stars_cons {W w : World} {A : Res} {Rs L : List Res} (S : Sat W w (stars (A :: Rs) :: L)) : Sat W w (A :: stars Rs :: L) := by
  have h := S.flat
  exact (h.perm (List.perm_middle.symm : (A :: (Rs ++ L)).Perm (Rs ++ A :: L))).unflat.perm (List.Perm.swap _ _ _)
theorem Sat.stars_uncons {W w : World} {A : Res} {Rs L : List Res} (S : Sat W w (A :: stars Rs :: L)) : Sat W w (stars (A :: Rs) :: L) := by
  have h := (S.perm (List.Perm.swap _ _ _) : Sat W w (stars Rs :: A :: L)).flat
  exact Sat.unflat (Ls := A :: Rs) (h.perm (List.perm_middle : (Rs ++ A :: L).Perm (A :: (Rs ++ L))))
theorem Sat.stars_snoc {W w : World} {A : Res} {Rs L : List Res} (S : Sat W w (A :: stars Rs :: L)) : Sat W w (stars (Rs ++ [A]) :: L) := by
  have h := (S.perm (List.Perm.swap _ _ _) : Sat W w (stars Rs :: A :: L)).flat
  refine Sat.unflat (Ls := Rs ++ [A]) ?_
  simpa using h
theorem Sat.stars_nil {W w : World} {L : List Res} (S : Sat W w L) : Sat W w (stars [] :: L) := Sat.unflat (Ls := []) S
theorem Sat.stars_mem {W w : World} {A : Res} {Rs L : List Res} (S : Sat W w (stars Rs :: L)) (h : A ∈ Rs) : ∃ L', Sat W w (A :: L') := mem_front (List.mem_append_left _ h) S.flat
/-- A slice's value, owned. -/
def vrow {α : Type} (e : Enc α) (s : Sl α) : Res := row e.T e.sz s.a s.xs.length s.c (flat e s.xs)
theorem rds_stars {α : Type} {P : Program} {W : World} {L : List Res} {e : Enc α} {a : Option Addr} {xs : List α} {c : Nat} {Rs : List Res} (ok : EncOk P e) (i : Nat) (h : L[i]? = some (stars Rs)) (hm : row e.T e.sz a xs.length c (flat e xs) ∈ Rs) : RdS W L e a xs := fun w S => by
  obtain ⟨L1, S1⟩ := mem_front (List.mem_of_getElem? h) S
  obtain ⟨L2, S2⟩ := S1.stars_mem hm
  exact S2.own_rds ok
theorem rds_vrow {α : Type} {P : Program} {W : World} {L : List Res} {e : Enc α} {s : Sl α} {ss : List (Sl α)} (ok : EncOk P e) (i : Nat) (h : L[i]? = some (stars (ss.map (vrow e)))) (hm : s ∈ ss) : RdS W L e s.a s.xs :=
  rds_stars ok i h (List.mem_map.2 ⟨s, hm, rfl⟩)
end Go.Proofs.Ytllclglbfdncnaa
