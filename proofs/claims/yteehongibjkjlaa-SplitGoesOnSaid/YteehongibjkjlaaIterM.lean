/- A range over an iterator that hands over memory with what it yields, and whose order is not fixed ahead. -/
import Derived.Test.YteehongibjkjlaaIter
set_option linter.unusedVariables false
set_option linter.unusedSimpArgs false
namespace Go.Proofs.Yteehongibjkjlaa
open Go.RowKit
/-- An iterator: called with any yield that keeps 'I' (what has come: 'pre') and tells by 'J' that it wants no more, beside whatever else there is. -/
def IterM {X : Type} (P : Program) (gf : FuncId) (caps : Array Value) (encs : X → List Value) (W : World) (Li : List Res) (M : X → Res) (ok dn : List X → Prop) : Prop :=
  ∀ (y : Value) (I : List X → List Res → Prop) (J : List Res → Prop) (L0 : List Res), I [] L0 →
    (∀ (Lx : List Res) pre x L, I pre L → ok (pre ++ [x]) → FV P y (encs x) W (M x :: (Lx ++ L)) (fun v L' => ∃ (bb : Bool) (L2 : List Res), v = .bool bb ∧ ((bb = true ∧ I (pre ++ [x]) L2) ∨ (bb = false ∧ J L2)) ∧ L' = Lx ++ L2)) →
    CS P gf (#[y] ++ caps) W (Li ++ L0) (fun _ L' => ∃ L2, ((∃ xs, dn xs ∧ I xs L2) ∨ J L2) ∧ L' = Li ++ L2)
section
variable {P : Program} {N : FN} {l : Fr} {W : World} {L L' L0 : List Res} {Q : Exit → Act → World → Prop}
/-- The statement 'for .. := range g { .. }' that is in no other's round. -/
theorem c_rangeM {X : Type} {g : Operand} {ps : Array Tmp} {assign body : Code} {gf : FuncId} {caps : Array Value} {encs : X → List Value} {M : X → Res} {ok dn : List X → Prop} {Li : List Res} (I : List X → List Res → Prop) (J : Code → List Res → Prop)
    (hro : N.ro = none) (hx : opv l g = some (.func (.func gf) #[] caps)) (hcl : Callable P gf) (hps : ps.toList.all (fun t => Nat.ble (t + 1) N.n) = true) (hen : ∀ x, ps.toList.length = (encs x).length) (hit : IterM P gf caps encs W Li M ok dn) (hL : ∀ w, Sat W w L → Sat W w (Li ++ L0)) (h0 : I [] L0)
    (hround : ∀ (Lx : List Res) (k : Nat) (r : Loop) (D : Res) pre x Lp, r.state = .ready → I pre Lp → ok (pre ++ [x]) →
      WC P assign (postB P k body fun e w' => ∃ v L', e = .returned v ∧ ((v = .bool true ∧ ∃ L2, I (pre ++ [x]) L2 ∧ L' = blk k (.loop { r with state := .ready, pending := none }) :: D :: (Lx ++ L2)) ∨ (v = .bool false ∧ ∃ c L2, J c L2 ∧ L' = blk k (.loop { r with state := .done, pending := some c }) :: D :: (Lx ++ L2))) ∧ Sat W w' L')
        { n := N.n, ro := some k } (putArgs ps.toList (encs x) l) W (blk k (.loop r) :: D :: M x :: (Lx ++ Lp)))
    (hdone : ∀ (d : Nat) xs Lp, dn xs → I xs Lp → WQ Q .normal { N with df := markD d :: N.df } l W (blk d (.deferred (some [])) :: (Li ++ Lp)))
    (hjump : ∀ (d : Nat) c Lp, J c Lp → WC P c Q { N with df := markD d :: N.df } l W (blk d (.deferred (some [])) :: (Li ++ Lp))) :
    WC P (.rangeFunc g ps assign body) Q N l W L := fun a w K S => by
  refine wpIn_rangeFunc fun fn _ => ?_
  have hfr : (fen N.ro).round = none := hro
  rw [hfr]
  let D : Res := blk w.heap.size (.deferred (some []))
  let r0 : Loop := { state := .ready, pending := none, fn, tmps := a.tmps, params := ps, assign, body, defers := w.heap.size }
  have S1 : Sat W (w.alloc (.deferred (some []))) (D :: (Li ++ L0)) := (hL w S).alloc _
  have S2 := S1.alloc (.loop r0)
  obtain ⟨k, hk⟩ : ∃ k, k = (w.alloc (.deferred (some []))).heap.size := ⟨_, rfl⟩
  rw [← hk] at S2
  have hks : k = w.heap.size + 1 := by rw [hk]; simp
  have pm : ∀ (A B : Res) (L : List Res), (A :: B :: (Li ++ L)).Perm (Li ++ (A :: B :: L)) := fun A B L =>
    ((List.Perm.cons A List.perm_middle.symm).trans List.perm_middle.symm)
  have pm' : ∀ (M : List Res) (A B : Res) (L : List Res), (A :: B :: (M ++ L)).Perm (M ++ (A :: B :: L)) := fun M A B L =>
    ((List.Perm.cons A List.perm_middle.symm).trans List.perm_middle.symm)
  have S3 : Sat W ((w.alloc (.deferred (some []))).alloc (.loop r0)) (Li ++ (blk k (.loop r0) :: D :: L0)) := S2.perm (pm _ _ _)
  have hcall := hit (.func (.yield k) #[] #[])
    (fun pre L => ∃ (r : Loop) (Lp : List Res), r.state = .ready ∧ r.pending = none ∧ r.fn = fn ∧ r.tmps = a.tmps ∧ r.params = ps ∧ r.assign = assign ∧ r.body = body ∧ I pre Lp ∧ L = blk k (.loop r) :: D :: Lp)
    (fun L => ∃ (r : Loop) (c : Code) (Lp : List Res), r.state = .done ∧ r.pending = some c ∧ J c Lp ∧ L = blk k (.loop r) :: D :: Lp)
    _ ⟨r0, L0, rfl, rfl, rfl, rfl, rfl, rfl, rfl, h0, rfl⟩ (by
      rintro Lx pre x L ⟨r, Lp, hr1, hr2, hr3, hr4, hr5, hr6, hr7, hI, rfl⟩ hpre w1 Sw ρ xo as_ tys dst ty pos af gd hxo has
      have Sk : Sat W w1 (blk k (.loop r) :: D :: M x :: (Lx ++ Lp)) := Sw.perm (((pm' Lx _ _ _).symm.cons (M x)).trans ((List.Perm.swap _ _ _).trans ((List.Perm.swap _ _ _).cons _)))
      have hy := run_yield (P := P) (args := (encs x).toArray) Sk.read.2 (by
        rw [hr5]; have := hen x; simpa using this.symm)
      refine ⟨.round k r.fn ((r.params.zip (encs x).toArray).foldl (fun tmps (p : Nat × Value) => tmps.setIfInBounds p.1 p.2) r.tmps) r.assign r.body, w1, ?_, .inr ⟨k, r.fn, _, r.assign, r.body, rfl, ?_⟩⟩
      · simp only [execOp, resolve, hxo, has, Deferred.ofValue, Sem.run_bind, Sem.run_pure, Result.andThen_ok, invoke]
        simpa using hy
      · rw [hr6, hr7, hr4, hr5]
        have K1 : Know { tmps := a.tmps, defers := [] } { n := N.n, ro := some k } l := ⟨K.size, rfl, K.val⟩
        have K2 := know_putArgs ps.toList (encs x) K1 hps (hen x)
        have h9 := hround Lx k r D pre x Lp hr1 hI hpre _ w1 K2 Sk
        have hz : (ps.zip (encs x).toArray).foldl (fun tmps (p : Nat × Value) => tmps.setIfInBounds p.1 p.2) a.tmps = (ps.toList.zip (encs x)).foldl (fun tmps (p : Nat × Value) => tmps.setIfInBounds p.1 p.2) a.tmps := by
          rw [← Array.foldl_toList, Array.toList_zip]
        have h8 : RoundIn (fen none) 0 P k r.fn _ assign body w1 _ := roundIn_of_wpIn (F := fen none) trivial h9
        have h7 : RoundIn Fence.wide 0 P k r.fn _ assign body w1 _ := h8
        have h6 : RoundIn Fence.wide 0 P k r.fn ((ps.zip (encs x).toArray).foldl (fun tmps (p : Nat × Value) => tmps.setIfInBounds p.1 p.2) a.tmps) assign body w1 _ := hz ▸ h7
        refine h6.mono ?_
        rintro e w2 ⟨v, L', rfl, hv, hs⟩
        rcases hv with ⟨rfl, L2, hI2, rfl⟩ | ⟨rfl, c, L2, hJ2, rfl⟩
        · exact ⟨_, _, rfl, ⟨true, _, rfl, .inl ⟨rfl, ⟨{ r with state := .ready, pending := none }, L2, rfl, rfl, hr3, hr4, hr5, hr6, hr7, hI2, rfl⟩⟩, rfl⟩, hs.perm (pm' Lx _ _ _)⟩
        · exact ⟨_, _, rfl, ⟨false, _, rfl, .inr ⟨rfl, ⟨{ r with state := .done, pending := some c }, c, L2, rfl, rfl, hJ2, rfl⟩⟩, rfl⟩, hs.perm (pm' Lx _ _ _)⟩)
  obtain ⟨gn, hf, hb, hn⟩ := hcl.is
  have hn' : ¬ gn.name = "runtime.NumGoroutine" := by simpa using hn
  have hb' : ¬ gn.body = none := by
    intro h0
    rw [h0] at hb
    cases hb
  obtain ⟨w3, hw3⟩ : ∃ w3, w3 = (w.alloc (.deferred (some []))).alloc (.loop r0) := ⟨_, rfl⟩
  rw [← hw3] at S3
  refine ⟨k, [markD w.heap.size], w3, { target := .fn (.func gf) caps, args := #[.func (.yield k) #[] #[]] }, w3, gf, #[.func (.yield k) #[] #[]] ++ caps, w3, ?_, ?_, fun _ _ => trivial, ?_, by simp [fen], ?_⟩
  · rw [hks, hw3]; exact run_enterLoop_outer _ _ _ _ _
  · simp only [resolve, K.eval hx, Deferred.ofValue]
    simp [Act.eval]
  · simp only [invoke, callFunc]
    simp [hf, hb', hn']
  · have h5 : CallsIn (fen none) 0 P gf (#[.func (.yield k) #[] #[]] ++ caps) _ _ := calls_in (hcall _ S3)
    refine h5.mono ?_
    rintro e w2 ⟨v, L', rfl, ⟨L2, hL2, rfl⟩, hs⟩
    rcases hL2 with ⟨xs, hdn, r, Lp, hr1, hr2, _, _, _, _, _, hI, rfl⟩ | ⟨r, c, Lp, hr1, hr2, hJ, rfl⟩
    · have hs1 := hs.perm (pm _ _ _).symm
      refine ⟨none, w2.putObj k (.loop { r with state := .exhausted }), by rw [run_endLoop hs1.read.2 (by rw [hr1]; simp), hr2], ?_⟩
      exact hdone w.heap.size xs Lp hdn hI _ _ ⟨K.size, by show [markD w.heap.size] ++ a.defers = _; rw [K.dfr]; rfl, K.val⟩ (hs1.putObj (o' := .loop { r with state := .exhausted })).tail
    · have hs1 := hs.perm (pm _ _ _).symm
      refine ⟨some c, w2.putObj k (.loop { r with state := .exhausted }), by rw [run_endLoop hs1.read.2 (by rw [hr1]; simp), hr2], ?_⟩
      have h4 := hjump w.heap.size c Lp hJ { tmps := a.tmps, defers := [markD w.heap.size] ++ a.defers } _ ⟨K.size, by show [markD w.heap.size] ++ a.defers = _; rw [K.dfr]; rfl, K.val⟩ (hs1.putObj (o' := .loop { r with state := .exhausted })).tail
      exact h4
end
theorem rgPM {A B C : Res} (Lx I F : List Res) : (A :: B :: C :: (Lx ++ (I ++ F))).Perm (A :: B :: C :: (I ++ (Lx ++ F))) := (((List.perm_append_comm_assoc Lx I F).cons C).cons B).cons A
end Go.Proofs.Yteehongibjkjlaa
