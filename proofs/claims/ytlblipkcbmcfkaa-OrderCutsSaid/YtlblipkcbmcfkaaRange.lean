/- A range over a function: what an iterator promises, the loop's statement, the rounds. -/
import Derived.Test.YtlblipkcbmcfkaaHeld
import Derived.RangeFuncNested
set_option linter.unusedVariables false
set_option linter.unusedSimpArgs false
namespace Go.Proofs.Ytlblipkcbmcfkaa
open Go.RowKit
/-! ### Objects: resources behind one name -/
def obj {α : Type} (p : α → Prop) (A : α → List Res) : Res := sex fun x => star (pur (p x)) (stars (A x))
theorem Sat.flat {W w : World} {Ls L : List Res} (S : Sat W w (stars Ls :: L)) : Sat W w (Ls ++ L) := S.conv fun _ h => stars_append.2 h
theorem Sat.unflat {W w : World} {Ls L : List Res} (S : Sat W w (Ls ++ L)) : Sat W w (stars Ls :: L) := S.conv fun _ h => stars_append.1 h
theorem Sat.obj_open {α : Type} {p : α → Prop} {A : α → List Res} {W w : World} {L : List Res} (S : Sat W w (obj p A :: L)) : ∃ x, p x ∧ Sat W w (A x ++ L) := by
  obtain ⟨x, S⟩ := S.ex
  obtain ⟨hp, S⟩ := S.unpack.pur
  exact ⟨x, hp, S.flat⟩
theorem Sat.obj_mk {α : Type} {p : α → Prop} {A : α → List Res} {W w : World} {L : List Res} (x : α) (hp : p x) (S : Sat W w (A x ++ L)) : Sat W w (obj p A :: L) :=
  Sat.unex x (Sat.pack (Sat.unpur hp S.unflat))
section
variable {P : Program} {N : FN} {l : Fr} {W : World} {L : List Res} {Q : Exit → Act → World → Prop} {ops : Array Oper} {rest : List Oper} {α : Type} {p : α → Prop} {A : α → List Res}
theorem l_obj (h : ∀ x, p x → WL P ops Q rest N l W (A x ++ L)) : WL P ops Q rest N l W (obj p A :: L) := fun a w K S =>
  let ⟨x, hp, S'⟩ := S.obj_open; h x hp a w K S'
theorem c_obj {c : Code} (h : ∀ x, p x → WC P c Q N l W (A x ++ L)) : WC P c Q N l W (obj p A :: L) := fun a w K S =>
  let ⟨x, hp, S'⟩ := S.obj_open; h x hp a w K S'
theorem q_obj {e : Exit} (h : ∀ x, p x → WQ Q e N l W (A x ++ L)) : WQ Q e N l W (obj p A :: L) := fun a w K S =>
  let ⟨x, hp, S'⟩ := S.obj_open; h x hp a w K S'
end
theorem q_nilrow {α : Type} {N : FN} {l : Fr} {W : World} {L : List Res} {Q : Exit → Act → World → Prop} {ex : Exit} (e : Enc α) (h : WQ Q ex N l W (row e.T e.sz none ([] : List α).length 0 (flat e []) :: L)) : WQ Q ex N l W L := q_conv (fun w S => S.own_nil) h
theorem rd_obj {α : Type} {p : α → Prop} {A : α → List Res} {W : World} {L : List Res} {ad : Addr} {v : Value} (i : Nat) (h : L[i]? = some (obj p A)) (hr : ∀ (x : α) (hp : p x) (L' : List Res), Rd W (A x ++ L') ad v) : Rd W L ad v := fun w S => by
  obtain ⟨L', S'⟩ := mem_front (List.mem_of_getElem? h) S
  obtain ⟨x, hp, S2⟩ := S'.obj_open
  exact hr x hp L' w S2
/-- An iterator: called with any yield that keeps 'I' (what has come: 'pre') and tells by 'J' that it wants no more. -/
def Iter {X : Type} (P : Program) (gf : FuncId) (caps : Array Value) (encs : X → List Value) (W : World) (Li : List Res) (xs : List X) : Prop :=
  ∀ (y : Value) (I : List X → List Res → Prop) (J : List Res → Prop) (L0 : List Res), I [] L0 →
    (∀ pre x L, I pre L → pre ++ [x] <+: xs → FV P y (encs x) W (Li ++ L) (fun v L' => (v = .bool true ∧ ∃ L2, I (pre ++ [x]) L2 ∧ L' = Li ++ L2) ∨ (v = .bool false ∧ ∃ L2, J L2 ∧ L' = Li ++ L2))) →
    CS P gf (#[y] ++ caps) W (Li ++ L0) (fun _ L' => ∃ L2, (I xs L2 ∨ J L2) ∧ L' = Li ++ L2)
section
variable {P : Program} {N : FN} {l : Fr} {W : World} {L L' L0 : List Res} {Q : Exit → Act → World → Prop}
/-- The round's body begins. -/
def postB (P : Program) (k : Nat) (body : Code) (R : Ending → World → Prop) : Exit → Act → World → Prop :=
  Exit.then (fun a₁ w₁ => ∃ w₂, (Instr.beginRound k).run P w₁ = .ok () w₂ ∧ body.wpIn (fen (some k)) 0 P (roundPost P k R) a₁ w₂) (fun _ _ _ => False)
abbrev postR (P : Program) (k : Nat) (W : World) (post : Value → List Res → Prop) : Exit → Act → World → Prop := roundPost P k fun e w' => ∃ v L', e = .returned v ∧ post v L' ∧ Sat W w' L'
theorem q_begin {k : Nat} {r : Loop} {body : Code} {R : Ending → World → Prop} (hk : N.ro = some k) (hr : r.state = .ready) (h : WC P body (roundPost P k R) N l W (blk k (.loop { r with state := .busy }) :: L)) :
    WQ (postB P k body R) .normal N l W (blk k (.loop r) :: L) := fun a w K S => by
  refine ⟨_, run_beginRound S.read.2 hr, ?_⟩
  have h1 := h a _ K (S.putObj (o' := .loop { r with state := .busy }))
  rw [hk] at h1
  exact h1
theorem q_roundOn {k : Nat} {r : Loop} {post : Value → List Res → Prop} (hp : post (.bool true) L') (hL : ∀ w, Sat W w (blk k (.loop { r with state := .ready, pending := none }) :: L) → Sat W w L') :
    WQ (postR P k W post) .normal N l W (blk k (.loop r) :: L) := fun a w K S => by
  have h1 := S.putObj (o' := .loop { r with state := .ready, pending := none })
  exact ⟨_, _, run_endRound none S.read.2, _, L', rfl, hp, hL _ h1⟩
theorem q_roundRet {k : Nat} {r : Loop} {post : Value → List Res → Prop} (hp : post (.bool false) L') (hL : ∀ w, Sat W w (blk k (.loop { r with state := .done, pending := some .ret }) :: L) → Sat W w L') :
    WQ (postR P k W post) .ret N l W (blk k (.loop r) :: L) := fun a w K S => by
  have h1 := S.putObj (o' := .loop { r with state := .done, pending := some .ret })
  exact ⟨_, _, run_endRound (some .ret) S.read.2, _, L', rfl, hp, hL _ h1⟩
theorem q_roundExit {k id : Nat} {r : Loop} {post : Value → List Res → Prop} (hp : post (.bool false) L') (hL : ∀ w, Sat W w (blk k (.loop { r with state := .done, pending := some (.exit id) }) :: L) → Sat W w L') :
    WQ (postR P k W post) (.exit id) N l W (blk k (.loop r) :: L) := fun a w K S => by
  have h1 := S.putObj (o' := .loop { r with state := .done, pending := some (.exit id) })
  exact ⟨_, _, run_endRound (some (.exit id)) S.read.2, _, L', rfl, hp, hL _ h1⟩
/-- What yield is called with, as slots. -/
def putArgs : List Nat → List Value → Fr → Fr
  | t :: ts, v :: vs, l => putArgs ts vs ((t, v) :: l)
  | _, _, l => l
theorem know_putArgs : ∀ (ts : List Nat) (vs : List Value) {a : Act} {N : FN} {l : Fr}, Know a N l → ts.all (fun t => Nat.ble (t + 1) N.n) = true → ts.length = vs.length →
    Know { a with tmps := ((ts.zip vs).foldl (fun tmps (p : Nat × Value) => tmps.setIfInBounds p.1 p.2) a.tmps) } N (putArgs ts vs l)
  | [], vs, a, N, l, K, _, hl => by
    cases vs with
    | nil => simpa [putArgs] using K
    | cons v vs => cases hl
  | t :: ts, [], a, N, l, K, _, hl => by cases hl
  | t :: ts, v :: vs, a, N, l, K, ht, hl => by
    simp only [List.all_cons, Bool.and_eq_true] at ht
    have h1 := know_putArgs ts vs (a := a.put (some t) v) (N := N) (l := (t, v) :: l) (K.put ht.1 v) ht.2 (by simpa using hl)
    simpa [Act.put, putArgs] using h1
/-- The statement 'for .. := range g { .. }' that is in no other's round. -/
theorem c_range {X : Type} {g : Operand} {ps : Array Tmp} {assign body : Code} {gf : FuncId} {caps : Array Value} {encs : X → List Value} {xs : List X} {Li : List Res} (I : List X → List Res → Prop) (J : Code → List Res → Prop)
    (hro : N.ro = none) (hx : opv l g = some (.func (.func gf) #[] caps)) (hcl : Callable P gf) (hps : ps.toList.all (fun t => Nat.ble (t + 1) N.n) = true) (hen : ∀ x, ps.toList.length = (encs x).length) (hit : Iter P gf caps encs W Li xs) (hL : ∀ w, Sat W w L → Sat W w (Li ++ L0)) (h0 : I [] L0)
    (hround : ∀ (k : Nat) (r : Loop) (D : Res) pre x Lp, r.state = .ready → I pre Lp → pre ++ [x] <+: xs →
      WC P assign (postB P k body fun e w' => ∃ v L', e = .returned v ∧ ((v = .bool true ∧ ∃ L2, I (pre ++ [x]) L2 ∧ L' = blk k (.loop { r with state := .ready, pending := none }) :: D :: (Li ++ L2)) ∨ (v = .bool false ∧ ∃ c L2, J c L2 ∧ L' = blk k (.loop { r with state := .done, pending := some c }) :: D :: (Li ++ L2))) ∧ Sat W w' L')
        { n := N.n, ro := some k } (putArgs ps.toList (encs x) l) W (blk k (.loop r) :: D :: (Li ++ Lp)))
    (hdone : ∀ (d : Nat) Lp, I xs Lp → WQ Q .normal { N with df := markD d :: N.df } l W (blk d (.deferred (some [])) :: (Li ++ Lp)))
    (hjump : ∀ (d : Nat) c Lp, J c Lp → WC P c Q { N with df := markD d :: N.df } l W (blk d (.deferred (some [])) :: (Li ++ Lp))) :
    WC P (.rangeFunc g ps assign body) Q N l W L := fun a w K S => by
  refine wpIn_rangeFunc fun fn _ => ?_
  have hfr : (fen N.ro).round = none := hro
  rw [hfr]
  let D : Res := blk w.heap.size (.deferred (some []))
  let r0 : Loop := { state := .ready, pending := none, fn, tmps := a.tmps, params := ps, assign, body, defers := w.heap.size }
  have S1 : Sat W (w.alloc (.deferred (some []))) (D :: (Li ++ L0)) := (hL w S).alloc _
  have S2 := S1.alloc (.loop r0)
  obtain ⟨k, hk⟩ : ∃ k, k = (w.alloc (.deferred (some []))).heap.size := ⟨_, rfl⟩
  rw [← hk] at S2
  have hks : k = w.heap.size + 1 := by rw [hk]; simp
  have pm : ∀ (A B : Res) (L : List Res), (A :: B :: (Li ++ L)).Perm (Li ++ (A :: B :: L)) := fun A B L =>
    ((List.Perm.cons A List.perm_middle.symm).trans List.perm_middle.symm)
  have S3 : Sat W ((w.alloc (.deferred (some []))).alloc (.loop r0)) (Li ++ (blk k (.loop r0) :: D :: L0)) := S2.perm (pm _ _ _)
  have hcall := hit (.func (.yield k) #[] #[])
    (fun pre L => ∃ (r : Loop) (Lp : List Res), r.state = .ready ∧ r.pending = none ∧ r.fn = fn ∧ r.tmps = a.tmps ∧ r.params = ps ∧ r.assign = assign ∧ r.body = body ∧ I pre Lp ∧ L = blk k (.loop r) :: D :: Lp)
    (fun L => ∃ (r : Loop) (c : Code) (Lp : List Res), r.state = .done ∧ r.pending = some c ∧ J c Lp ∧ L = blk k (.loop r) :: D :: Lp)
    _ ⟨r0, L0, rfl, rfl, rfl, rfl, rfl, rfl, rfl, h0, rfl⟩ (by
      rintro pre x L ⟨r, Lp, hr1, hr2, hr3, hr4, hr5, hr6, hr7, hI, rfl⟩ hpre w1 Sw ρ xo as_ tys dst ty pos af gd hxo has
      have Sk : Sat W w1 (blk k (.loop r) :: D :: (Li ++ Lp)) := Sw.perm (pm _ _ _).symm
      have hy := run_yield (P := P) (args := (encs x).toArray) Sk.read.2 (by
        rw [hr5]; have := hen x; simpa using this.symm)
      refine ⟨.round k r.fn ((r.params.zip (encs x).toArray).foldl (fun tmps (p : Nat × Value) => tmps.setIfInBounds p.1 p.2) r.tmps) r.assign r.body, w1, ?_, .inr ⟨k, r.fn, _, r.assign, r.body, rfl, ?_⟩⟩
      · simp only [execOp, resolve, hxo, has, Deferred.ofValue, Sem.run_bind, Sem.run_pure, Result.andThen_ok, invoke]
        simpa using hy
      · rw [hr6, hr7, hr4, hr5]
        have K1 : Know { tmps := a.tmps, defers := [] } { n := N.n, ro := some k } l := ⟨K.size, rfl, K.val⟩
        have K2 := know_putArgs ps.toList (encs x) K1 hps (hen x)
        have h9 := hround k r D pre x Lp hr1 hI hpre _ w1 K2 Sk
        have hz : (ps.zip (encs x).toArray).foldl (fun tmps (p : Nat × Value) => tmps.setIfInBounds p.1 p.2) a.tmps = (ps.toList.zip (encs x)).foldl (fun tmps (p : Nat × Value) => tmps.setIfInBounds p.1 p.2) a.tmps := by
          rw [← Array.foldl_toList, Array.toList_zip]
        have h8 : RoundIn (fen none) 0 P k r.fn _ assign body w1 _ := roundIn_of_wpIn (F := fen none) trivial h9
        have h7 : RoundIn Fence.wide 0 P k r.fn _ assign body w1 _ := h8
        have h6 : RoundIn Fence.wide 0 P k r.fn ((ps.zip (encs x).toArray).foldl (fun tmps (p : Nat × Value) => tmps.setIfInBounds p.1 p.2) a.tmps) assign body w1 _ := hz ▸ h7
        refine h6.mono ?_
        rintro e w2 ⟨v, L', rfl, hv, hs⟩
        rcases hv with ⟨rfl, L2, hI2, rfl⟩ | ⟨rfl, c, L2, hJ2, rfl⟩
        · exact ⟨_, _, rfl, .inl ⟨rfl, _, ⟨{ r with state := .ready, pending := none }, L2, rfl, rfl, hr3, hr4, hr5, hr6, hr7, hI2, rfl⟩, rfl⟩, hs.perm (pm _ _ _)⟩
        · exact ⟨_, _, rfl, .inr ⟨rfl, _, ⟨{ r with state := .done, pending := some c }, c, L2, rfl, rfl, hJ2, rfl⟩, rfl⟩, hs.perm (pm _ _ _)⟩)
  obtain ⟨gn, hf, hb, hn⟩ := hcl.is
  have hn' : ¬ gn.name = "runtime.NumGoroutine" := by simpa using hn
  have hb' : ¬ gn.body = none := by
    intro h0
    rw [h0] at hb
    cases hb
  obtain ⟨w3, hw3⟩ : ∃ w3, w3 = (w.alloc (.deferred (some []))).alloc (.loop r0) := ⟨_, rfl⟩
  rw [← hw3] at S3
  refine ⟨k, [markD w.heap.size], w3, { target := .fn (.func gf) caps, args := #[.func (.yield k) #[] #[]] }, w3, gf, #[.func (.yield k) #[] #[]] ++ caps, w3, ?_, ?_, fun _ _ => trivial, ?_, by simp [fen], ?_⟩
  · rw [hks, hw3]; exact run_enterLoop_outer _ _ _ _ _
  · simp only [resolve, K.eval hx, Deferred.ofValue]
    simp [Act.eval]
  · simp only [invoke, callFunc]
    simp [hf, hb', hn']
  · have h5 : CallsIn (fen none) 0 P gf (#[.func (.yield k) #[] #[]] ++ caps) _ _ := calls_in (hcall _ S3)
    refine h5.mono ?_
    rintro e w2 ⟨v, L', rfl, ⟨L2, hL2, rfl⟩, hs⟩
    rcases hL2 with ⟨r, Lp, hr1, hr2, _, _, _, _, _, hI, rfl⟩ | ⟨r, c, Lp, hr1, hr2, hJ, rfl⟩
    · have hs1 := hs.perm (pm _ _ _).symm
      refine ⟨none, w2.putObj k (.loop { r with state := .exhausted }), by rw [run_endLoop hs1.read.2 (by rw [hr1]; simp), hr2], ?_⟩
      exact hdone w.heap.size Lp hI _ _ ⟨K.size, by show [markD w.heap.size] ++ a.defers = _; rw [K.dfr]; rfl, K.val⟩ (hs1.putObj (o' := .loop { r with state := .exhausted })).tail
    · have hs1 := hs.perm (pm _ _ _).symm
      refine ⟨some c, w2.putObj k (.loop { r with state := .exhausted }), by rw [run_endLoop hs1.read.2 (by rw [hr1]; simp), hr2], ?_⟩
      have h4 := hjump w.heap.size c Lp hJ { tmps := a.tmps, defers := [markD w.heap.size] ++ a.defers } _ ⟨K.size, by show [markD w.heap.size] ++ a.defers = _; rw [K.dfr]; rfl, K.val⟩ (hs1.putObj (o' := .loop { r with state := .exhausted })).tail
      exact h4
/-! ### What a function answers: slots, cells -/
def resf (tmps : Array Value) (x : ResultVar) : Sem Value := match x with
  | .tmp t => pure (tmps.getD t undef)
  | .cell p t => do loadVar t (← asAddr (tmps.getD p undef))
def RS (P : Program) (N : FN) (l : Fr) (W : World) (L : List Res) (x : ResultVar) (v : Value) : Prop := ∀ a w, Know a N l → Sat W w L → (resf a.tmps x).run P w = .ok v w
theorem rs_tmp {t : Nat} {v : Value} (h : lk l t = some v) : RS P N l W L (.tmp t) v := fun a w K _ => by
  show (pure (a.tmps.getD t undef) : Sem Value).run P w = _
  rw [K.val t v h]; rfl
theorem rs_cell {p ty : Nat} {ad : Addr} {td : TypeDesc} {v : Value} (h : lk l p = some (.pointer (some ad))) (hu : P.underlying ty = some td) (ha : aggD td = false) (hr : Rd W L ad v) : RS P N l W L (.cell p ty) v := fun a w K S => by
  show (do loadVar ty (← asAddr (a.tmps.getD p undef)) : Sem Value).run P w = _
  rw [K.val p _ h]
  simp [asAddr, loadVar, run_isAgg hu, ha, hr w S]
theorem rs_celln {p ty : Nat} {ad : Addr} {td : TypeDesc} {vs : List Value} {z : Value} {b : Nat} (h : lk l p = some (.pointer (some ad))) (hu : P.underlying ty = some td) (ha : aggD td = true) (hi : TI P ty z vs.length b) (hr : RdN W L ad vs) : RS P N l W L (.cell p ty) (.agg vs.toArray) := fun a w K S => by
  show (do loadVar ty (← asAddr (a.tmps.getD p undef)) : Sem Value).run P w = _
  rw [K.val p _ h]
  have := run_loadCells_list (P := P) w ad vs (hr w S)
  simp [asAddr, loadVar, run_isAgg hu, ha, run_sizeOf' hi, this]
theorem rs_3 {fn : Func} {x y z : ResultVar} {v u t : Value} (h : fn.results = #[x, y, z]) (h1 : RS P N l W L x v) (h2 : RS P N l W L y u) (h3 : RS P N l W L z t) : ∀ a w, Know a N l → Sat W w L → (results fn a.tmps).run P w = .ok (.tuple #[v, u, t]) w := fun a w K S => by
  have e1 := h1 a w K S
  have e2 := h2 a w K S
  have e3 := h3 a w K S
  show (do let vs ← fn.results.mapM (resf a.tmps); pure (if h : vs.size = 1 then vs[0] else .tuple vs) : Sem Value).run P w = _
  rw [h]
  simp [Sem.run_bind, e1, e2, e3]
theorem rs_1 {fn : Func} {x : ResultVar} {v : Value} (h : fn.results = #[x]) (h1 : RS P N l W L x v) : ∀ a w, Know a N l → Sat W w L → (results fn a.tmps).run P w = .ok v w := fun a w K S => by
  have e1 := h1 a w K S
  show (do let vs ← fn.results.mapM (resf a.tmps); pure (if h : vs.size = 1 then vs[0] else .tuple vs) : Sem Value).run P w = _
  rw [h]
  simp [Sem.run_bind, e1]
theorem rs_2 {fn : Func} {x y : ResultVar} {v u : Value} (h : fn.results = #[x, y]) (h1 : RS P N l W L x v) (h2 : RS P N l W L y u) : ∀ a w, Know a N l → Sat W w L → (results fn a.tmps).run P w = .ok (.tuple #[v, u]) w := fun a w K S => by
  have e1 := h1 a w K S
  have e2 := h2 a w K S
  show (do let vs ← fn.results.mapM (resf a.tmps); pure (if h : vs.size = 1 then vs[0] else .tuple vs) : Sem Value).run P w = _
  rw [h]
  simp [Sem.run_bind, e1, e2]
theorem f_retq {fn : Func} {post : Value → List Res → Prop} {v : Value} {e : Exit} (he : e = .ret ∨ e = .normal) (hr : ∀ a w, Know a N l → Sat W w L → (results fn a.tmps).run P w = .ok v w) (hq : ∀ w, Sat W w L → ∃ L', post v L' ∧ Sat W w L') (hdf : N.df = [] := by rfl) :
    WQ (postC P fn W post) e N l W L := fun a w K S => by
  obtain ⟨L', hp, S'⟩ := hq w S
  rcases he with rfl | rfl
  · show LeavesInM Fence.wide 0 P fn a.tmps _ a.defers .returning w
    rw [K.dfr, hdf]
    exact ⟨v, hr a w K S, v, L', rfl, hp, S'⟩
  · show LeavesInM Fence.wide 0 P fn a.tmps _ a.defers .returning w
    rw [K.dfr, hdf]
    exact ⟨v, hr a w K S, v, L', rfl, hp, S'⟩
theorem f_retMq {fn : Func} {post : Value → List Res → Prop} {v : Value} (rs : List Nat) {L0 : List Res} {e : Exit} (he : e = .ret ∨ e = .normal) (hdf : N.df = rs.map markD)
    (hL : ∀ w, Sat W w L → Sat W w (rs.map (fun r => blk r (.deferred (some []))) ++ L0)) (hr : ∀ a w, Know a N l → Sat W w L0 → (results fn a.tmps).run P w = .ok v w) (hq : ∀ w, Sat W w L0 → ∃ L', post v L' ∧ Sat W w L') :
    WQ (postC P fn W post) e N l W L := fun a w K S => by
  have key : ∀ (rs : List Nat) (w : World), Sat W w (rs.map (fun r => blk r (.deferred (some []))) ++ L0) → LeavesInM Fence.wide 0 P fn a.tmps (fun e w' => ∃ v L', e = .returned v ∧ post v L' ∧ Sat W w' L') (rs.map markD) .returning w := by
    intro rs
    induction rs with
    | nil => exact fun w S => let ⟨L', hp, S'⟩ := hq w S; ⟨v, hr a w K S, v, L', rfl, hp, S'⟩
    | cons r rs ih =>
      intro w S
      exact ⟨by simp, .inl ⟨r, _, rfl, run_takeDeferred S.read.2, ih _ (S.putObj (o' := .deferred none)).tail⟩⟩
  rcases he with rfl | rfl
  · show LeavesInM Fence.wide 0 P fn a.tmps _ a.defers .returning w
    rw [K.dfr, hdf]; exact key rs w (hL w S)
  · show LeavesInM Fence.wide 0 P fn a.tmps _ a.defers .returning w
    rw [K.dfr, hdf]; exact key rs w (hL w S)
theorem p9 {A B C D E G H I J K' : Res} {L : List Res} : (A :: B :: C :: D :: E :: G :: H :: I :: J :: K' :: L).Perm (K' :: A :: B :: C :: D :: E :: G :: H :: I :: J :: L) := (List.Perm.cons A p8).trans (List.Perm.swap _ _ _)
theorem l_f9 {A B C D E G H I J K' : Res} {P : Program} {N : FN} {l : Fr} {W : World} {L : List Res} {Q : Exit → Act → World → Prop} {ops : Array Oper} {rest : List Oper} (h : WL P ops Q rest N l W (K' :: A :: B :: C :: D :: E :: G :: H :: I :: J :: L)) : WL P ops Q rest N l W (A :: B :: C :: D :: E :: G :: H :: I :: J :: K' :: L) := l_perm p9 h
theorem p10 {A B C D E G H I J K' M : Res} {L : List Res} : (A :: B :: C :: D :: E :: G :: H :: I :: J :: K' :: M :: L).Perm (M :: A :: B :: C :: D :: E :: G :: H :: I :: J :: K' :: L) := (List.Perm.cons A p9).trans (List.Perm.swap _ _ _)
theorem l_f10 {A B C D E G H I J K' M : Res} {P : Program} {N : FN} {l : Fr} {W : World} {L : List Res} {Q : Exit → Act → World → Prop} {ops : Array Oper} {rest : List Oper} (h : WL P ops Q rest N l W (M :: A :: B :: C :: D :: E :: G :: H :: I :: J :: K' :: L)) : WL P ops Q rest N l W (A :: B :: C :: D :: E :: G :: H :: I :: J :: K' :: M :: L) := l_perm p10 h
theorem p11 {A B C D E G H I J K' M O : Res} {L : List Res} : (A :: B :: C :: D :: E :: G :: H :: I :: J :: K' :: M :: O :: L).Perm (O :: A :: B :: C :: D :: E :: G :: H :: I :: J :: K' :: M :: L) := (List.Perm.cons A p10).trans (List.Perm.swap _ _ _)
theorem l_f11 {A B C D E G H I J K' M O : Res} {P : Program} {N : FN} {l : Fr} {W : World} {L : List Res} {Q : Exit → Act → World → Prop} {ops : Array Oper} {rest : List Oper} (h : WL P ops Q rest N l W (O :: A :: B :: C :: D :: E :: G :: H :: I :: J :: K' :: M :: L)) : WL P ops Q rest N l W (A :: B :: C :: D :: E :: G :: H :: I :: J :: K' :: M :: O :: L) := l_perm p11 h
theorem p12 {A B C D E G H I J K' M O R : Res} {L : List Res} : (A :: B :: C :: D :: E :: G :: H :: I :: J :: K' :: M :: O :: R :: L).Perm (R :: A :: B :: C :: D :: E :: G :: H :: I :: J :: K' :: M :: O :: L) := (List.Perm.cons A p11).trans (List.Perm.swap _ _ _)
theorem l_f12 {A B C D E G H I J K' M O R : Res} {P : Program} {N : FN} {l : Fr} {W : World} {L : List Res} {Q : Exit → Act → World → Prop} {ops : Array Oper} {rest : List Oper} (h : WL P ops Q rest N l W (R :: A :: B :: C :: D :: E :: G :: H :: I :: J :: K' :: M :: O :: L)) : WL P ops Q rest N l W (A :: B :: C :: D :: E :: G :: H :: I :: J :: K' :: M :: O :: R :: L) := l_perm p12 h
theorem p13 {A B C D E G H I J K' M O R S : Res} {L : List Res} : (A :: B :: C :: D :: E :: G :: H :: I :: J :: K' :: M :: O :: R :: S :: L).Perm (S :: A :: B :: C :: D :: E :: G :: H :: I :: J :: K' :: M :: O :: R :: L) := (List.Perm.cons A p12).trans (List.Perm.swap _ _ _)
theorem l_f13 {A B C D E G H I J K' M O R S : Res} {P : Program} {N : FN} {l : Fr} {W : World} {L : List Res} {Q : Exit → Act → World → Prop} {ops : Array Oper} {rest : List Oper} (h : WL P ops Q rest N l W (S :: A :: B :: C :: D :: E :: G :: H :: I :: J :: K' :: M :: O :: R :: L)) : WL P ops Q rest N l W (A :: B :: C :: D :: E :: G :: H :: I :: J :: K' :: M :: O :: R :: S :: L) := l_perm p13 h
theorem p14 {A B C D E G H I J K' M O R S T : Res} {L : List Res} : (A :: B :: C :: D :: E :: G :: H :: I :: J :: K' :: M :: O :: R :: S :: T :: L).Perm (T :: A :: B :: C :: D :: E :: G :: H :: I :: J :: K' :: M :: O :: R :: S :: L) := (List.Perm.cons A p13).trans (List.Perm.swap _ _ _)
theorem l_f14 {A B C D E G H I J K' M O R S T : Res} {P : Program} {N : FN} {l : Fr} {W : World} {L : List Res} {Q : Exit → Act → World → Prop} {ops : Array Oper} {rest : List Oper} (h : WL P ops Q rest N l W (T :: A :: B :: C :: D :: E :: G :: H :: I :: J :: K' :: M :: O :: R :: S :: L)) : WL P ops Q rest N l W (A :: B :: C :: D :: E :: G :: H :: I :: J :: K' :: M :: O :: R :: S :: T :: L) := l_perm p14 h
end
end Go.Proofs.Ytlblipkcbmcfkaa
