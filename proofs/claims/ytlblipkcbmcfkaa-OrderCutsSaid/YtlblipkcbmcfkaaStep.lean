/- The walk with the symbolic state in the goal: what is known of the frame's slots, which resources hold. One lemma for each form of code. -/
import Derived.Test.YtlblipkcbmcfkaaSep
import Derived.TacticsIn
import Derived.RangeFuncRecord
import Derived.RangeFuncCalls
set_option linter.unusedVariables false
set_option linter.unusedSimpArgs false
namespace Go.Proofs.Ytlblipkcbmcfkaa
open Go.RowKit

abbrev Fr := List (Nat × Value)
def lk : Fr → Nat → Option Value
  | [], _ => none
  | (d, v) :: l, t => bif Nat.beq d t then some v else lk l t

/-- Of a frame: how many slots, in which round of which loop, which calls are deferred. -/
structure FN where
  n : Nat
  ro : Option Nat := none
  df : List Deferred := []
instance : Coe FN Nat := ⟨FN.n⟩
def fen (ro : Option Nat) : Fence := { fn := fun _ => True, depth := none, alive := false, round := ro }
structure Know (a : Act) (N : FN) (l : Fr) : Prop where
  size : a.tmps.size = N.n
  dfr : a.defers = N.df
  val : ∀ t v, lk l t = some v → a.tmps.getD t undef = v

def opv (l : Fr) : Operand → Option Value
  | .tmp t => lk l t
  | .const v => some v
  | .global g => some (.pointer (some ⟨g, 0, none⟩))
  | .func f => some (.func (.func f) #[] #[])

section
variable {P : Program} {N : FN} {l : Fr} {a : Act} {W w : World} {L : List Res}
theorem Know.eval (K : Know a N l) {x : Operand} {v : Value} (h : opv l x = some v) : a.eval x = v := by
  cases x with
  | tmp t => exact K.val t v h
  | const u => simpa [opv, Act.eval] using h
  | global g => simpa [opv, Act.eval] using h
  | func f => simpa [opv, Act.eval] using h
theorem lk_cons (d t : Nat) (v : Value) (l : Fr) : lk ((d, v) :: l) t = if d = t then some v else lk l t := by
  by_cases h : d = t
  · simp [lk, h]
  · have : Nat.beq d t = false := by
      cases hb : Nat.beq d t with
      | false => rfl
      | true => exact absurd (Nat.eq_of_beq_eq_true hb) h
    simp [lk, this, h]
theorem Know.put (K : Know a N l) {d : Nat} (hd : Nat.ble (d + 1) N = true) (v : Value) : Know (a.put (some d) v) N ((d, v) :: l) := by
  have hd' : d < a.tmps.size := by rw [K.size]; exact Nat.le_of_ble_eq_true hd
  refine ⟨by simp [Act.put, K.size], K.dfr, fun t u ht => ?_⟩
  rw [lk_cons] at ht
  by_cases e : d = t
  · subst e
    simp only [if_true, Option.some.injEq] at ht
    subst ht
    simp [Act.put, hd']
  · rw [if_neg e] at ht
    rw [← K.val t u ht]
    simp only [Act.put, Array.getD_eq_getD_getElem?]
    rw [Array.getElem?_setIfInBounds_ne e]
theorem Know.none (K : Know a N l) (v : Value) : Know (a.put none v) N l := K
/-- Less is known. -/
theorem Know.sub {l' : Fr} (K : Know a N l) (h : ∀ t v, lk l' t = some v → lk l t = some v) : Know a N l' := ⟨K.size, K.dfr, fun t v ht => K.val t v (h t v ht)⟩
end

def WL (P : Program) (ops : Array Oper) (Q : Exit → Act → World → Prop) (rest : List Oper) (N : FN) (l : Fr) (W : World) (L : List Res) : Prop :=
  ∀ a w, Know a N l → Sat W w L → wpListIn (fen N.ro) 0 P ops Q rest a w
def WC (P : Program) (c : Code) (Q : Exit → Act → World → Prop) (N : FN) (l : Fr) (W : World) (L : List Res) : Prop :=
  ∀ a w, Know a N l → Sat W w L → c.wpIn (fen N.ro) 0 P Q a w
def WQ (Q : Exit → Act → World → Prop) (e : Exit) (N : FN) (l : Fr) (W : World) (L : List Res) : Prop :=
  ∀ a w, Know a N l → Sat W w L → Q e a w
/-- A call: what it answers, what it leaves. -/
def CS (P : Program) (f : FuncId) (args : Array Value) (W : World) (L : List Res) (post : Value → List Res → Prop) : Prop :=
  ∀ w, Sat W w L → Calls P f args w fun e w' => ∃ v L', e = .returned v ∧ post v L' ∧ Sat W w' L'

section
variable {P : Program} {N : FN} {l : Fr} {W : World} {L L' : List Res} {Q : Exit → Act → World → Prop} {ops : Array Oper} {rest : List Oper}

/-! ### The code's forms -/
theorem c_seq {x y : Code} (h : WC P x (Exit.then (y.wpIn (fen N.ro) 0 P Q) Q) N l W L) : WC P (.seq x y) Q N l W L := fun a w K S => wpIn_seq (h a w K S)
theorem c_skip (h : WQ Q .normal N l W L) : WC P .skip Q N l W L := fun a w K S => wpIn_skip (h a w K S)
theorem c_ret (h : WQ Q .ret N l W L) : WC P .ret Q N l W L := fun a w K S => wpIn_ret (h a w K S)
theorem c_exit {id : Nat} (h : WQ Q (.exit id) N l W L) : WC P (.exit id) Q N l W L := fun a w K S => wpIn_exit (h a w K S)
theorem c_block {id : Nat} {c : Code} (h : WC P c (Exit.inBlock id Q) N l W L) : WC P (.block id c) Q N l W L := fun a w K S => wpIn_block (h a w K S)
theorem c_true {x : Operand} {t e : Code} (hx : opv l x = some (.bool true)) (h : WC P t Q N l W L) : WC P (.cond x t e) Q N l W L := fun a w K S => wpIn_cond_true (K.eval hx) (h a w K S)
theorem c_false {x : Operand} {t e : Code} (hx : opv l x = some (.bool false)) (h : WC P e Q N l W L) : WC P (.cond x t e) Q N l W L := fun a w K S => wpIn_cond_false (K.eval hx) (h a w K S)
theorem c_cond {x : Operand} {t e : Code} {b : Bool} (hx : opv l x = some (.bool b)) (ht : b = true → WC P t Q N l W L) (he : b = false → WC P e Q N l W L) : WC P (.cond x t e) Q N l W L :=
  fun a w K S => wpIn_cond_split (K.eval hx) (fun hb => ht hb a w K S) (fun hb => he hb a w K S)
theorem c_region {id : Nat} {ops : List Oper} (h : WL P ops.toArray Q ops N l W L) : WC P (.region id ops.toArray false) Q N l W L := fun a w K S => wpIn_region_lit (h a w K S)
theorem l_nil (h : WQ Q .normal N l W L) : WL P ops Q [] N l W L := fun a w K S => wpListIn_nil (h a w K S)
/-- The exits' ways. -/
theorem q_then {c : Code} (h : WC P c Q N l W L) : WQ (Exit.then (c.wpIn (fen N.ro) 0 P Q) Q) .normal N l W L := fun a w K S => h a w K S
theorem q_pass {n : Act → World → Prop} {e : Exit} (he : e ≠ .normal) (h : WQ Q e N l W L) : WQ (Exit.then n Q) e N l W L := fun a w K S => by
  cases e <;> first | exact absurd rfl he | exact h a w K S
theorem q_pass_exit {n : Act → World → Prop} {id : Nat} (h : WQ Q (.exit id) N l W L) : WQ (Exit.then n Q) (.exit id) N l W L := fun a w K S => h a w K S
theorem q_pass_ret {n : Act → World → Prop} (h : WQ Q .ret N l W L) : WQ (Exit.then n Q) .ret N l W L := fun a w K S => h a w K S
theorem q_block {id : Nat} (h : WQ Q .normal N l W L) : WQ (Exit.inBlock id Q) .normal N l W L := fun a w K S => h a w K S
theorem q_hit {id : Nat} (h : WQ Q .normal N l W L) : WQ (Exit.inBlock id Q) (.exit id) N l W L := fun a w K S => by
  simp only [Exit.inBlock, if_true]; exact h a w K S
theorem q_miss {id i : Nat} (hi : Nat.beq i id = false) (h : WQ Q (.exit i) N l W L) : WQ (Exit.inBlock id Q) (.exit i) N l W L := fun a w K S => by
  have : i ≠ id := fun e => by subst e; simp at hi
  simp only [Exit.inBlock, this, if_false]; exact h a w K S
theorem q_block_ret {id : Nat} (h : WQ Q .ret N l W L) : WQ (Exit.inBlock id Q) .ret N l W L := fun a w K S => h a w K S

/-! ### The resources -/
theorem l_conv (hc : ∀ w, Sat W w L → Sat W w L') (h : WL P ops Q rest N l W L') : WL P ops Q rest N l W L := fun a w K S => h a w K (hc w S)
theorem c_conv {c : Code} (hc : ∀ w, Sat W w L → Sat W w L') (h : WC P c Q N l W L') : WC P c Q N l W L := fun a w K S => h a w K (hc w S)
theorem l_fact {p : Prop} (hc : ∀ w, Sat W w L → p) (h : p → WL P ops Q rest N l W L) : WL P ops Q rest N l W L := fun a w K S => h (hc w S) a w K S
theorem c_fact {c : Code} {p : Prop} (hc : ∀ w, Sat W w L → p) (h : p → WC P c Q N l W L) : WC P c Q N l W L := fun a w K S => h (hc w S) a w K S
theorem l_open {α : Type} {A : α → List Res} (hc : ∀ w, Sat W w L → ∃ x, Sat W w (A x)) (h : ∀ x, WL P ops Q rest N l W (A x)) : WL P ops Q rest N l W L := fun a w K S =>
  let ⟨x, hx⟩ := hc w S; h x a w K hx
theorem c_open {α : Type} {c : Code} {A : α → List Res} (hc : ∀ w, Sat W w L → ∃ x, Sat W w (A x)) (h : ∀ x, WC P c Q N l W (A x)) : WC P c Q N l W L := fun a w K S =>
  let ⟨x, hx⟩ := hc w S; h x a w K hx
theorem q_conv {e : Exit} (hc : ∀ w, Sat W w L → Sat W w L') (h : WQ Q e N l W L') : WQ Q e N l W L := fun a w K S => h a w K (hc w S)
theorem q_fact {e : Exit} {p : Prop} (hc : ∀ w, Sat W w L → p) (h : p → WQ Q e N l W L) : WQ Q e N l W L := fun a w K S => h (hc w S) a w K S
/-- A slot's value is spelt otherwise. -/
theorem l_eq {t : Nat} {v v' : Value} (hx : lk l t = some v) (e : v = v') (h : WL P ops Q rest N ((t, v') :: l) W L) : WL P ops Q rest N l W L := fun a w K S =>
  h a w (K.sub (a := a) (l' := (t, v') :: l) (fun s u hs => by
    rw [lk_cons] at hs
    split at hs
    · rename_i hts; subst hts; subst e; rw [hx]; exact hs
    · exact hs)) S
theorem c_eq {c : Code} {t : Nat} {v v' : Value} (hx : lk l t = some v) (e : v = v') (h : WC P c Q N ((t, v') :: l) W L) : WC P c Q N l W L := fun a w K S =>
  h a w (K.sub (l' := (t, v') :: l) (fun s u hs => by
    rw [lk_cons] at hs
    split at hs
    · rename_i hts; subst hts; subst e; rw [hx]; exact hs
    · exact hs)) S
/-- Only what is listed is kept. -/
def subk : Fr → Fr → Prop
  | [], _ => True
  | (t, v) :: l', l => lk l t = some v ∧ subk l' l
theorem subk_lk : ∀ {l' l : Fr}, subk l' l → ∀ t v, lk l' t = some v → lk l t = some v
  | [], _, _, t, v, h => by cases h
  | (s, u) :: l', l, h, t, v, ht => by
    rw [lk_cons] at ht
    split at ht
    · rename_i e; subst e; rw [h.1]; exact ht
    · exact subk_lk h.2 t v ht
theorem c_keep {c : Code} {l' : Fr} (hs : subk l' l) (h : WC P c Q N l' W L) : WC P c Q N l W L := fun a w K S => h a w (K.sub (subk_lk hs)) S

/-! ### Loops -/
theorem c_loop {c : Code} {α : Type} (l' : α → Fr) (L' : α → List Res) (p : α → Prop) (μ : α → Nat) (x0 : α) (h0 : p x0) (hl : subk (l' x0) l) (hL : ∀ w, Sat W w L → Sat W w (L' x0))
    (round : ∀ x, p x → WC P c (Exit.then (fun a w => ∃ y, p y ∧ μ y < μ x ∧ Know a N (l' y) ∧ Sat W w (L' y)) Q) N (l' x) W (L' x)) : WC P (.loop c) Q N l W L := fun a w K S => by
  intro b k cs hro hb hr
  have key : ∀ n x a w, μ x = n → p x → Know a N (l' x) → Sat W w (L' x) →
      ∃ e a' w', Q e a' w' ∧ ArrivesIn (Machine.fenced P (fen N.ro)) P (lone (b.atR a (.code c :: .inLoop c :: k)) cs w) b k cs e a' w' := by
    intro n
    induction n using Nat.strongRecOn with
    | _ n ih =>
      intro x a w hn hp K S
      obtain ⟨e, a₁, w₁, hq, harr⟩ := round x hp a w K S b (.inLoop c :: k) cs hro hb hr
      cases e with
      | normal =>
        obtain ⟨y, hy, hlt, Ky, Sy⟩ := hq
        obtain ⟨e₂, a₂, w₂, hq₂, harr₂⟩ := ih (μ y) (hn ▸ hlt) y a₁ w₁ rfl hy Ky Sy
        exact ⟨e₂, a₂, w₂, hq₂, .of_steps (StepsIn.trans harr (.one (fenced_calm hb hr rfl) stepR_inLoop)) harr₂⟩
      | exit id => exact ⟨_, a₁, w₁, hq, .pass (x := .inLoop c) rfl (fun _ _ => .inl (by simp)) harr⟩
      | goto l => exact ⟨_, a₁, w₁, hq, .pass (x := .inLoop c) rfl (fun _ _ => .inl (by simp)) harr⟩
      | ret => exact ⟨_, a₁, w₁, hq, .pass (x := .inLoop c) rfl (fun _ _ => .inl (by simp)) harr⟩
      | panic ch => exact ⟨_, a₁, w₁, hq, .pass (x := .inLoop c) rfl (fun _ _ => .inl (by simp)) harr⟩
      | outgrown => exact ⟨_, a₁, w₁, hq, .pass (x := .inLoop c) rfl (fun _ _ => .inl (by simp)) harr⟩
  obtain ⟨e, a', w', hq, harr⟩ := key _ x0 a w rfl h0 (K.sub (subk_lk hl)) (hL w S)
  exact ⟨e, a', w', hq, .of_steps (.one (fenced_calm hb hr rfl) stepR_loop) harr⟩
theorem q_round {α : Type} {l' : α → Fr} {L' : α → List Res} {p : α → Prop} {μ : α → Nat} {n : Nat} (y : α) (hp : p y) (hm : μ y < n) (hl : subk (l' y) l) (hL : ∀ w, Sat W w L → Sat W w (L' y)) :
    WQ (Exit.then (fun a w => ∃ y, p y ∧ μ y < n ∧ Know a N (l' y) ∧ Sat W w (L' y)) Q) .normal N l W L := fun _ w K S => ⟨y, hp, hm, K.sub (subk_lk hl), hL w S⟩

/-! ### A function's door and its end -/
abbrev postC (P : Program) (fn : Func) (W : World) (post : Value → List Res → Prop) : Exit → Act → World → Prop :=
  bodyPostM Fence.wide 0 P fn fun e w' => ∃ v L', e = .returned v ∧ post v L' ∧ Sat W w' L'
theorem f_enter {f : FuncId} {fn : Func} {c : Code} {args : Array Value} {post : Value → List Res → Prop} (hf : P.funcs[f]? = some fn) (hb : fn.body = some c) (l0 : Fr)
    (hl : ∀ a : Act, a.tmps = args ++ Array.replicate (fn.ntmps - args.size) undef → a.defers = [] → Know a { n := fn.ntmps } l0)
    (h : WC P c (postC P fn W post) { n := fn.ntmps } l0 W L) : CS P f args W L post := fun w S =>
  callsIn_wide.1 (callsIn_of_wp_marks hf hb trivial (h _ w (hl _ rfl rfl) S))
theorem f_ret {fn : Func} {post : Value → List Res → Prop} {v : Value} (hr : ∀ a w, Know a N l → Sat W w L → (results fn a.tmps).run P w = .ok v w) (hp : post v L') (hL : ∀ w, Sat W w L → Sat W w L') (hdf : N.df = [] := by rfl) :
    WQ (postC P fn W post) .ret N l W L := fun a w K S => by
  show LeavesInM Fence.wide 0 P fn a.tmps _ a.defers .returning w
  rw [K.dfr, hdf]
  exact ⟨v, hr a w K S, v, L', rfl, hp, hL w S⟩
theorem f_end {fn : Func} {post : Value → List Res → Prop} {v : Value} (hr : ∀ a w, Know a N l → Sat W w L → (results fn a.tmps).run P w = .ok v w) (hp : post v L') (hL : ∀ w, Sat W w L → Sat W w L') (hdf : N.df = [] := by rfl) :
    WQ (postC P fn W post) .normal N l W L := fun a w K S => by
  show LeavesInM Fence.wide 0 P fn a.tmps _ a.defers .returning w
  rw [K.dfr, hdf]
  exact ⟨v, hr a w K S, v, L', rfl, hp, hL w S⟩
/-- A block that is no cells has turned. -/
theorem Sat.putObj {w : World} {k : Nat} {o o' : Obj} (S : Sat W w (blk k o :: L)) : Sat W (w.putObj k o') (blk k o' :: L) := by
  have hr := S.read.2
  exact S.turn rfl rfl rfl (by simp [World.putObj]) (World.putObj_heap_same (Array.getElem?_eq_some_iff.1 hr).1) (fun j hj => World.putObj_heap_other hj)
abbrev markD (r : Nat) : Deferred := { target := .collected r, args := #[] }
/-- The end of a function that ranged over functions: the marks among its deferred calls. -/
theorem f_retM {fn : Func} {post : Value → List Res → Prop} {v : Value} : ∀ (rs : List Nat) {L0 : List Res} {e : Exit} (he : e = .ret ∨ e = .normal) (hdf : N.df = rs.map markD)
    (hL : ∀ w, Sat W w L → Sat W w (rs.map (fun r => blk r (.deferred (some []))) ++ L0)) (hr : ∀ a w, Know a N l → Sat W w L0 → (results fn a.tmps).run P w = .ok v w) (hp : post v L') (hL' : ∀ w, Sat W w L0 → Sat W w L'),
    WQ (postC P fn W post) e N l W L := fun rs L0 e he hdf hL hr hp hL' a w K S => by
  have key : ∀ (rs : List Nat) (w : World), Sat W w (rs.map (fun r => blk r (.deferred (some []))) ++ L0) → LeavesInM Fence.wide 0 P fn a.tmps (fun e w' => ∃ v L', e = .returned v ∧ post v L' ∧ Sat W w' L') (rs.map markD) .returning w := by
    intro rs
    induction rs with
    | nil => exact fun w S => ⟨v, hr a w K S, v, L', rfl, hp, hL' w S⟩
    | cons r rs ih =>
      intro w S
      exact ⟨by simp, .inl ⟨r, _, rfl, run_takeDeferred S.read.2, ih _ (S.putObj (o' := .deferred none)).tail⟩⟩
  rcases he with rfl | rfl
  · show LeavesInM Fence.wide 0 P fn a.tmps _ a.defers .returning w
    rw [K.dfr, hdf]; exact key rs w (hL w S)
  · show LeavesInM Fence.wide 0 P fn a.tmps _ a.defers .returning w
    rw [K.dfr, hdf]; exact key rs w (hL w S)
theorem r_none {fn : Func} (h : fn.results = #[]) : ∀ a w, Know a N l → Sat W w L → (results fn a.tmps).run P w = .ok (.tuple #[]) w := fun a w _ _ => results_none h a.tmps P w
theorem r_one {fn : Func} {t : Nat} {v : Value} (h : fn.results = #[.tmp t]) (hv : lk l t = some v) : ∀ a w, Know a N l → Sat W w L → (results fn a.tmps).run P w = .ok v w := fun a w K _ => by
  rw [results_tmp h, K.val t v hv]
theorem r_two {fn : Func} {t u : Nat} {v x : Value} (h : fn.results = #[.tmp t, .tmp u]) (hv : lk l t = some v) (hx : lk l u = some x) : ∀ a w, Know a N l → Sat W w L → (results fn a.tmps).run P w = .ok (.tuple #[v, x]) w := fun a w K _ => by
  rw [results_tmp2 h, K.val t v hv, K.val u x hx]
theorem CS.mono {f : FuncId} {args : Array Value} {post post' : Value → List Res → Prop} (h : CS P f args W L post) (hi : ∀ v L', post v L' → post' v L') : CS P f args W L post' := fun w S =>
  (h w S).mono fun _ _ ⟨v, L', he, hp, hs⟩ => ⟨v, L', he, hi v L' hp, hs⟩
theorem CS.conv {f : FuncId} {args : Array Value} {post : Value → List Res → Prop} (hc : ∀ w, Sat W w L → Sat W w L') (h : CS P f args W L' post) : CS P f args W L post := fun w S => h w (hc w S)
/-- A callee that was proved from the caller's world on: it reads what is there and leaves new resources. -/
theorem CS.rebase {f : FuncId} {args : Array Value} {post : Value → List Res → Prop} (h : ∀ w, Sat W w L → CS P f args w [] post) : CS P f args W L (fun v L' => ∃ L1, post v L1 ∧ L' = L1 ++ L) := fun w S =>
  (h w S w (Sat.start w)).mono fun _ _ ⟨v, L1, he, hp, hs⟩ => ⟨v, _, he, ⟨L1, hp, rfl⟩, S.rebase hs⟩

/-! ### Operations -/
theorem semAt_run {ro : Option Nat} {ρ : Operand → Value} {o : Oper} {w w' : World} {n : Next} (h : (execOp ρ o).run P w = .ok n w') (hn : ∀ d, n ≠ .defer d) : (o.semAt ro ρ).run P w = .ok n w' := by
  cases ro with
  | none => exact h
  | some l =>
    unfold Oper.semAt
    split
    · rename_i c _ hop
      exfalso
      simp only [execOp, hop, Sem.run_bind] at h
      cases hr : (resolve ρ c o.type).run P w with
      | ok d w1 =>
        rw [hr] at h
        simp only [Result.andThen_ok, Sem.run_pure, Result.ok.injEq] at h
        exact hn _ h.1.symm
      | halt x w1 =>
        rw [hr] at h
        cases h
    · exact h
theorem wpIn_of_run {ro : Option Nat} {o : Oper} {a : Act} {w w' : World} {n : Next} {next : Act → World → Prop} {Q : Exit → Act → World → Prop} (h : (execOp a.eval o).run P w = .ok n w') (hn : ∀ d, n ≠ .defer d)
    (hu : o.uponIn (fen ro) 0 P a next Q (.ok n w')) : o.wpIn (fen ro) 0 P a w next Q := ⟨fun _ _ => trivial, by
  show o.uponIn (fen ro) 0 P a next Q ((o.semAt ro a.eval).run P w)
  rw [semAt_run h hn]; exact hu⟩
theorem o_run {d : Nat} {op : Op} {ty : TypeId} {pos : String} {af : Array Edge} {v : Value} (hd : Nat.ble (d + 1) N = true)
    (hr : ∀ a w, Know a N l → Sat W w L → ∃ w', (execOp a.eval ⟨some d, op, ty, pos, af, none⟩).run P w = .ok (.value v) w' ∧ Sat W w' L')
    (h : WL P ops Q rest N ((d, v) :: l) W L') : WL P ops Q (⟨some d, op, ty, pos, af, none⟩ :: rest) N l W L := fun a w K S => by
  obtain ⟨w', h1, h2⟩ := hr a w K S
  refine wpListIn_plain rfl fun k hk => wpIn_of_run h1 (by simp) ?_
  exact hk _ _ (h _ _ (K.put hd v) h2)
theorem o_val {d : Nat} {op : Op} {ty : TypeId} {pos : String} {af : Array Edge} {v : Value} (hd : Nat.ble (d + 1) N = true)
    (hr : ∀ a w, Know a N l → Sat W w L → (execOp a.eval ⟨some d, op, ty, pos, af, none⟩).run P w = .ok (.value v) w)
    (h : WL P ops Q rest N ((d, v) :: l) W L) : WL P ops Q (⟨some d, op, ty, pos, af, none⟩ :: rest) N l W L :=
  o_run hd (fun a w K S => ⟨w, hr a w K S, S⟩) h
theorem o_skip {op : Op} {ty : TypeId} {pos : String} {af : Array Edge}
    (hr : ∀ a w, Know a N l → Sat W w L → ∃ w', (execOp a.eval ⟨none, op, ty, pos, af, none⟩).run P w = .ok .skip w' ∧ Sat W w' L')
    (h : WL P ops Q rest N l W L') : WL P ops Q (⟨none, op, ty, pos, af, none⟩ :: rest) N l W L := fun a w K S => by
  obtain ⟨w', h1, h2⟩ := hr a w K S
  refine wpListIn_plain rfl fun k hk => wpIn_of_run h1 (by simp) ?_
  exact hk _ _ (h _ _ (K.none _) h2)
/-- A guarded operation that is carried out, or isn't. -/
theorem o_yes {dst : Option Tmp} {op : Op} {ty : TypeId} {pos : String} {af : Array Edge} {j d : Nat} {b : Bool} (hj : (ops[j]?).bind (·.dst) = some d) (hv : lk l d = some (.bool b)) (hd : Nat.ble (d + 1) N = true)
    (h : WL P ops Q (⟨dst, op, ty, pos, af, none⟩ :: rest) N l W L) : WL P ops Q (⟨dst, op, ty, pos, af, some (j, b)⟩ :: rest) N l W L := fun a w K S => by
  have hd' : d < a.tmps.size := by rw [K.size]; exact Nat.le_of_ble_eq_true hd
  have hy : yielded ops a.tmps j = some b := by
    have := K.val d _ hv
    simp only [yielded, hj, Option.bind_some]
    rw [Array.getD_eq_getD_getElem?, Array.getElem?_eq_getElem hd'] at this
    rw [Array.getElem?_eq_getElem hd']
    simp only [Option.getD_some] at this
    rw [this]
  have h1 := h a w K S
  unfold wpListIn at h1 ⊢
  rw [if_pos (by simp [Region.wanted])] at h1
  rw [if_pos (by simp [Region.wanted, hy])]
  exact h1
theorem o_no {d0 : Nat} {op : Op} {ty : TypeId} {pos : String} {af : Array Edge} {j d : Nat} {b : Bool} {v : Value} (hj : (ops[j]?).bind (·.dst) = some d) (hv : lk l d = some v) (hb : (match v with | .bool c => c == b | _ => false) = false) (hd : Nat.ble (d0 + 1) N = true)
    (h : WL P ops Q rest N ((d0, undef) :: l) W L) : WL P ops Q (⟨some d0, op, ty, pos, af, some (j, b)⟩ :: rest) N l W L := fun a w K S => by
  have hy : yielded ops a.tmps j ≠ some b := by
    have := K.val d _ hv
    simp only [yielded, hj, Option.bind_some]
    rw [Array.getD_eq_getD_getElem?] at this
    cases hg : a.tmps[d]? with
    | none => simp
    | some u =>
      rw [hg] at this
      simp only [Option.getD_some] at this
      subst this
      cases u <;> simp
      intro e
      subst e
      simp at hb
  unfold wpListIn
  rw [if_neg (by simp [Region.wanted, hy])]
  exact ⟨fun _ _ => trivial, h _ _ (K.put hd _) S⟩
theorem o_no_ {op : Op} {ty : TypeId} {pos : String} {af : Array Edge} {j d : Nat} {b : Bool} {v : Value} (hj : (ops[j]?).bind (·.dst) = some d) (hv : lk l d = some v) (hb : (match v with | .bool c => c == b | _ => false) = false)
    (h : WL P ops Q rest N l W L) : WL P ops Q (⟨none, op, ty, pos, af, some (j, b)⟩ :: rest) N l W L := fun a w K S => by
  have hy : yielded ops a.tmps j ≠ some b := by
    have := K.val d _ hv
    simp only [yielded, hj, Option.bind_some]
    rw [Array.getD_eq_getD_getElem?] at this
    cases hg : a.tmps[d]? with
    | none => simp
    | some u =>
      rw [hg] at this
      simp only [Option.getD_some] at this
      subst this
      cases u <;> simp
      intro e
      subst e
      simp at hb
  unfold wpListIn
  rw [if_neg (by simp [Region.wanted, hy])]
  exact ⟨fun _ _ => trivial, h _ _ (K.none _) S⟩
end
end Go.Proofs.Ytlblipkcbmcfkaa
