/- Texts of the proof: Iter, Mem2, Part, Ty, Ty2, Plain, Slices, Pen, TyE, Eyep, Eye, Cmp, SrchA, Del, DelA, InsA, Get, Delp, MendA. -/
import Derived.Test.YtnfbjidpiglabaaRows
import Derived.KernelRfl
import Derived.Test.YtnfbjidpiglabaaRQA
namespace Go.Proofs.Ytnfbjidpiglabaa
section
set_option linter.unusedVariables false
set_option linter.unusedSimpArgs false
open Go.RowKit
/-- An iterator: called with any yield that keeps 'I' (what has come: 'pre') and tells by 'J' that it wants no more, beside whatever else there is. -/
def IterG {X : Type} (P : Program) (gf : FuncId) (caps : Array Value) (encs : X → List Value) (W : World) (Li : List Res) (xs : List X) : Prop :=
  ∀ (y : Value) (I : List X → List Res → Prop) (J : List Res → Prop) (L0 : List Res), I [] L0 →
    (∀ (Lx : List Res) pre x L, I pre L → pre ++ [x] <+: xs → FV P y (encs x) W (Lx ++ L) (fun v L' => ∃ (bb : Bool) (L2 : List Res), v = .bool bb ∧ ((bb = true ∧ I (pre ++ [x]) L2) ∨ (bb = false ∧ J L2)) ∧ L' = Lx ++ L2)) →
    CS P gf (#[y] ++ caps) W (Li ++ L0) (fun _ L' => ∃ L2, (I xs L2 ∨ J L2) ∧ L' = Li ++ L2)
section
variable {P : Program} {N : FN} {l : Fr} {W : World} {L L' L0 : List Res} {Q : Exit → Act → World → Prop}
/-- The statement 'for .. := range g { .. }' that is in no other's round. -/
theorem c_rangeG {X : Type} {g : Operand} {ps : Array Tmp} {assign body : Code} {gf : FuncId} {caps : Array Value} {encs : X → List Value} {xs : List X} {Li : List Res} (I : List X → List Res → Prop) (J : Code → List Res → Prop)
    (hro : N.ro = none) (hx : opv l g = some (.func (.func gf) #[] caps)) (hcl : Callable P gf) (hps : ps.toList.all (fun t => Nat.ble (t + 1) N.n) = true) (hen : ∀ x, ps.toList.length = (encs x).length) (hit : IterG P gf caps encs W Li xs) (hL : ∀ w, Sat W w L → Sat W w (Li ++ L0)) (h0 : I [] L0)
    (hround : ∀ (Lx : List Res) (k : Nat) (r : Loop) (D : Res) pre x Lp, r.state = .ready → I pre Lp → pre ++ [x] <+: xs →
      WC P assign (postB P k body fun e w' => ∃ v L', e = .returned v ∧ ((v = .bool true ∧ ∃ L2, I (pre ++ [x]) L2 ∧ L' = blk k (.loop { r with state := .ready, pending := none }) :: D :: (Lx ++ L2)) ∨ (v = .bool false ∧ ∃ c L2, J c L2 ∧ L' = blk k (.loop { r with state := .done, pending := some c }) :: D :: (Lx ++ L2))) ∧ Sat W w' L')
        { n := N.n, ro := some k } (putArgs ps.toList (encs x) l) W (blk k (.loop r) :: D :: (Lx ++ Lp)))
    (hdone : ∀ (d : Nat) Lp, I xs Lp → WQ Q .normal { N with df := markD d :: N.df } l W (blk d (.deferred (some [])) :: (Li ++ Lp)))
    (hjump : ∀ (d : Nat) c Lp, J c Lp → WC P c Q { N with df := markD d :: N.df } l W (blk d (.deferred (some [])) :: (Li ++ Lp))) :
    WC P (.rangeFunc g ps assign body) Q N l W L := fun a w K S => by
  refine wpIn_rangeFunc fun fn _ => ?_
  have hfr : (fen N.ro).round = none := hro
  rw [hfr]
  let D : Res := blk w.heap.size (.deferred (some []))
  let r0 : Loop := { state := .ready, pending := none, fn, tmps := a.tmps, params := ps, assign, body, defers := w.heap.size }
  have S1 : Sat W (w.alloc (.deferred (some []))) (D :: (Li ++ L0)) := (hL w S).alloc _
  have S2 := S1.alloc (.loop r0)
  obtain ⟨k, hk⟩ : ∃ k, k = (w.alloc (.deferred (some []))).heap.size := ⟨_, rfl⟩
  rw [← hk] at S2
  have hks : k = w.heap.size + 1 := by rw [hk]; simp
  have pm : ∀ (A B : Res) (L : List Res), (A :: B :: (Li ++ L)).Perm (Li ++ (A :: B :: L)) := fun A B L =>
    ((List.Perm.cons A List.perm_middle.symm).trans List.perm_middle.symm)
  have pm' : ∀ (M : List Res) (A B : Res) (L : List Res), (A :: B :: (M ++ L)).Perm (M ++ (A :: B :: L)) := fun M A B L =>
    ((List.Perm.cons A List.perm_middle.symm).trans List.perm_middle.symm)
  have S3 : Sat W ((w.alloc (.deferred (some []))).alloc (.loop r0)) (Li ++ (blk k (.loop r0) :: D :: L0)) := S2.perm (pm _ _ _)
  have hcall := hit (.func (.yield k) #[] #[])
    (fun pre L => ∃ (r : Loop) (Lp : List Res), r.state = .ready ∧ r.pending = none ∧ r.fn = fn ∧ r.tmps = a.tmps ∧ r.params = ps ∧ r.assign = assign ∧ r.body = body ∧ I pre Lp ∧ L = blk k (.loop r) :: D :: Lp)
    (fun L => ∃ (r : Loop) (c : Code) (Lp : List Res), r.state = .done ∧ r.pending = some c ∧ J c Lp ∧ L = blk k (.loop r) :: D :: Lp)
    _ ⟨r0, L0, rfl, rfl, rfl, rfl, rfl, rfl, rfl, h0, rfl⟩ (by
      rintro Lx pre x L ⟨r, Lp, hr1, hr2, hr3, hr4, hr5, hr6, hr7, hI, rfl⟩ hpre w1 Sw ρ xo as_ tys dst ty pos af gd hxo has
      have Sk : Sat W w1 (blk k (.loop r) :: D :: (Lx ++ Lp)) := Sw.perm (pm' Lx _ _ _).symm
      have hy := run_yield (P := P) (args := (encs x).toArray) Sk.read.2 (by
        rw [hr5]; have := hen x; simpa using this.symm)
      refine ⟨.round k r.fn ((r.params.zip (encs x).toArray).foldl (fun tmps (p : Nat × Value) => tmps.setIfInBounds p.1 p.2) r.tmps) r.assign r.body, w1, ?_, .inr ⟨k, r.fn, _, r.assign, r.body, rfl, ?_⟩⟩
      · simp only [execOp, resolve, hxo, has, Deferred.ofValue, Sem.run_bind, Sem.run_pure, Result.andThen_ok, invoke]
        simpa using hy
      · rw [hr6, hr7, hr4, hr5]
        have K1 : Know { tmps := a.tmps, defers := [] } { n := N.n, ro := some k } l := ⟨K.size, rfl, K.val⟩
        have K2 := know_putArgs ps.toList (encs x) K1 hps (hen x)
        have h9 := hround Lx k r D pre x Lp hr1 hI hpre _ w1 K2 Sk
        have hz : (ps.zip (encs x).toArray).foldl (fun tmps (p : Nat × Value) => tmps.setIfInBounds p.1 p.2) a.tmps = (ps.toList.zip (encs x)).foldl (fun tmps (p : Nat × Value) => tmps.setIfInBounds p.1 p.2) a.tmps := by
          rw [← Array.foldl_toList, Array.toList_zip]
        have h8 : RoundIn (fen none) 0 P k r.fn _ assign body w1 _ := roundIn_of_wpIn (F := fen none) trivial h9
        have h7 : RoundIn Fence.wide 0 P k r.fn _ assign body w1 _ := h8
        have h6 : RoundIn Fence.wide 0 P k r.fn ((ps.zip (encs x).toArray).foldl (fun tmps (p : Nat × Value) => tmps.setIfInBounds p.1 p.2) a.tmps) assign body w1 _ := hz ▸ h7
        refine h6.mono ?_
        rintro e w2 ⟨v, L', rfl, hv, hs⟩
        rcases hv with ⟨rfl, L2, hI2, rfl⟩ | ⟨rfl, c, L2, hJ2, rfl⟩
        · exact ⟨_, _, rfl, ⟨true, _, rfl, .inl ⟨rfl, ⟨{ r with state := .ready, pending := none }, L2, rfl, rfl, hr3, hr4, hr5, hr6, hr7, hI2, rfl⟩⟩, rfl⟩, hs.perm (pm' Lx _ _ _)⟩
        · exact ⟨_, _, rfl, ⟨false, _, rfl, .inr ⟨rfl, ⟨{ r with state := .done, pending := some c }, c, L2, rfl, rfl, hJ2, rfl⟩⟩, rfl⟩, hs.perm (pm' Lx _ _ _)⟩)
  obtain ⟨gn, hf, hb, hn⟩ := hcl.is
  have hn' : ¬ gn.name = "runtime.NumGoroutine" := by simpa using hn
  have hb' : ¬ gn.body = none := by
    intro h0
    rw [h0] at hb
    cases hb
  obtain ⟨w3, hw3⟩ : ∃ w3, w3 = (w.alloc (.deferred (some []))).alloc (.loop r0) := ⟨_, rfl⟩
  rw [← hw3] at S3
  refine ⟨k, [markD w.heap.size], w3, { target := .fn (.func gf) caps, args := #[.func (.yield k) #[] #[]] }, w3, gf, #[.func (.yield k) #[] #[]] ++ caps, w3, ?_, ?_, fun _ _ => trivial, ?_, by simp [fen], ?_⟩
  · rw [hks, hw3]; exact run_enterLoop_outer _ _ _ _ _
  · simp only [resolve, K.eval hx, Deferred.ofValue]
    simp [Act.eval]
  · simp only [invoke, callFunc]
    simp [hf, hb', hn']
  · have h5 : CallsIn (fen none) 0 P gf (#[.func (.yield k) #[] #[]] ++ caps) _ _ := calls_in (hcall _ S3)
    refine h5.mono ?_
    rintro e w2 ⟨v, L', rfl, ⟨L2, hL2, rfl⟩, hs⟩
    rcases hL2 with ⟨r, Lp, hr1, hr2, _, _, _, _, _, hI, rfl⟩ | ⟨r, c, Lp, hr1, hr2, hJ, rfl⟩
    · have hs1 := hs.perm (pm _ _ _).symm
      refine ⟨none, w2.putObj k (.loop { r with state := .exhausted }), by rw [run_endLoop hs1.read.2 (by rw [hr1]; simp), hr2], ?_⟩
      exact hdone w.heap.size Lp hI _ _ ⟨K.size, by show [markD w.heap.size] ++ a.defers = _; rw [K.dfr]; rfl, K.val⟩ (hs1.putObj (o' := .loop { r with state := .exhausted })).tail
    · have hs1 := hs.perm (pm _ _ _).symm
      refine ⟨some c, w2.putObj k (.loop { r with state := .exhausted }), by rw [run_endLoop hs1.read.2 (by rw [hr1]; simp), hr2], ?_⟩
      have h4 := hjump w.heap.size c Lp hJ { tmps := a.tmps, defers := [markD w.heap.size] ++ a.defers } _ ⟨K.size, by show [markD w.heap.size] ++ a.defers = _; rw [K.dfr]; rfl, K.val⟩ (hs1.putObj (o' := .loop { r with state := .exhausted })).tail
      exact h4
end
theorem rgP {A B : Res} (Lx I F : List Res) : (A :: B :: (Lx ++ (I ++ F))).Perm (A :: B :: (I ++ (Lx ++ F))) := ((List.perm_append_comm_assoc Lx I F).cons B).cons A
section
open Classical
variable {α κ : Type} {key : α → κ} {lt : κ → κ → Prop}
noncomputable def sel (key : α → κ) (lt : κ → κ → Prop) (fo : Option κ) (xs : List α) : List α := match fo with
  | none => xs
  | some k => xs.filter fun y => decide (¬ lt (key y) k)
def atK (kids : List (List α)) (i : Nat) : List α := (kids[i]?).getD []
noncomputable def restW (key : α → κ) (lt : κ → κ → Prop) (kids : List (List α)) (items : List α) (i : Nat) (fo : Option κ) : List α := sel key lt fo (atK kids i) ++ post (items.drop i) (kids.drop (i + 1))
theorem sel_append {fo : Option κ} {xs ys : List α} : sel key lt fo (xs ++ ys) = sel key lt fo xs ++ sel key lt fo ys := by cases fo <;> simp [sel]
theorem sel_ge {k : κ} {xs : List α} (h : ∀ y ∈ xs, ¬ lt (key y) k) : sel key lt (some k) xs = xs := by
  simp only [sel]; rw [List.filter_eq_self]; intro y hy; simpa using h y hy
theorem sel_lt {k : κ} {xs : List α} (h : ∀ y ∈ xs, lt (key y) k) : sel key lt (some k) xs = [] := by
  simp only [sel]; rw [List.filter_eq_nil_iff]; intro y hy; simpa using h y hy
theorem sel_nil {fo : Option κ} : sel key lt fo ([] : List α) = [] := by cases fo <;> rfl
theorem post_nil : ∀ (its : List α), post its [] = its
  | [] => rfl
  | i :: its => by rw [post, post_nil its]
theorem rest_0 {kids : List (List α)} {items : List α} : restW key lt kids items 0 none = weave kids items := by
  cases kids with
  | nil => simp [restW, weave, sel, atK, post_nil]
  | cons k ks => simp [restW, weave, sel, atK]
theorem rest_some (o : Sto lt) {kids : List (List α)} {items : List α} {i : Nat} {k : κ} (hl : kids = [] ∨ kids.length = items.length + 1) (hf : Found key lt k items i) (hs : Srt key lt (weave kids items)) : sel key lt (some k) (weave kids items) = restW key lt kids items i (some k) := by
  rcases hl with rfl | hl
  · show sel key lt (some k) items = sel key lt (some k) (atK [] i) ++ post (items.drop i) []
    rw [post_nil, show atK ([] : List (List α)) i = [] by simp [atK], sel_nil, List.nil_append]
    conv => lhs; rw [← List.take_append_drop i items]
    rw [sel_append, sel_lt hf.lo, sel_ge hf.hi, List.nil_append]
  · have hi := hf.le
    obtain ⟨kd, hkd⟩ : ∃ kd, kids[i]? = some kd := ⟨_, List.getElem?_eq_getElem (by omega)⟩
    have hw : weave kids items = preW (kids.take i) (items.take i) ++ (kd ++ post (items.drop i) (kids.drop (i + 1))) := by
      conv => lhs; rw [take_get hkd, ← List.take_append_drop i items]
      exact weave_at (by rw [List.length_take, List.length_take]; omega)
    rw [hw] at hs ⊢
    have hs' := List.pairwise_append.1 hs
    rw [sel_append, sel_append, sel_lt, sel_ge (xs := post _ _), List.nil_append]
    · simp [restW, atK, hkd]
    · intro s hsx
      obtain ⟨e, he, h9⟩ := mem_post (by rw [List.length_drop, List.length_drop]; omega) hsx (List.pairwise_append.1 hs'.2.1).2.1
      rcases h9 with rfl | h9
      · exact hf.hi s he
      · exact fun h8 => hf.hi e he (o.tr h9 h8)
    · intro p hp
      obtain ⟨c, hc, h9⟩ := mem_preW (by rw [List.length_take, List.length_take]; omega) hp hs'.1 o
      rcases h9 with rfl | h9
      · exact hf.lo p hc
      · exact o.tr h9 (hf.lo c hc)
theorem rest_item {kids : List (List α)} {items : List α} {i : Nat} {y : α} (hl : kids = [] ∨ kids.length = items.length + 1) (hy : items[i]? = some y) : post (items.drop i) (kids.drop (i + 1)) = y :: restW key lt kids items (i + 1) none := by
  obtain ⟨hi, rfl⟩ := List.getElem?_eq_some_iff.1 hy
  rw [List.drop_eq_getElem_cons hi]
  rcases hl with rfl | hl
  · simp [restW, atK, sel, post_nil]
  · rw [List.drop_eq_getElem_cons (show i + 1 < kids.length by omega)]
    simp [restW, atK, sel, post, List.getElem?_eq_getElem (show i + 1 < kids.length by omega)]
theorem rest_end {kids : List (List α)} {items : List α} {i : Nat} (hl : kids = [] ∨ kids.length = items.length + 1) (hi : items.length ≤ i) : post (items.drop i) (kids.drop (i + 1)) = restW key lt kids items (i + 1) none := by
  rw [List.drop_of_length_le hi]
  rcases hl with rfl | hl
  · simp [restW, atK, sel, post]; rw [List.drop_of_length_le (by omega), post]
  · simp only [restW]
    rw [List.drop_of_length_le (show items.length ≤ i + 1 by omega)]
    have h9 : kids[i + 1]? = none := List.getElem?_eq_none (by omega)
    simp [atK, sel, post, h9]
theorem rest_over {kids : List (List α)} {items : List α} {i : Nat} {fo : Option κ} (hl : kids = [] ∨ kids.length = items.length + 1) (hi : items.length < i) : restW key lt kids items i fo = [] := by
  unfold restW
  rw [List.drop_of_length_le (show items.length ≤ i by omega), post, List.append_nil]
  rcases hl with rfl | hl
  · simp [atK, sel_nil]
  · have h9 : kids[i]? = none := List.getElem?_eq_none (by omega)
    rw [show atK kids i = [] by simp [atK, h9], sel_nil]
theorem srt_kid {kids : List (List α)} {items ys : List α} {i : Nat} (hl : kids = [] ∨ kids.length = items.length + 1) (hk : kids[i]? = some ys) (hs : Srt key lt (weave kids items)) : Srt key lt ys := by
  have hi := (List.getElem?_eq_some_iff.1 hk).1
  rcases hl with rfl | hl
  · simp at hi
  · have hw : weave kids items = preW (kids.take i) (items.take i) ++ (ys ++ post (items.drop i) (kids.drop (i + 1))) := by
      conv => lhs; rw [take_get hk, ← List.take_append_drop i items]
      exact weave_at (by rw [List.length_take, List.length_take]; omega)
    rw [hw] at hs
    exact (List.pairwise_append.1 (List.pairwise_append.1 hs).2.1).1
theorem or_yes {p q : Prop} {bb : Bool} (h : (bb = true ∧ p) ∨ (bb = false ∧ q)) (hb : bb = true) : p := by
  rcases h with ⟨_, h⟩ | ⟨h, _⟩
  · exact h
  · rw [hb] at h; cases h
theorem or_no {p q : Prop} {bb : Bool} (h : (bb = true ∧ p) ∨ (bb = false ∧ q)) (hb : bb = false) : q := by
  rcases h with ⟨h, _⟩ | ⟨_, h⟩
  · rw [hb] at h; cases h
  · exact h
theorem prefix_snoc {A Z : List α} {x : α} : A ++ [x] <+: A ++ x :: Z := ⟨Z, by simp⟩
/-- Where a walk begins: at all, or at a key that lies in memory. -/
def FromOk (kv : κ → Value) (TK : Nat) (G : List Res) (fr : Option κ) (fp : Option Addr) : Prop := (fr = none ∧ fp = none) ∨ ∃ k kb, fr = some k ∧ fp = some ⟨kb, 0, none⟩ ∧ blk kb (.cells #[kv k] TK (0, 0)) ∈ G
theorem FromOk.some {kv : κ → Value} {TK : Nat} {G : List Res} {fr : Option κ} {fp : Option Addr} (h : FromOk kv TK G fr fp) (hn : fp ≠ none) : ∃ k kb, fr = Option.some k ∧ fp = Option.some ⟨kb, 0, none⟩ ∧ blk kb (.cells #[kv k] TK (0, 0)) ∈ G := by
  rcases h with ⟨_, h⟩ | h
  · exact absurd h hn
  · exact h
theorem FromOk.none {kv : κ → Value} {TK : Nat} {G : List Res} {fr : Option κ} {fp : Option Addr} (h : FromOk kv TK G fr fp) (hn : fp = none) : fr = Option.none := by
  rcases h with ⟨h, _⟩ | ⟨k, kb, _, h, _⟩
  · exact h
  · rw [hn] at h; cases h
theorem FromOk.more {kv : κ → Value} {TK : Nat} {G : List Res} {fr : Option κ} {fp : Option Addr} (h : FromOk kv TK G fr fp) (A : List Res) : FromOk kv TK (A ++ G) fr fp := by
  rcases h with h | ⟨k, kb, h1, h2, h3⟩
  · exact .inl h
  · exact .inr ⟨k, kb, h1, h2, List.mem_append_right _ h3⟩
theorem rd_in {W : World} {L : List Res} {kb T : Nat} {v : Value} (h : blk kb (.cells #[v] T (0, 0)) ∈ L) : Rd W L ⟨kb, 0, Option.none⟩ v := fun w S => by
  obtain ⟨L', S'⟩ := mem_front h S
  rw [S'.cell]; rfl
end
section
open Classical
variable {α κ β : Type} {key : α → κ} {lt : κ → κ → Prop} {val : α → β} {zero : β} (eI : Enc α) (eK : Enc Nat) (TN TT : Nat)
def treeR (key : α → κ) (lt : κ → κ → Prop) (t : Nat) (xs : List α) : Res := obj (fun _ : Nat × Nat => Srt key lt xs) fun z => [blk t (.cells #[.pointer (some ⟨z.2, 0, none⟩), .int .i64 (xs.length : Int)] TT (0, 0)), nodeR eI eK TN z.1 0 z.2 xs]
variable {eI eK TN TT} {P : Program} {N : FN} {l : Fr} {W w : World} {L : List Res} {Q : Exit → Act → World → Prop} {ops : Array Oper} {rest : List Oper} {cd : Code} {t : Nat} {xs : List α}
theorem treeOpen (S : Sat W w (treeR eI eK TN TT key lt t xs :: L)) : ∃ d rb, Srt key lt xs ∧ Sat W w (blk t (.cells #[.pointer (some ⟨rb, 0, none⟩), .int .i64 (xs.length : Int)] TT (0, 0)) :: nodeR eI eK TN d 0 rb xs :: L) := by
  obtain ⟨⟨d, rb⟩, h, S'⟩ := Sat.obj_open S
  exact ⟨d, rb, h, S'⟩
theorem treeMk (d rb : Nat) (h : Srt key lt xs) (S : Sat W w (blk t (.cells #[.pointer (some ⟨rb, 0, none⟩), .int .i64 (xs.length : Int)] TT (0, 0)) :: nodeR eI eK TN d 0 rb xs :: L)) : Sat W w (treeR eI eK TN TT key lt t xs :: L) := Sat.obj_mk (d, rb) h S
theorem c_tree (h : ∀ d rb, Srt key lt xs → WC P cd Q N l W (blk t (.cells #[.pointer (some ⟨rb, 0, none⟩), .int .i64 (xs.length : Int)] TT (0, 0)) :: nodeR eI eK TN d 0 rb xs :: L)) : WC P cd Q N l W (treeR eI eK TN TT key lt t xs :: L) := fun a w K S =>
  let ⟨d, rb, hs, S'⟩ := treeOpen S; h d rb hs a w K S'
/-- A new tree. -/
theorem tree_new {nb : Nat} (S : Sat W w (blk t (.cells #[.pointer (some ⟨nb, 0, none⟩), .int .i64 0] TT (0, 0)) :: blk nb (.cells #[.slice none 0 0, .slice none 0 0] TN (0, 0)) :: L)) : Sat W w (treeR eI eK TN TT key lt t ([] : List α) :: L) := by
  refine treeMk 0 nb List.Pairwise.nil ?_
  refine (nodeMk (eI := eI) (eK := eK) (TN := TN) (d := 0) (mn := 0) ⟨none, 0, none, 0, [], []⟩ ⟨Nat.le_refl _, Nat.zero_le _, rfl, .inl ⟨rfl, rfl⟩⟩ ?_).perm (List.Perm.swap _ _ _)
  have S1 := S.perm (List.Perm.swap _ _ _)
  have S2 := Sat.own_nil (T := eI.T) (sz := eI.sz) (Sat.own_nil (T := eK.T) (sz := eK.sz) (Sat.stars_nil S1))
  -- rowI, rowK, kids, node, tree
  exact (S2.perm p3)
theorem Old.len (o : Sto lt) {x : α} {old : β} {had : Bool} (hs : Srt key lt xs) (h : Old key val zero x xs old had) : ((ins key lt x xs).length : Int) = (xs.length : Int) + (if had then 0 else 1) := by
  have hgen : ∀ {ys : List α}, Srt key lt ys → ((∃ y ∈ ys, key y = key x) → (ins key lt x ys).length = ys.length) ∧ ((¬ ∃ y ∈ ys, key y = key x) → (ins key lt x ys).length = ys.length + 1) := by
    intro ys
    induction ys with
    | nil => intro _; exact ⟨fun ⟨y, hy, _⟩ => by simp at hy, fun _ => rfl⟩
    | cons y ys ih =>
      intro hys
      have h' := List.pairwise_cons.1 hys
      have ih' := ih h'.2
      rw [ins]
      split
      · rename_i h1
        refine ⟨fun ⟨z, hz, he⟩ => ?_, fun _ => rfl⟩
        rcases List.mem_cons.1 hz with rfl | hz
        · exact absurd (he ▸ h1) (o.irr _)
        · exact absurd (he ▸ o.tr h1 (h'.1 z hz)) (o.irr _)
      · rename_i h1
        split
        · rename_i h2
          refine ⟨fun ⟨z, hz, he⟩ => ?_, fun hn => ?_⟩
          · rcases List.mem_cons.1 hz with rfl | hz
            · exact absurd (he ▸ h2) (o.irr _)
            · rw [List.length_cons, ih'.1 ⟨z, hz, he⟩]; rfl
          · rw [List.length_cons, ih'.2 (fun ⟨z, hz, he⟩ => hn ⟨z, List.mem_cons_of_mem _ hz, he⟩)]; rfl
        · rename_i h2
          exact ⟨fun _ => rfl, fun hn => absurd ⟨y, by simp, (o.tri h1 h2).symm⟩ hn⟩
  have hg := hgen hs
  cases had with
  | true => rw [hg.1 (h.hadI.1 rfl)]; simp
  | false => rw [hg.2 (fun h9 => by have := h.hadI.2 h9; cases this)]; simp
/-- Behind put: the root has a new one above it. -/
theorem root_new {d rb br nb : Nat} {ls rs : List α} {m : α} {a ak : Option Addr} {c ck : Nat} (S : Sat W w (blk nb (.cells #[.slice a 1 c, .slice ak 2 ck] TN (0, 0)) :: row eI.T eI.sz a 1 c (flat eI [m]) :: row eK.T eK.sz ak 2 ck (flat eK [rb, br]) :: nodeR eI eK TN d 2 rb ls :: nodeR eI eK TN d 2 br rs :: L)) : Sat W w (nodeR eI eK TN (d + 1) 0 nb (ls ++ m :: rs) :: L) := by
  refine nodeMk ⟨a, c, ak, ck, [m], [(rb, ls), (br, rs)]⟩ ⟨Nat.zero_le _, (show 1 ≤ 5 by decide), by simp [weave, post], .inr ⟨by omega, rfl, Nat.le_refl _⟩⟩ ?_
  have h := (((S.perm p3).perm p4) : Sat W w (nodeR eI eK TN d 2 br rs :: nodeR eI eK TN d 2 rb ls :: blk nb (.cells #[.slice a 1 c, .slice ak 2 ck] TN (0, 0)) :: row eI.T eI.sz a 1 c (flat eI [m]) :: row eK.T eK.sz ak 2 ck (flat eK [rb, br]) :: L))
  have h2 := Sat.unflat (Ls := [nodeR eI eK TN d 2 rb ls, nodeR eI eK TN d 2 br rs]) (h.perm (List.Perm.swap _ _ _))
  -- kids, node, rowI, rowK
  exact ((h2.perm p3).perm p3).perm p3
end
end
section
set_option linter.unusedVariables false
set_option linter.unusedSimpArgs false
open Go.RowKit
theorem flat_setAll {α : Type} {P : Program} {e : Enc α} (ok : EncOk P e) (x1 : α) {xs : List α} {i : Nat} (h : i < xs.length) : (flat e xs).take (i * e.sz) ++ e.cells x1 ++ (flat e xs).drop (i * e.sz + e.sz) = flat e (xs.set i x1) := by
  rw [List.set_eq_take_append_cons_drop, if_pos h, flat_append, flat_take ok]
  have h1 : flat e (x1 :: xs.drop (i + 1)) = e.cells x1 ++ flat e (xs.drop (i + 1)) := rfl
  rw [h1, flat_drop ok, Nat.add_mul, Nat.one_mul, List.append_assoc]
theorem take_mid {α : Type} {A vs : List α} {j n : Nat} (h : j + vs.length ≤ n) (hA : n ≤ A.length) : (A.take j ++ vs ++ A.drop (j + vs.length)).take n = (A.take n).take j ++ vs ++ (A.take n).drop (j + vs.length) := by
  apply List.ext_getElem?
  intro k
  simp only [List.getElem?_append, List.getElem?_take, List.getElem?_drop, List.length_append, List.length_take]
  grind
/-- vs in the place of a piece. -/
theorem pn_skip {A R R' vs : List Value} {n j k : Nat} (hA : A.length = n) (hk : k = n + j) (h : R.take j ++ vs ++ R.drop (j + vs.length) = R') : (A ++ R).take k ++ vs ++ (A ++ R).drop (k + vs.length) = A ++ R' := by
  subst hA; subst hk; subst h
  rw [List.take_length_add_append, Nat.add_assoc, List.drop_length_add_append]
  simp
theorem pn_inx {A R A' vs : List Value} {j : Nat} (hj : j + vs.length ≤ A.length) (h : A.take j ++ vs ++ A.drop (j + vs.length) = A') : (A ++ R).take j ++ vs ++ (A ++ R).drop (j + vs.length) = A' ++ R := by
  subst h
  rw [List.take_append_of_le_length (by omega), List.drop_append_of_le_length hj]
  simp
section
variable {P : Program} {N : FN} {l : Fr} {W : World} {L L0 : List Res} {Q : Exit → Act → World → Prop} {ops : Array Oper} {rest : List Oper}
variable {d : Nat} {ty : TypeId} {pos : String} {af : Array Edge}
theorem o_storeRowAll {α : Type} {e : Enc α} {t : TypeId} {x y : Operand} {a : Option Addr} {ad : Addr} {i c : Nat} {xs : List α} {z : Value} {b : Nat} {vs : Array Value} (ok : EncOk P e) (ea : a = some ad) (hx : opv l x = some (.pointer (some (ad.add (i * e.sz))))) (hy : opv l y = some (.agg vs)) (hi : TI P t z e.sz b)
    (x1 : α) (hc : vs.toList = e.cells x1) (hlt : i < xs.length) (h : WL P ops Q rest N l W (row e.T e.sz a (xs.set i x1).length c (flat e (xs.set i x1)) :: L)) : WL P ops Q (⟨none, .store t x y, ty, pos, af, none⟩ :: rest) N l W (row e.T e.sz a xs.length c (flat e xs) :: L) := fun b' w K S => by
  obtain ⟨hl, ⟨h1, h2, _⟩ | ⟨g, cur, h1, h2, h3, h4, h5, S'⟩⟩ := S.own_cases
  · omega
  · rw [h1] at ea
    cases ea
    rw [Addr.add_mk, Nat.zero_add] at hx
    have hvs : vs.size = e.sz := by rw [← Array.length_toList, hc, ok.len]
    have hbig : i * e.sz + e.sz ≤ xs.length * e.sz := by
      have : (i + 1) * e.sz ≤ xs.length * e.sz := Nat.mul_le_mul_right _ hlt
      rwa [Nat.add_mul, Nat.one_mul] at this
    have hcs : xs.length * e.sz ≤ c * e.sz := Nat.mul_le_mul_right _ h2
    have hv : ∀ v ∈ vs.toList, v.oneCell' = true := fun v hv => ok.one x1 v (hc ▸ hv)
    have h6 := run_storeCells_at P g (i * e.sz) e.T vs.toList 0 cur w S'.read.2 (by simp; omega) hv
    simp only [Nat.add_zero, Array.length_toList] at h6
    have hvl : vs.toList.length = e.sz := by rw [hc, ok.len]
    have hT : ((cur.toList.take (i * e.sz) ++ vs.toList ++ cur.toList.drop (i * e.sz + vs.size)).toArray).toList.take (xs.length * e.sz) = flat e (xs.set i x1) := by
      have h7 := take_mid (A := cur.toList) (vs := vs.toList) (j := i * e.sz) (n := xs.length * e.sz) (by omega) (by have hcl : cur.toList.length = cur.size := Array.length_toList; omega)
      rw [hvl, h5, hc, flat_setAll ok x1 hlt] at h7
      rw [List.toList_toArray, hc, hvs]
      exact h7
    refine wpListIn_plain rfl fun k hk => wpIn_of_run (n := .skip) (w' := w.setRow g (cur.toList.take (i * e.sz) ++ vs.toList ++ cur.toList.drop (i * e.sz + vs.size)).toArray) ?_ (by simp) ?_
    · rw [← hvs] at hi
      simp [execOp, K.eval hx, K.eval hy, Instr.storeAt, Instr.sureAddr, storeVar, run_sizeOf' hi, Value.cells, h6]
    · subst h1
      have S2 : Sat W (w.setRow g (cur.toList.take (i * e.sz) ++ vs.toList ++ cur.toList.drop (i * e.sz + vs.size)).toArray) (blk g (.cells (cur.toList.take (i * e.sz) ++ vs.toList ++ cur.toList.drop (i * e.sz + vs.size)).toArray e.T (0, 0)) :: L) :=
        S'.turn rfl rfl rfl (by simp [World.setRow]) (setRow_heap w g cur _ e.T _ S'.read.2) (fun q hq => setRow_other w g q _ hq)
      have S3 := S2.own_mk (sz := e.sz) (c := c) (n := (xs.set i x1).length) (cs := flat e (xs.set i x1)) (by rw [List.length_set]; exact h2) h3 (by rw [List.size_toArray]; simp only [List.length_append, List.length_take, List.length_drop, Array.length_toList]; omega) (by rw [List.length_set]; exact hT)
      exact hk _ _ (h _ _ (K.none _) S3)
end
end
section
set_option linter.unusedVariables false
set_option linter.unusedSimpArgs false
open Go.RowKit
section
variable {P : Program} {N : FN} {l : Fr} {W : World} {L L0 : List Res} {Q : Exit → Act → World → Prop} {ops : Array Oper} {rest : List Oper}
variable {d : Nat} {ty : TypeId} {pos : String} {af : Array Edge}
theorem flat_setN {α : Type} {e : Enc α} (ok : EncOk P e) {xs : List α} {i o : Nat} {x0 x1 : α} {vs : List Value} (hg : xs[i]? = some x0) (ho : o + vs.length ≤ e.sz) (hc : e.cells x1 = (e.cells x0).take o ++ vs ++ (e.cells x0).drop (o + vs.length)) :
    (flat e xs).take (i * e.sz + o) ++ vs ++ (flat e xs).drop (i * e.sz + o + vs.length) = flat e (xs.set i x1) := by
  obtain ⟨hi, rfl⟩ := List.getElem?_eq_some_iff.1 hg
  have h1 : flat e xs = flat e (xs.take i) ++ (e.cells xs[i] ++ flat e (xs.drop (i + 1))) := by
    conv => lhs; rw [← List.take_append_drop i xs, List.drop_eq_getElem_cons hi]
    rw [flat_append]; rfl
  have h2 : flat e (xs.set i x1) = flat e (xs.take i) ++ (e.cells x1 ++ flat e (xs.drop (i + 1))) := by
    rw [List.set_eq_take_append_cons_drop, if_pos hi, flat_append]; rfl
  rw [h1, h2]
  exact pn_skip (by rw [flat_length ok, List.length_take, Nat.min_eq_left (Nat.le_of_lt hi)]) rfl (pn_inx (by rw [ok.len]; exact ho) hc.symm)
theorem rdn_slo {α : Type} {e : Enc α} {a : Option Addr} {ad : Addr} {xs : List α} (ok : EncOk P e) (ha : a = some ad) (h : RdS W L e a xs) {i o n : Nat} {x : α} {vs : List Value} (hx : xs[i]? = some x) (hv : ((e.cells x).drop o).take n = vs) : RdN W L (ad.add (i * e.sz + o)) vs := fun w S j u hj => by
  rw [Addr.add_add', Nat.add_assoc]
  subst hv
  have hjn : j < n := by
    have := (List.getElem?_eq_some_iff.1 hj).1
    rw [List.length_take] at this
    omega
  rw [List.getElem?_take_of_lt hjn, List.getElem?_drop] at hj
  exact rd_sl ok ha h hx hj w S
theorem o_storeRowN {α : Type} {e : Enc α} {t : TypeId} {x y : Operand} {a : Option Addr} {ad : Addr} {i o n c : Nat} {xs : List α} {x0 : α} {z : Value} {b : Nat} {vs : List Value} (ok : EncOk P e) (ea : a = some ad) (hx : opv l x = some (.pointer (some (ad.add (i * e.sz + o))))) (hy : opv l y = some (.agg vs.toArray)) (hi : TI P t z n b) (hn : vs.length = n)
    (x1 : α) (hg : xs[i]? = some x0) (ho : o + vs.length ≤ e.sz) (hc : e.cells x1 = (e.cells x0).take o ++ vs ++ (e.cells x0).drop (o + vs.length)) (h : WL P ops Q rest N l W (row e.T e.sz a (xs.set i x1).length c (flat e (xs.set i x1)) :: L)) : WL P ops Q (⟨none, .store t x y, ty, pos, af, none⟩ :: rest) N l W (row e.T e.sz a xs.length c (flat e xs) :: L) := fun b' w K S => by
  have hlt := (List.getElem?_eq_some_iff.1 hg).1
  obtain ⟨hl, ⟨h1, h2, _⟩ | ⟨g, cur, h1, h2, h3, h4, h5, S'⟩⟩ := S.own_cases
  · omega
  · rw [h1] at ea
    cases ea
    rw [Addr.add_mk, Nat.zero_add] at hx
    have hbig : i * e.sz + e.sz ≤ xs.length * e.sz := by
      have : (i + 1) * e.sz ≤ xs.length * e.sz := Nat.mul_le_mul_right _ hlt
      rwa [Nat.add_mul, Nat.one_mul] at this
    have hcs : xs.length * e.sz ≤ c * e.sz := Nat.mul_le_mul_right _ h2
    have hv : ∀ v ∈ vs, v.oneCell' = true := fun v hv => ok.one x1 v (by rw [hc]; simp [hv])
    have h6 := run_storeCells_at P g (i * e.sz + o) e.T vs 0 cur w S'.read.2 (by simp; omega) hv
    simp only [Nat.add_zero] at h6
    have hT : ((cur.toList.take (i * e.sz + o) ++ vs ++ cur.toList.drop (i * e.sz + o + vs.length)).toArray).toList.take (xs.length * e.sz) = flat e (xs.set i x1) := by
      have h7 := take_mid (A := cur.toList) (vs := vs) (j := i * e.sz + o) (n := xs.length * e.sz) (by omega) (by have hcl : cur.toList.length = cur.size := Array.length_toList; omega)
      rw [h5, flat_setN ok hg ho hc] at h7
      rw [List.toList_toArray]
      exact h7
    refine wpListIn_plain rfl fun k hk => wpIn_of_run (n := .skip) (w' := w.setRow g (cur.toList.take (i * e.sz + o) ++ vs ++ cur.toList.drop (i * e.sz + o + vs.length)).toArray) ?_ (by simp) ?_
    · rw [← hn] at hi
      have hi' : TI P t z vs.toArray.size b := by rw [List.size_toArray]; exact hi
      simp [execOp, K.eval hx, K.eval hy, Instr.storeAt, Instr.sureAddr, storeVar, run_sizeOf' hi, Value.cells, h6]
    · subst h1
      have S2 : Sat W (w.setRow g (cur.toList.take (i * e.sz + o) ++ vs ++ cur.toList.drop (i * e.sz + o + vs.length)).toArray) (blk g (.cells (cur.toList.take (i * e.sz + o) ++ vs ++ cur.toList.drop (i * e.sz + o + vs.length)).toArray e.T (0, 0)) :: L) :=
        S'.turn rfl rfl rfl (by simp [World.setRow]) (setRow_heap w g cur _ e.T _ S'.read.2) (fun q hq => setRow_other w g q _ hq)
      have S3 := S2.own_mk (sz := e.sz) (c := c) (n := (xs.set i x1).length) (cs := flat e (xs.set i x1)) (by rw [List.length_set]; exact h2) h3 (by rw [List.size_toArray]; simp only [List.length_append, List.length_take, List.length_drop, Array.length_toList]; omega) (by rw [List.length_set]; exact hT)
      exact hk _ _ (h _ _ (K.none _) S3)
theorem rs_4 {fn : Func} {x y z q : ResultVar} {v u t s : Value} (h : fn.results = #[x, y, z, q]) (h1 : RS P N l W L x v) (h2 : RS P N l W L y u) (h3 : RS P N l W L z t) (h4 : RS P N l W L q s) : ∀ a w, Know a N l → Sat W w L → (results fn a.tmps).run P w = .ok (.tuple #[v, u, t, s]) w := fun a w K S => by
  have e1 := h1 a w K S
  have e2 := h2 a w K S
  have e3 := h3 a w K S
  have e4 := h4 a w K S
  show (do let vs ← fn.results.mapM (resf a.tmps); pure (if h : vs.size = 1 then vs[0] else .tuple vs) : Sem Value).run P w = _
  rw [h]
  simp [Sem.run_bind, e1, e2, e3, e4]
end
end
section
set_option linter.unusedVariables false
open Go.RowKit
theorem ti3 : TI Try.prog 3 (.int .i64 0) 1 8 := by unfold TI; kernel_rfl
theorem ti4 : TI Try.prog 4 (.bool false) 1 1 := by unfold TI; kernel_rfl
theorem ti9 : TI Try.prog 9 (.string ByteArray.empty) 1 16 := by unfold TI; kernel_rfl
theorem ti5 : TI Try.prog 5 (.int .u8 0) 1 1 := by unfold TI; kernel_rfl
theorem ti34 : TI Try.prog 34 (.int .u64 0) 1 8 := by unfold TI; kernel_rfl
theorem ti36 : TI Try.prog 36 (.agg #[.bool false, .slice none 0 0, .int .i64 0, .int .u64 0]) 4 48 := by unfold TI; kernel_rfl
theorem ti49 : TI Try.prog 49 (.agg #[.string ByteArray.empty, .bool false, .slice none 0 0, .int .i64 0, .int .u64 0]) 5 64 := by unfold TI; kernel_rfl
theorem ti23 : TI Try.prog 23 (.slice none 0 0) 1 24 := by unfold TI; kernel_rfl
theorem ti110 : TI Try.prog 110 (.agg #[.string ByteArray.empty, .bool false, .slice none 0 0, .int .i64 0, .int .u64 0]) 5 64 := by unfold TI; kernel_rfl
theorem ti103 : TI Try.prog 103 (.agg #[.slice none 0 0, .slice none 0 0]) 2 48 := by unfold TI; kernel_rfl
theorem ti105 : TI Try.prog 105 (.agg #[.pointer none, .int .i64 0]) 2 16 := by unfold TI; kernel_rfl
theorem ti100 : TI Try.prog 100 (.slice none 0 0) 1 24 := by unfold TI; kernel_rfl
theorem ti101 : TI Try.prog 101 (.slice none 0 0) 1 24 := by unfold TI; kernel_rfl
theorem ti99 : TI Try.prog 99 (.pointer none) 1 8 := by unfold TI; kernel_rfl
theorem ti62 : TI Try.prog 62 (.pointer none) 1 8 := by unfold TI; kernel_rfl
theorem ti65 : TI Try.prog 65 (.agg #[.int .i64 0, .pointer none]) 2 16 := by unfold TI; kernel_rfl
theorem ti54 : TI Try.prog 54 (.agg #[.int .i64 0, .slice none 0 0]) 2 32 := by unfold TI; kernel_rfl
theorem ti43 : TI Try.prog 43 (.slice none 0 0) 1 24 := by unfold TI; kernel_rfl
theorem cal8 : Callable Try.prog 8 := ⟨_, Try.func8, rfl, by kernel_rfl⟩
theorem cal10 : Callable Try.prog 10 := ⟨_, Try.func10, rfl, by kernel_rfl⟩
theorem cal13 : Callable Try.prog 13 := ⟨_, Try.func13, rfl, by kernel_rfl⟩
theorem cal14 : Callable Try.prog 14 := ⟨_, Try.func14, rfl, by kernel_rfl⟩
theorem cal15 : Callable Try.prog 15 := ⟨_, Try.func15, rfl, by kernel_rfl⟩
theorem cal18 : Callable Try.prog 18 := ⟨_, Try.func18, rfl, by kernel_rfl⟩
theorem cal19 : Callable Try.prog 19 := ⟨_, Try.func19, rfl, by kernel_rfl⟩
theorem cal20 : Callable Try.prog 20 := ⟨_, Try.func20, rfl, by kernel_rfl⟩
theorem cal22 : Callable Try.prog 22 := ⟨_, Try.func22, rfl, by kernel_rfl⟩
theorem cal23 : Callable Try.prog 23 := ⟨_, Try.func23, rfl, by kernel_rfl⟩
theorem cal25 : Callable Try.prog 25 := ⟨_, Try.func25, rfl, by kernel_rfl⟩
theorem cal27 : Callable Try.prog 27 := ⟨_, Try.func27, rfl, by kernel_rfl⟩
theorem cal28 : Callable Try.prog 28 := ⟨_, Try.func28, rfl, by kernel_rfl⟩
theorem cal29 : Callable Try.prog 29 := ⟨_, Try.func29, rfl, by kernel_rfl⟩
theorem cal30 : Callable Try.prog 30 := ⟨_, Try.func30, rfl, by kernel_rfl⟩
theorem cal31 : Callable Try.prog 31 := ⟨_, Try.func31, rfl, by kernel_rfl⟩
theorem cal32 : Callable Try.prog 32 := ⟨_, Try.func32, rfl, by kernel_rfl⟩
theorem cal38 : Callable Try.prog 38 := ⟨_, Try.func38, rfl, by kernel_rfl⟩
theorem cal39 : Callable Try.prog 39 := ⟨_, Try.func39, rfl, by kernel_rfl⟩
theorem cal40 : Callable Try.prog 40 := ⟨_, Try.func40, rfl, by kernel_rfl⟩
theorem cal41 : Callable Try.prog 41 := ⟨_, Try.func41, rfl, by kernel_rfl⟩
theorem cal42 : Callable Try.prog 42 := ⟨_, Try.func42, rfl, by kernel_rfl⟩
theorem cal43 : Callable Try.prog 43 := ⟨_, Try.func43, rfl, by kernel_rfl⟩
theorem cal46 : Callable Try.prog 46 := ⟨_, Try.func46, rfl, by kernel_rfl⟩
theorem cal47 : Callable Try.prog 47 := ⟨_, Try.func47, rfl, by kernel_rfl⟩
theorem cal48 : Callable Try.prog 48 := ⟨_, Try.func48, rfl, by kernel_rfl⟩
theorem cal49 : Callable Try.prog 49 := ⟨_, Try.func49, rfl, by kernel_rfl⟩
theorem cal50 : Callable Try.prog 50 := ⟨_, Try.func50, rfl, by kernel_rfl⟩
theorem cal51 : Callable Try.prog 51 := ⟨_, Try.func51, rfl, by kernel_rfl⟩
theorem cal52 : Callable Try.prog 52 := ⟨_, Try.func52, rfl, by kernel_rfl⟩
theorem cal53 : Callable Try.prog 53 := ⟨_, Try.func53, rfl, by kernel_rfl⟩
theorem cal54 : Callable Try.prog 54 := ⟨_, Try.func54, rfl, by kernel_rfl⟩
theorem cal55 : Callable Try.prog 55 := ⟨_, Try.func55, rfl, by kernel_rfl⟩
theorem cal56 : Callable Try.prog 56 := ⟨_, Try.func56, rfl, by kernel_rfl⟩
theorem cal59 : Callable Try.prog 59 := ⟨_, Try.func59, rfl, by kernel_rfl⟩
theorem cal60 : Callable Try.prog 60 := ⟨_, Try.func60, rfl, by kernel_rfl⟩
theorem cal61 : Callable Try.prog 61 := ⟨_, Try.func61, rfl, by kernel_rfl⟩
theorem cal62 : Callable Try.prog 62 := ⟨_, Try.func62, rfl, by kernel_rfl⟩
theorem cal63 : Callable Try.prog 63 := ⟨_, Try.func63, rfl, by kernel_rfl⟩
theorem cal64 : Callable Try.prog 64 := ⟨_, Try.func64, rfl, by kernel_rfl⟩
theorem cal65 : Callable Try.prog 65 := ⟨_, Try.func65, rfl, by kernel_rfl⟩
theorem cal66 : Callable Try.prog 66 := ⟨_, Try.func66, rfl, by kernel_rfl⟩
theorem cal67 : Callable Try.prog 67 := ⟨_, Try.func67, rfl, by kernel_rfl⟩
theorem cal68 : Callable Try.prog 68 := ⟨_, Try.func68, rfl, by kernel_rfl⟩
theorem cal69 : Callable Try.prog 69 := ⟨_, Try.func69, rfl, by kernel_rfl⟩
theorem cal70 : Callable Try.prog 70 := ⟨_, Try.func70, rfl, by kernel_rfl⟩
theorem cal71 : Callable Try.prog 71 := ⟨_, Try.func71, rfl, by kernel_rfl⟩
theorem cal72 : Callable Try.prog 72 := ⟨_, Try.func72, rfl, by kernel_rfl⟩
theorem cal73 : Callable Try.prog 73 := ⟨_, Try.func73, rfl, by kernel_rfl⟩
theorem cal74 : Callable Try.prog 74 := ⟨_, Try.func74, rfl, by kernel_rfl⟩
theorem cal75 : Callable Try.prog 75 := ⟨_, Try.func75, rfl, by kernel_rfl⟩
theorem cal76 : Callable Try.prog 76 := ⟨_, Try.func76, rfl, by kernel_rfl⟩
theorem cal77 : Callable Try.prog 77 := ⟨_, Try.func77, rfl, by kernel_rfl⟩
theorem cal78 : Callable Try.prog 78 := ⟨_, Try.func78, rfl, by kernel_rfl⟩
theorem cal79 : Callable Try.prog 79 := ⟨_, Try.func79, rfl, by kernel_rfl⟩
theorem sp110 : StructP Try.prog 110 #[(0, 1), (1, 4)] := ⟨_, Try.underlying110, fun w => by kernel_rfl⟩
theorem sp103 : StructP Try.prog 103 #[(0, 1), (1, 1)] := ⟨_, Try.underlying103, fun w => by kernel_rfl⟩
theorem sp105 : StructP Try.prog 105 #[(0, 1), (1, 1)] := ⟨_, Try.underlying105, fun w => by kernel_rfl⟩
theorem sp36 : StructP Try.prog 36 #[(0, 1), (1, 1), (2, 1), (3, 1)] := ⟨_, Try.underlying36, fun w => by kernel_rfl⟩
theorem sp49 : StructP Try.prog 49 #[(0, 1), (1, 4)] := ⟨_, Try.underlying49, fun w => by kernel_rfl⟩
theorem sp65 : StructP Try.prog 65 #[(0, 1), (1, 1)] := ⟨_, Try.underlying65, fun w => by kernel_rfl⟩
theorem sp54 : StructP Try.prog 54 #[(0, 1), (1, 1)] := ⟨_, Try.underlying54, fun w => by kernel_rfl⟩
abbrev e8 : Enc UInt8 := ⟨5, 1, 1, (.int .u8 0), fun x => [.int .u8 (x.toNat : Int)]⟩
theorem e8_ok : EncOk Try.prog e8 := ⟨ti5, rfl, Nat.zero_lt_one, fun _ => rfl, fun x v hv => by simp at hv; subst hv; rfl⟩
abbrev eN99 : Enc Nat := ⟨99, 1, 8, (.pointer none), fun x => [.pointer (some ⟨x, 0, none⟩)]⟩
theorem eN99_ok : EncOk Try.prog eN99 := ⟨ti99, rfl, Nat.zero_lt_one, fun _ => rfl, fun x v hv => by simp at hv; subst hv; rfl⟩
structure Rec where
  f_Has : Bool
  f_Value : (Sl UInt8)
  f_Home : Int
  f_Count : Int
structure ItA where
  f_key : ByteArray
  f_value : Rec
abbrev e_ItA : Enc ItA := ⟨110, 5, 64, (.agg #[.string ByteArray.empty, .bool false, .slice none 0 0, .int .i64 0, .int .u64 0]), fun x => [.string x.f_key, .bool x.f_value.f_Has, x.f_value.f_Value.val, .int .i64 x.f_value.f_Home, .int .u64 x.f_value.f_Count]⟩
theorem e_ItA_ok : EncOk Try.prog e_ItA := ⟨ti110, rfl, Nat.lt_of_lt_of_le Nat.zero_lt_one (Nat.le_of_ble_eq_true rfl), fun _ => rfl, fun x v hv => by simp at hv; rcases hv with rfl | rfl | rfl | rfl | rfl <;> rfl⟩
abbrev e_Row : Enc ItA := ⟨49, 5, 64, (.agg #[.string ByteArray.empty, .bool false, .slice none 0 0, .int .i64 0, .int .u64 0]), fun x => [.string x.f_key, .bool x.f_value.f_Has, x.f_value.f_Value.val, .int .i64 x.f_value.f_Home, .int .u64 x.f_value.f_Count]⟩
theorem e_Row_ok : EncOk Try.prog e_Row := ⟨ti49, rfl, Nat.lt_of_lt_of_le Nat.zero_lt_one (Nat.le_of_ble_eq_true rfl), fun _ => rfl, fun x v hv => by simp at hv; rcases hv with rfl | rfl | rfl | rfl | rfl <;> rfl⟩
structure Op where
  f_Kind : Int
  f_N : Int
  f_Key : ByteArray
  f_Value : (Sl UInt8)
end
section
set_option linter.unusedVariables false
set_option linter.unusedSimpArgs false
set_option maxRecDepth 10000
open Go.RowKit Classical
theorem ti76 : TI Try.prog 76 (.agg #[.slice none 0 0]) 1 24 := by unfold TI; kernel_rfl
theorem sp76 : StructP Try.prog 76 #[(0, 1)] := ⟨_, Try.underlying76, fun w => by kernel_rfl⟩
end
section
set_option linter.unusedVariables false
set_option linter.unusedSimpArgs false
open Go.RowKit
theorem cv8 (n : Nat) : IntKind.u8.wrap (n : Int) = ((UInt8.ofNat n).toNat : Int) := by
  simp [IntKind.wrap, IntKind.signed, IntKind.bits]
theorem or128 (a : UInt8) : ibits .or .u8 (a.toNat : Int) 128 = ((a ||| 128).toNat : Int) := by
  have : ∀ b : BitVec 8, ibits .or .u8 ((UInt8.ofBitVec b).toNat : Int) 128 = ((UInt8.ofBitVec b ||| 128).toNat : Int) := by decide
  exact this a.toBitVec
theorem fdiv128 (n : Nat) : (n : Int).fdiv 128 = ((n / 128 : Nat) : Int) := by rw [Int.fdiv_eq_ediv_of_nonneg _ (by omega)]; omega
/-- A number's bytes. -/
def numB (n : Nat) : List UInt8 := if h : n < 128 then [UInt8.ofNat n] else (UInt8.ofNat n ||| 128) :: numB (n / 128)
theorem numB_lt {n : Nat} (h : n < 128) : numB n = [UInt8.ofNat n] := by rw [numB]; simp [h]
theorem numB_ge {n : Nat} (h : 128 ≤ n) : numB n = (UInt8.ofNat n ||| 128) :: numB (n / 128) := by rw [numB]; simp [show ¬ n < 128 by omega]
theorem numB_len_le : ∀ (k n : Nat), n < 128 ^ k → 0 < k → (numB n).length ≤ k
  | 0, n, h, hk => absurd hk (by omega)
  | k + 1, n, h, _ => by
    by_cases hn : n < 128
    · rw [numB_lt hn]; simp
    · rw [numB_ge (by omega)]
      have hk : 0 < k := by
        rcases Nat.eq_zero_or_pos k with h0 | h0
        · subst h0; simp at h; omega
        · exact h0
      have := numB_len_le k (n / 128) (by rw [Nat.pow_succ] at h; exact Nat.div_lt_of_lt_mul (by rw [Nat.mul_comm]; exact h)) hk
      simp; omega
theorem numB_pos (n : Nat) : 0 < (numB n).length := by
  by_cases hn : n < 128
  · rw [numB_lt hn]; simp
  · rw [numB_ge (by omega)]; simp
theorem or_low (n : Nat) : (UInt8.ofNat n ||| 128).toNat = n % 128 + 128 := by
  have h : ∀ k : Fin 256, (UInt8.ofNat k.val ||| 128).toNat = k.val % 128 + 128 := by decide +kernel
  have h2 : UInt8.ofNat n = UInt8.ofNat (n % 256) := by apply UInt8.toNat_inj.1; simp
  rw [h2, h ⟨n % 256, Nat.mod_lt _ (by omega)⟩]
  show n % 256 % 128 + 128 = _
  omega
theorem of_low {n : Nat} (h : n < 128) : (UInt8.ofNat n).toNat = n := by simp; omega
theorem tmod128 (n : Nat) : (n : Int).tmod 128 = ((n % 128 : Nat) : Int) := by rw [Int.tmod_eq_emod_of_nonneg (by omega)]; omega
end
section
set_option linter.unusedVariables false
set_option linter.unusedSimpArgs false
set_option maxRecDepth 10000
open Go.RowKit
theorem clone8p {W : World} {F : List Res} {xs : List UInt8} {a : Option Addr} {c : Nat} (hs : RdS W F e8 a xs) (hn : xs.length ≤ 70000000000000) : CS Try.prog 61 #[.slice a xs.length c] W (F) (fun r L' => ∃ (a' : Option Addr) (c' : Nat), r = .slice a' xs.length c' ∧ L' = row e8.T e8.sz a' (xs).length c' (flat e8 xs) :: F) := by
 refine f_door (l0 := [(0, .slice a xs.length c)]) Try.func61 Try.ntmps61 rfl rfl rfl ?_
 refine c_seq ?_
 refine c_fact (rds_nilq hs) ?_
 intro hz
 refine c_region (o_assign rfl rfl (l_nil (q_then (c_seq (c_seq (c_region (o_move rfl rfl ?_)))))))
 refine o_bin rfl rfl rfl (b_sleq Try.underlying23 _ _ _) ?_
 refine l_nil (q_then ?_)
 refine c_cond rfl (fun h1 => ?_) (fun h1 => ?_)
 · -- h1T
  try simp only [decide_eq_true_eq, decide_eq_false_iff_not, Bool.not_eq_eq_eq_not, Bool.not_true, Bool.not_false, Bool.not_eq_true', Bool.not_eq_false', Int.not_lt, Int.not_le, Bool.or_eq_true, Bool.and_eq_true] at h1
  have hnil : xs = [] := hz (by simpa using h1)
  refine c_seq (c_region (o_assign rfl rfl (l_nil (q_then (c_ret (q_pass_ret ?_))))))
  exact f_ret (r_one rfl rfl) (⟨none, 0, by rw [hnil]; rfl, rfl⟩) (by rw [hnil]; exact fun w S => S.own_nil)
 · -- h1F
  try simp only [decide_eq_true_eq, decide_eq_false_iff_not, Bool.not_eq_eq_eq_not, Bool.not_true, Bool.not_false, Bool.not_eq_true', Bool.not_eq_false', Int.not_lt, Int.not_le, Bool.or_eq_true, Bool.and_eq_true] at h1
  refine c_skip (q_then (c_seq (c_region ?_)))
  refine o_lit e8_ok rfl Try.underlying23 rfl rfl rfl (lit_ok rfl) ([] : List UInt8) rfl rfl fun a5 => ?_
  refine o_move rfl rfl ?_
  refine o_append e8_ok rfl rfl rfl Try.underlying23 (rds_c hs) (by show (_ + _) * 1 ≤ _; (try simp only [List.length_append, List.length_cons, List.length_nil]); omega) (by (try simp only [List.length_append, List.length_cons, List.length_nil]); omega) fun a7 c7 => ?_
  refine o_assign rfl rfl (l_nil (q_then (c_ret ?_)))
  exact f_ret (r_one rfl rfl) (⟨_, _, rfl, rfl⟩) (fun w S => by simpa using S)
end
section
set_option linter.unusedVariables false
set_option linter.unusedSimpArgs false
set_option maxRecDepth 10000
open Go.RowKit
theorem penNum {W : World} {F : List Res} {k : Nat} {xs : List UInt8} {a : Option Addr} {c : Nat} {v : Nat} (hv : v < 18446744073709551616) (hn : xs.length ≤ 70000000000000) : CS Try.prog 39 #[.pointer (some ⟨k, 0, none⟩), .int .u64 (v : Int)] W (blk k (.cells #[.slice a (xs).length c] 76 (0, 0)) :: row e8.T e8.sz a (xs).length c (flat e8 xs) :: F) (fun r L' => ∃ (a' : Option Addr) (c' : Nat), r = .tuple #[] ∧ L' = blk k (.cells #[.slice a' ((xs ++ numB v)).length c'] 76 (0, 0)) :: row e8.T e8.sz a' ((xs ++ numB v)).length c' (flat e8 (xs ++ numB v)) :: F) := by
 refine f_door (l0 := [(0, .pointer (some ⟨k, 0, none⟩)), (1, .int .u64 (v : Int))]) Try.func39 Try.ntmps39 rfl rfl rfl ?_
 refine c_seq (c_block ?_)
 refine c_loop (α := Nat × (List UInt8) × (Option Addr) × Nat) (fun z => [(0, .pointer (some ⟨k, 0, none⟩)), (1, .int .u64 (z.1 : Int))]) (fun z => blk k (.cells #[.slice z.2.2.1 (z.2.1).length z.2.2.2] 76 (0, 0)) :: row e8.T e8.sz z.2.2.1 (z.2.1).length z.2.2.2 (flat e8 z.2.1) :: F) (fun z => z.2.1 ++ numB z.1 = xs ++ numB v ∧ z.1 < 18446744073709551616 ∧ z.2.1.length + (numB z.1).length ≤ 70000000000010) (fun z => z.1) (v, xs, a, c) (by exact ⟨rfl, hv, by dsimp only; have := numB_len_le 10 v (by omega) (by omega); omega⟩) ⟨vr, vr, trivial⟩ (fun w S => S) ?_
 rintro ⟨u, ys, a, c⟩ ⟨hq, hu, hl⟩
 try dsimp only at *
 have hnp := numB_pos u
 refine c_seq (c_seq (c_region (o_move rfl rfl ?_)))
 refine o_bin rfl rfl rfl b_geq ?_
 refine l_nil (q_then ?_)
 refine c_cond rfl (fun h1 => ?_) (fun h1 => ?_)
 · -- h1T
  try simp only [decide_eq_true_eq, decide_eq_false_iff_not, Bool.not_eq_eq_eq_not, Bool.not_true, Bool.not_false, Bool.not_eq_true', Bool.not_eq_false', Int.not_lt, Int.not_le, Bool.or_eq_true, Bool.and_eq_true] at h1
  refine c_skip (q_then (c_seq (c_block (c_region (o_move rfl rfl (o_move rfl rfl (o_nil rfl rfl ?_)))))))
  refine o_fieldAddr (q := ⟨k, 0, none⟩) rfl rfl Try.underlying76 rfl ti23 rfl ?_
  refine o_load1 rfl rfl Try.underlying23 rfl (rd_mem 0 rfl rfl) ?_
  refine o_move rfl rfl ?_
  refine o_int rfl rfl Try.underlying34 Try.underlying5 (cv8 u) ?_
  refine o_bin rfl rfl rfl (b_or (or128 _)) ?_
  refine o_lit e8_ok rfl Try.underlying23 rfl rfl rfl (lit_ok rfl) [UInt8.ofNat u ||| 128] rfl rfl fun a16 => ?_
  refine l_f2 ?_
  refine o_append e8_ok rfl rfl rfl Try.underlying23 (rds_own e8_ok 1 rfl) (by show (_ + _) * 1 ≤ _; (try simp only [List.length_append, List.length_cons, List.length_nil]); omega) (by (try simp only [List.length_append, List.length_cons, List.length_nil]); omega) fun a17 c17 => ?_
  refine l_f1 ?_
  refine l_drop ?_
  refine o_nil rfl rfl ?_
  refine o_fieldAddr (q := ⟨k, 0, none⟩) rfl rfl Try.underlying76 rfl ti23 rfl ?_
  refine l_f1 ?_
  refine o_store1 rfl rfl rfl ti23 rfl rfl ?_
  refine l_nil (q_block (q_then (c_region (o_move rfl rfl ?_))))
  refine o_bin rfl rfl rfl (b_shr (by omega) (fdiv128 u)) ?_
  refine o_assign rfl rfl (l_nil ?_)
  exact q_round (u / 128, ys ++ [UInt8.ofNat u ||| 128], a17, c17) (by have h9 := numB_ge (n := u) (by omega); exact ⟨by rw [← hq, h9]; simp, by omega, by rw [h9] at hl; simp only [List.length_append, List.length_cons, List.length_nil] at hl ⊢; omega⟩) (by (try dsimp only); omega) ⟨vr, vr, trivial⟩ (fun w S => S)
 · -- h1F
  try simp only [decide_eq_true_eq, decide_eq_false_iff_not, Bool.not_eq_eq_eq_not, Bool.not_true, Bool.not_false, Bool.not_eq_true', Bool.not_eq_false', Int.not_lt, Int.not_le, Bool.or_eq_true, Bool.and_eq_true] at h1
  have hq' : ys ++ [UInt8.ofNat u] = xs ++ numB v := by rw [← hq, numB_lt (by omega)]
  refine c_exit (q_pass_exit (q_pass_exit (q_hit (q_then (c_region (o_move rfl rfl (o_move rfl rfl (o_nil rfl rfl ?_))))))))
  refine o_fieldAddr (q := ⟨k, 0, none⟩) rfl rfl Try.underlying76 rfl ti23 rfl ?_
  refine o_load1 rfl rfl Try.underlying23 rfl (rd_mem 0 rfl rfl) ?_
  refine o_move rfl rfl ?_
  refine o_int rfl rfl Try.underlying34 Try.underlying5 (cv8 u) ?_
  refine o_lit e8_ok rfl Try.underlying23 rfl rfl rfl (lit_ok rfl) [UInt8.ofNat u] rfl rfl fun a27 => ?_
  refine l_f2 ?_
  refine o_append e8_ok rfl rfl rfl Try.underlying23 (rds_own e8_ok 1 rfl) (by show (_ + _) * 1 ≤ _; (try simp only [List.length_append, List.length_cons, List.length_nil]); omega) (by (try simp only [List.length_append, List.length_cons, List.length_nil]); omega) fun a28 c28 => ?_
  refine l_f1 ?_
  refine l_drop ?_
  refine o_nil rfl rfl ?_
  refine o_fieldAddr (q := ⟨k, 0, none⟩) rfl rfl Try.underlying76 rfl ti23 rfl ?_
  refine l_f1 ?_
  refine o_store1 rfl rfl rfl ti23 rfl rfl ?_
  refine l_nil ?_
  exact f_end (r_none rfl) (⟨a28, c28, rfl, by rw [← hq']; rfl⟩) (fun w S => S)
theorem penData {W : World} {F : List Res} {k : Nat} {xs : List UInt8} {a : Option Addr} {c : Nat} (hn : xs.length ≤ 70000000000000) : CS Try.prog 43 #[.pointer (some ⟨k, 0, none⟩)] W (blk k (.cells #[.slice a (xs).length c] 76 (0, 0)) :: row e8.T e8.sz a (xs).length c (flat e8 xs) :: F) (fun r L' => ∃ (a' : Option Addr) (c' : Nat), r = .slice a' xs.length c' ∧ L' = row e8.T e8.sz a' (xs).length c' (flat e8 xs) :: blk k (.cells #[.slice a (xs).length c] 76 (0, 0)) :: row e8.T e8.sz a (xs).length c (flat e8 xs) :: F) := by
 refine f_door (l0 := [(0, .pointer (some ⟨k, 0, none⟩))]) Try.func43 Try.ntmps43 rfl rfl rfl ?_
 refine c_seq (c_region (o_assign rfl rfl (l_nil (q_then (c_seq (c_region (o_move rfl rfl (o_nil rfl rfl ?_))))))))
 refine o_fieldAddr (q := ⟨k, 0, none⟩) rfl rfl Try.underlying76 rfl ti23 rfl ?_
 refine o_load1 rfl rfl Try.underlying23 rfl (rd_mem 0 rfl rfl) ?_
 refine o_call rfl cal61 rfl (clone8p (rds_own e8_ok 1 rfl) hn) ?_
 rintro _ _ ⟨a7, c7, rfl, rfl⟩
 refine o_assign rfl rfl (l_nil (q_then (c_ret ?_)))
 exact f_ret (r_one rfl rfl) (⟨a7, c7, rfl, rfl⟩) (fun w S => S)
theorem penByte {W : World} {F : List Res} {k : Nat} {xs : List UInt8} {a : Option Addr} {c : Nat} {v : UInt8} (hn : xs.length ≤ 70000000000000) : CS Try.prog 42 #[.pointer (some ⟨k, 0, none⟩), .int .u8 (v.toNat : Int)] W (blk k (.cells #[.slice a (xs).length c] 76 (0, 0)) :: row e8.T e8.sz a (xs).length c (flat e8 xs) :: F) (fun r L' => ∃ (a' : Option Addr) (c' : Nat), r = .tuple #[] ∧ L' = blk k (.cells #[.slice a' ((xs ++ [v])).length c'] 76 (0, 0)) :: row e8.T e8.sz a' ((xs ++ [v])).length c' (flat e8 (xs ++ [v])) :: F) := by
 refine f_door (l0 := [(0, .pointer (some ⟨k, 0, none⟩)), (1, .int .u8 (v.toNat : Int))]) Try.func42 Try.ntmps42 rfl rfl rfl ?_
 refine c_region (o_move rfl rfl (o_move rfl rfl (o_nil rfl rfl ?_)))
 refine o_fieldAddr (q := ⟨k, 0, none⟩) rfl rfl Try.underlying76 rfl ti23 rfl ?_
 refine o_load1 rfl rfl Try.underlying23 rfl (rd_mem 0 rfl rfl) ?_
 refine o_move rfl rfl ?_
 refine o_lit e8_ok rfl Try.underlying23 rfl rfl rfl (lit_ok rfl) [v] rfl rfl fun a10 => ?_
 refine l_f2 ?_
 refine o_append e8_ok rfl rfl rfl Try.underlying23 (rds_own e8_ok 1 rfl) (by show (_ + _) * 1 ≤ _; (try simp only [List.length_append, List.length_cons, List.length_nil]); omega) (by (try simp only [List.length_append, List.length_cons, List.length_nil]); omega) fun a11 c11 => ?_
 refine l_f1 ?_
 refine l_drop ?_
 refine o_nil rfl rfl ?_
 refine o_fieldAddr (q := ⟨k, 0, none⟩) rfl rfl Try.underlying76 rfl ti23 rfl ?_
 refine l_f1 ?_
 refine o_store1 rfl rfl rfl ti23 rfl rfl ?_
 refine l_nil ?_
 exact f_end (r_none rfl) (⟨a11, c11, rfl, rfl⟩) (fun w S => S)
theorem penText {W : World} {F : List Res} {k : Nat} {xs : List UInt8} {a : Option Addr} {c : Nat} {ts : List UInt8} {ta : Option Addr} {tc : Nat} (hs : RdS W F e8 ta ts) (ht : ts.length ≤ 70000000000000) (hn : xs.length ≤ 70000000000000) : CS Try.prog 41 #[.pointer (some ⟨k, 0, none⟩), .slice ta ts.length tc] W (blk k (.cells #[.slice a (xs).length c] 76 (0, 0)) :: row e8.T e8.sz a (xs).length c (flat e8 xs) :: F) (fun r L' => ∃ (a' : Option Addr) (c' : Nat), r = .tuple #[] ∧ L' = blk k (.cells #[.slice a' ((xs ++ numB ts.length ++ ts)).length c'] 76 (0, 0)) :: row e8.T e8.sz a' ((xs ++ numB ts.length ++ ts)).length c' (flat e8 (xs ++ numB ts.length ++ ts)) :: F) := by
 refine f_door (l0 := [(0, .pointer (some ⟨k, 0, none⟩)), (1, .slice ta ts.length tc)]) Try.func41 Try.ntmps41 rfl rfl rfl ?_
 refine c_seq (c_region (o_move rfl rfl (o_move rfl rfl ?_)))
 refine o_len rfl rfl Try.underlying23 ?_
 refine o_int rfl rfl Try.underlying3 Try.underlying34 (wrap_u64 (by omega) (by omega)) ?_
 refine l_f1 (l_f1 ?_)
 refine o_call rfl cal39 rfl (penNum (v := ts.length) (by omega) (by omega)) ?_
 rintro _ _ ⟨a8, c8, rfl, rfl⟩
 have hnb := numB_len_le 10 ts.length (by omega) (by omega)
 refine l_nil (q_then (c_region (o_move rfl rfl (o_move rfl rfl (o_nil rfl rfl ?_)))))
 refine o_fieldAddr (q := ⟨k, 0, none⟩) rfl rfl Try.underlying76 rfl ti23 rfl ?_
 refine o_load1 rfl rfl Try.underlying23 rfl (rd_mem 0 rfl rfl) ?_
 refine o_move rfl rfl (l_f1 ?_)
 refine o_append e8_ok rfl rfl rfl Try.underlying23 (rds_c (rds_c hs)) (by show (_ + _) * 1 ≤ _; (try simp only [List.length_append, List.length_cons, List.length_nil]); omega) (by (try simp only [List.length_append, List.length_cons, List.length_nil]); omega) fun a15 c15 => ?_
 refine o_nil rfl rfl ?_
 refine o_fieldAddr (q := ⟨k, 0, none⟩) rfl rfl Try.underlying76 rfl ti23 rfl ?_
 refine l_f1 ?_
 refine o_store1 rfl rfl rfl ti23 rfl rfl ?_
 refine l_nil ?_
 exact f_end (r_none rfl) (⟨a15, c15, rfl, rfl⟩) (fun w S => S)
end
section
set_option linter.unusedVariables false
set_option linter.unusedSimpArgs false
set_option maxRecDepth 10000
open Go.RowKit Classical
theorem ti116 : TI Try.prog 116 (.agg #[.slice none 0 0]) 1 24 := by unfold TI; kernel_rfl
theorem ti92 : TI Try.prog 92 (.agg #[.slice none 0 0, .int .i64 0]) 2 32 := by unfold TI; kernel_rfl
theorem ti86 : TI Try.prog 86 (.agg #[.pointer none, .bool false]) 2 16 := by unfold TI; kernel_rfl
theorem ti83 : TI Try.prog 83 (.pointer none) 1 8 := by unfold TI; kernel_rfl
theorem sp116 : StructP Try.prog 116 #[(0, 1)] := ⟨_, Try.underlying116, fun w => by kernel_rfl⟩
theorem sp92 : StructP Try.prog 92 #[(0, 1), (1, 1)] := ⟨_, Try.underlying92, fun w => by kernel_rfl⟩
theorem sp86 : StructP Try.prog 86 #[(0, 1), (1, 1)] := ⟨_, Try.underlying86, fun w => by kernel_rfl⟩
end
section
set_option linter.unusedVariables false
set_option linter.unusedSimpArgs false
open Go.RowKit
/-- A number is read: its value, the error's number, how many bytes it took; k: how many were read ahead of these. -/
def numR : Nat → Nat → List UInt8 → Nat × Nat × Nat
  | _, _, [] => (0, 30, 0)
  | k, n, b :: t =>
    if k = 9 ∧ 1 < b.toNat then (0, 31, 0)
    else if b.toNat < 128 then (if b.toNat = 0 ∧ 0 < k then (0, 31, 0) else (n + b.toNat % 128 * 128 ^ k, 0, k + 1))
    else numR (k + 1) (n + b.toNat % 128 * 128 ^ k) t
theorem numR_bad {k n : Nat} {b : UInt8} {t : List UInt8} (h : k = 9) (h2 : 1 < b.toNat) : numR k n (b :: t) = (0, 31, 0) := by rw [numR, if_pos ⟨h, h2⟩]
theorem numR_zero {k n : Nat} {b : UInt8} {t : List UInt8} (h1 : b.toNat < 128) (h : b.toNat = 0) (h2 : 0 < k) : numR k n (b :: t) = (0, 31, 0) := by
  rw [numR, if_neg (by omega), if_pos h1, if_pos ⟨h, h2⟩]
theorem numR_end {k n : Nat} {b : UInt8} {t : List UInt8} (h0 : ¬ (k = 9 ∧ 1 < b.toNat)) (h1 : b.toNat < 128) (h : ¬ (b.toNat = 0 ∧ 0 < k)) : numR k n (b :: t) = (n + b.toNat % 128 * 128 ^ k, 0, k + 1) := by
  rw [numR, if_neg h0, if_pos h1, if_neg h]
theorem numR_on {k n : Nat} {b : UInt8} {t : List UInt8} (h0 : ¬ (k = 9 ∧ 1 < b.toNat)) (h1 : ¬ b.toNat < 128) : numR k n (b :: t) = numR (k + 1) (n + b.toNat % 128 * 128 ^ k) t := by
  rw [numR, if_neg h0, if_neg h1]
theorem pow_split (k : Nat) : 128 ^ (k + 1) = 128 ^ k * 128 := Nat.pow_succ ..
theorem numR_next {k n : Nat} {b : UInt8} (hn : n < 128 ^ k) : n + b.toNat % 128 * 128 ^ k < 128 ^ (k + 1) := by
  have h1 : b.toNat % 128 ≤ 127 := by omega
  have h2 := Nat.mul_le_mul_right (128 ^ k) h1
  rw [pow_split]
  omega
/-- What is read took no more than there is. -/
theorem numR_used : ∀ (t : List UInt8) (k n : Nat), (numR k n t).2.2 ≤ k + t.length ∧ ((numR k n t).2.1 ≠ 0 → (numR k n t).2.2 = 0 ∧ (numR k n t).1 = 0) ∧ ((numR k n t).2.1 = 0 → 0 < (numR k n t).2.2) ∧ (numR k n t).2.1 ≤ 31
  | [], k, n => by simp [numR]
  | b :: t, k, n => by
    have ih := numR_used t (k + 1) (n + b.toNat % 128 * 128 ^ k)
    rw [numR]
    split
    · simp
    · split
      · split
        · simp
        · simp
      · simp only [List.length_cons]
        exact ⟨by omega, ih.2⟩
theorem pow_le9 {k : Nat} (h : k ≤ 9) : 128 ^ k ≤ 9223372036854775808 := by
  have := Nat.pow_le_pow_right (n := 128) (by omega) h
  exact Nat.le_trans this (by decide)
/-- What was written is read. -/
theorem numR_numB (s : List UInt8) : ∀ (m k n : Nat), k ≤ 9 → m * 128 ^ k < 18446744073709551616 → (0 < k → 0 < m) → numR k n (numB m ++ s) = (n + m * 128 ^ k, 0, k + (numB m).length) := by
  intro m
  induction m using Nat.strongRecOn with
  | _ m ih =>
    intro k n hk hm h0
    by_cases h : m < 128
    · rw [numB_lt h]
      show numR k n (UInt8.ofNat m :: s) = _
      have h1 := of_low h
      rw [numR_end]
      · rw [h1]; simp [Nat.mod_eq_of_lt h]
      · rw [h1]; rintro ⟨rfl, h2⟩
        have : 128 ^ 9 = 9223372036854775808 := by decide
        rw [this] at hm; omega
      · rw [h1]; exact h
      · rw [h1]; rintro ⟨h2, h3⟩; have := h0 h3; omega
    · rw [numB_ge (by omega)]
      show numR k n ((UInt8.ofNat m ||| 128) :: (numB (m / 128) ++ s)) = _
      have h1 := or_low m
      have hk9 : k < 9 := by
        rcases Nat.lt_or_ge k 9 with h9 | h9
        · exact h9
        · exfalso
          obtain rfl : k = 9 := by omega
          have : 128 ^ 9 = 9223372036854775808 := by decide
          rw [this] at hm; omega
      rw [numR_on (by rw [h1]; omega) (by rw [h1]; omega)]
      have hd : m / 128 * 128 ^ (k + 1) ≤ m * 128 ^ k := by
        rw [pow_split, ← Nat.mul_assoc, Nat.mul_right_comm]
        exact Nat.mul_le_mul_right _ (Nat.div_mul_le_self m 128)
      rw [ih (m / 128) (by omega) (k + 1) _ (by omega) (by omega) (by omega)]
      rw [h1]
      have e1 : (m % 128 + 128) % 128 = m % 128 := by omega
      have e2 : n + m % 128 * 128 ^ k + m / 128 * 128 ^ (k + 1) = n + m * 128 ^ k := by
        rw [pow_split, ← Nat.mul_assoc, Nat.mul_right_comm, Nat.add_assoc, ← Nat.add_mul, Nat.add_comm (m % 128), Nat.mul_comm (m / 128), Nat.div_add_mod]
      rw [e1, e2]
      simp
      omega
/-- A text is read: its bytes, the error's number, how many bytes it took. -/
def textR (t : List UInt8) : List UInt8 × Nat × Nat :=
  let r := numR 0 0 t
  if r.2.1 ≠ 0 then ([], r.2.1, 0) else if t.length - r.2.2 < r.1 then ([], 30, 0) else (sub t r.2.2 (r.2.2 + r.1), 0, r.2.2 + r.1)
theorem sub_drop {α : Type} (ys : List α) (u v : Nat) : sub (ys.drop u) 0 v = sub ys u (u + v) := by
  simp only [sub, List.drop_zero]
  rw [List.take_drop]
theorem textR_err {t : List UInt8} (h : (numR 0 0 t).2.1 ≠ 0) : textR t = ([], (numR 0 0 t).2.1, 0) := by simp [textR, h]
theorem textR_short {t : List UInt8} (h : (numR 0 0 t).2.1 = 0) (h2 : t.length - (numR 0 0 t).2.2 < (numR 0 0 t).1) : textR t = ([], 30, 0) := by simp [textR, h, h2]
theorem textR_ok {t : List UInt8} (h : (numR 0 0 t).2.1 = 0) (h2 : ¬ t.length - (numR 0 0 t).2.2 < (numR 0 0 t).1) : textR t = (sub t (numR 0 0 t).2.2 ((numR 0 0 t).2.2 + (numR 0 0 t).1), 0, (numR 0 0 t).2.2 + (numR 0 0 t).1) := by simp [textR, h, h2]
theorem textR_len (t : List UInt8) : (textR t).1.length ≤ t.length := by
  unfold textR
  dsimp only
  split
  · simp
  · split
    · simp
    · simp [sub]; omega
def endR (t : List UInt8) : Nat := if 0 < t.length then 32 else 0
def byteR : List UInt8 → UInt8 × Nat × Nat
  | [] => (0, 30, 0)
  | b :: t => (b, 0, 1)
theorem byteR_get {t : List UInt8} {b : UInt8} (h : t[0]? = some b) : byteR t = (b, 0, 1) := by
  cases t with
  | nil => cases h
  | cons c t => simp at h; subst h; rfl
theorem byteR_nil {t : List UInt8} (h : t.length = 0) : byteR t = (0, 30, 0) := by
  rw [List.eq_nil_of_length_eq_zero h]; rfl
theorem sub_take {α : Type} (xs : List α) (j : Nat) : sub xs 0 j = xs.take j := by simp [sub]
theorem bvnat (n : Nat) : BitVec.ofInt 64 (n : Int) = BitVec.ofNat 64 n := by
  apply BitVec.eq_of_toNat_eq
  simp
theorem or64 {n x p : Nat} (hn : n < 2 ^ p) (hx : x * 2 ^ p < 18446744073709551616) (hn2 : n < 18446744073709551616) : ibits .or .u64 (n : Int) ((x * 2 ^ p : Nat) : Int) = ((n + x * 2 ^ p : Nat) : Int) := by
  show IntKind.u64.wrap ((BitVec.ofInt 64 (n : Int) ||| BitVec.ofInt 64 ((x * 2 ^ p : Nat) : Int)).toNat : Int) = _
  rw [bvnat, bvnat, BitVec.toNat_or, BitVec.toNat_ofNat, BitVec.toNat_ofNat, Nat.mod_eq_of_lt (by omega), Nat.mod_eq_of_lt (by omega)]
  have h := Nat.two_pow_add_eq_or_of_lt hn x
  have e : n ||| x * 2 ^ p = n + x * 2 ^ p := by
    rw [Nat.or_comm, Nat.mul_comm x, ← h]; omega
  have h64 : n + x * 2 ^ p < 2 ^ 64 := by
    rw [← e]; exact Nat.or_lt_two_pow (by omega) (by omega)
  rw [e, wrap_u64 (by omega) (by omega)]
theorem pow7 (k : Nat) : 128 ^ k = 2 ^ (7 * k) := by rw [show (128 : Nat) = 2 ^ 7 by rfl, ← Nat.pow_mul]
theorem shl7 {k x : Nat} (hk : k ≤ 9) (hx : x * 128 ^ k < 18446744073709551616) : IntKind.u64.wrap ((x : Int) * 2 ^ (min ((7 * (k : Int)).toNat) IntKind.u64.bits)) = ((x * 2 ^ (7 * k) : Nat) : Int) := by
  have h1 : min ((7 * (k : Int)).toNat) IntKind.u64.bits = 7 * k := by simp [IntKind.bits]; omega
  rw [h1]
  have h2 : (x : Int) * 2 ^ (7 * k) = ((x * 2 ^ (7 * k) : Nat) : Int) := by simp
  rw [h2, wrap_u64 (by omega) (by rw [← pow7]; omega)]
theorem x_bound {k : Nat} {b : UInt8} (hk : k ≤ 9) (h : ¬ (k = 9 ∧ 1 < b.toNat)) : b.toNat % 128 * 128 ^ k < 18446744073709551616 := by
  by_cases h9 : k = 9
  · subst h9
    have : 128 ^ 9 = 9223372036854775808 := by decide
    rw [this]; omega
  · have h1 : b.toNat % 128 ≤ 127 := by omega
    have h2 := Nat.mul_le_mul_right (128 ^ k) h1
    have h3 := Nat.pow_le_pow_right (n := 128) (by omega) (show k ≤ 8 by omega)
    have : 128 ^ 8 = 72057594037927936 := by decide
    omega
theorem tmod128b (b : UInt8) : ((b.toNat : Nat) : Int).tmod 128 = ((b.toNat % 128 : Nat) : Int) := tmod128 b.toNat
theorem or7 {k n : Nat} {b : UInt8} (hk : k ≤ 9) (hn : n < 128 ^ k) (h : ¬ (k = 9 ∧ 1 < b.toNat)) : ibits .or .u64 (n : Int) ((b.toNat % 128 * 2 ^ (7 * k) : Nat) : Int) = ((n + b.toNat % 128 * 128 ^ k : Nat) : Int) := by
  have hx := x_bound hk h
  have := pow_le9 hk
  rw [pow7] at hn hx ⊢
  rw [or64 hn hx (by rw [pow7] at this; omega)]
theorem mul7 {k : Nat} {b : UInt8} (hk : k ≤ 9) (h : ¬ (k = 9 ∧ 1 < b.toNat)) : IntKind.u64.wrap (((b.toNat % 128 : Nat) : Int) * ((128 ^ k : Nat) : Int)) = ((b.toNat % 128 * 128 ^ k : Nat) : Int) := by
  have := x_bound hk h
  rw [← Int.natCast_mul]
  exact wrap_u64 (by omega) (by omega)
theorem add7 {k n : Nat} {b : UInt8} (hk : k ≤ 9) (hn : n < 128 ^ k) (h : ¬ (k = 9 ∧ 1 < b.toNat)) : IntKind.u64.wrap ((n : Int) + ((b.toNat % 128 * 128 ^ k : Nat) : Int)) = ((n + b.toNat % 128 * 128 ^ k : Nat) : Int) := by
  have h1 := x_bound hk h
  have h2 := numR_next (b := b) hn
  have h3 : n + b.toNat % 128 * 128 ^ k < 18446744073709551616 := by
    by_cases h9 : k = 9
    · subst h9
      have : 128 ^ 9 = 9223372036854775808 := by decide
      rw [this] at hn ⊢
      have : b.toNat % 128 ≤ 1 := by omega
      omega
    · have := pow_le9 (show k + 1 ≤ 9 by omega); omega
  rw [wrap_u64 (by omega) (by omega)]
  omega
theorem weight7 {k : Nat} (hk : k < 9) : IntKind.u64.wrap (((128 ^ k : Nat) : Int) * 128) = ((128 ^ (k + 1) : Nat) : Int) := by
  have := pow_le9 (show k + 1 ≤ 9 by omega)
  have e : ((128 ^ k : Nat) : Int) * 128 = ((128 ^ (k + 1) : Nat) : Int) := by rw [pow_split, Int.natCast_mul]; rfl
  rw [e]
  generalize 128 ^ (k + 1) = p at this
  exact wrap_u64 (by omega) (by omega)
theorem cu64 (b : UInt8) : IntKind.u64.wrap (b.toNat : Int) = (b.toNat : Int) := by have := b.toNat_lt; exact wrap_u64 (by omega) (by omega)
theorem drop_get {α : Type} {xs : List α} {j : Nat} {x : α} (h : xs[j]? = some x) : xs.drop j = x :: xs.drop (j + 1) := by
  obtain ⟨hl, rfl⟩ := List.getElem?_eq_some_iff.1 h
  exact List.drop_eq_getElem_cons hl
end
section
set_option linter.unusedVariables false
set_option linter.unusedSimpArgs false
set_option maxRecDepth 10000
open Go.RowKit
/-- An eye's bytes 'ys': those of 'bs' from number i on. -/
structure EyeOk (W : World) (a : Option Addr) (bs : List UInt8) (i : Nat) (ys : List UInt8) (ay : Option Addr) (cy : Nat) : Prop where
  cut : ∀ {L : List Res}, RdS W L e8 a bs → RdS W L e8 ay ys
  is : ys = bs.drop i
  len : ys.length = bs.length - i
  le : i ≤ bs.length
  cap : ys.length ≤ cy
  small : bs.length ≤ 70000000000000
theorem eyeOk_start {W : World} {a : Option Addr} {bs : List UInt8} {c : Nat} (h : bs.length ≤ c) (hs : bs.length ≤ 70000000000000) : EyeOk W a bs 0 bs a c := ⟨fun h => h, rfl, rfl, Nat.zero_le _, h, hs⟩
theorem sub_all {α : Type} (ys : List α) (u : Nat) : sub ys u ys.length = ys.drop u := by simp [sub]
theorem EyeOk.on {W : World} {a ay : Option Addr} {bs ys : List UInt8} {i cy u : Nat} (h : EyeOk W a bs i ys ay cy) (hu : u ≤ ys.length) : EyeOk W a bs (i + u) (sub ys u ys.length) (cutA ay cy u 1) (cy - u) := by
  have h1 := h.len
  have h2 := h.le
  refine ⟨fun hr => rds_cut e8_ok (h.cut hr) u ys.length cy h.cap, ?_, ?_, by omega, ?_, h.small⟩
  · rw [sub_all, h.is, List.drop_drop]
  · rw [sub_len (Nat.le_refl _)]; omega
  · rw [sub_len (Nat.le_refl _)]; have := h.cap; omega
theorem newEye {W : World} {F : List Res} {xs : List UInt8} {a : Option Addr} {c : Nat} (hs : RdS W F e8 a xs) (hn : xs.length ≤ 70000000000000) : CS Try.prog 46 #[.slice a xs.length c] W (F) (fun r L' => ∃ (k : Nat) (a' : Option Addr) (c' : Nat), xs.length ≤ c' ∧ r = .pointer (some ⟨k, 0, none⟩) ∧ L' = blk k (.cells #[.slice a' xs.length c'] 116 (0, 0)) :: row e8.T e8.sz a' (xs).length c' (flat e8 xs) :: F) := by
 refine f_door (l0 := [(0, .slice a xs.length c)]) Try.func46 Try.ntmps46 rfl rfl rfl ?_
 refine c_seq (c_region (o_assign rfl rfl (l_nil (q_then (c_seq (c_region (o_move rfl rfl ?_)))))))
 refine o_call rfl cal61 rfl (clone8p hs hn) ?_
 rintro _ _ ⟨a4, c4, rfl, rfl⟩
 refine l_fact (row_cap 0 rfl) ?_
 intro hcl4
 refine o_build rfl sp116 ti116 rfl rfl ?_
 refine o_box rfl rfl fun b6 => ?_
 refine o_assign rfl rfl (l_nil (q_then (c_ret ?_)))
 exact f_ret (r_one rfl rfl) (⟨b6, a4, c4, hcl4, rfl, rfl⟩) (fun w S => S)
theorem eyeNum {W : World} {F : List Res} {k i : Nat} {bs ys : List UInt8} {a ay : Option Addr} {c cy : Nat} (ok : EyeOk W a bs i ys ay cy) : CS Try.prog 62 #[.pointer (some ⟨k, 0, none⟩)] W (blk k (.cells #[.slice ay (ys).length cy] 116 (0, 0)) :: row e8.T e8.sz a (bs).length c (flat e8 bs) :: F) (fun r L' => ∃ (ys' : List UInt8) (ay' : Option Addr) (cy' : Nat), EyeOk W a bs (i + (numR 0 0 ys).2.2) ys' ay' cy' ∧ r = .tuple #[.int .u64 ((numR 0 0 ys).1 : Int), .int .i64 ((numR 0 0 ys).2.1 : Int)] ∧ L' = blk k (.cells #[.slice ay' (ys').length cy'] 116 (0, 0)) :: row e8.T e8.sz a (bs).length c (flat e8 bs) :: F) := by
 have hcap := ok.cap
 have hlen := ok.len
 have hsm := ok.small
 refine f_door (l0 := [(0, .pointer (some ⟨k, 0, none⟩))]) Try.func62 Try.ntmps62 rfl rfl rfl ?_
 refine c_seq (c_region (o_assign rfl rfl (o_assign rfl rfl (l_nil (q_then (c_seq (c_seq (c_region (o_move rfl rfl ?_)))))))))
 refine o_nil rfl rfl ?_
 refine o_fieldAddr (q := ⟨k, 0, none⟩) rfl rfl Try.underlying116 rfl ti23 rfl ?_
 refine o_load1 rfl rfl Try.underlying23 rfl (rd_mem 0 rfl rfl) ?_
 refine o_len rfl rfl Try.underlying23 ?_
 refine o_move rfl rfl (l_nil (q_then (c_block ?_)))
 refine c_loop (α := Nat × Nat) (fun z => [(0, .pointer (some ⟨k, 0, none⟩)), (2, .int .u64 (z.2 : Int)), (9, .slice ay ys.length cy), (10, .int .i64 (ys.length : Int)), (11, .int .i64 (z.1 : Int))]) (fun z => blk k (.cells #[.slice ay (ys).length cy] 116 (0, 0)) :: row e8.T e8.sz a (bs).length c (flat e8 bs) :: F) (fun z => numR 0 0 ys = numR z.1 z.2 (ys.drop z.1) ∧ z.1 ≤ 9 ∧ z.2 < 128 ^ z.1 ∧ z.1 ≤ ys.length) (fun z => ys.length - z.1) (0, 0) (by exact ⟨rfl, by omega, by decide, by omega⟩) ⟨vr, vr, vr, vr, vr, trivial⟩ (fun w S => S) ?_
 rintro ⟨j, n⟩ ⟨hq, hj9, hn, hjl⟩
 try dsimp only at *
 refine c_seq (c_region ?_)
 refine o_bin rfl rfl rfl b_lss ?_
 refine l_nil (q_then (c_seq ?_))
 refine c_cond rfl (fun h1 => ?_) (fun h1 => ?_)
 · -- h1T
  try simp only [decide_eq_true_eq, decide_eq_false_iff_not, Bool.not_eq_eq_eq_not, Bool.not_true, Bool.not_false, Bool.not_eq_true', Bool.not_eq_false', Int.not_lt, Int.not_le, Bool.or_eq_true, Bool.and_eq_true] at h1
  refine c_skip (q_then (c_seq (c_block (c_seq (c_region (o_move rfl rfl ?_))))))
  refine o_index e8_ok rfl rfl rfl Try.underlying23 (by omega) (by omega) (ok.cut (rds_own e8_ok 1 rfl)) fun ad14 ead14 => ?_
  obtain ⟨x14, hx14⟩ : ∃ x, (ys)[((j : Int)).toNat]? = some x := ⟨_, List.getElem?_eq_getElem (by omega)⟩
  have hx14' : ys[j]? = some x14 := hx14
  rw [drop_get hx14'] at hq
  have hxl := x14.toNat_lt
  refine o_load1 rfl rfl Try.underlying5 rfl (rd_sl0 e8_ok ead14 (ok.cut (rds_own e8_ok 1 rfl)) hx14 rfl) ?_
  refine o_assign rfl rfl (o_assign rfl rfl (l_nil (q_then (c_seq (c_seq (c_region (o_move rfl rfl ?_)))))))
  refine o_bin rfl rfl rfl b_eql ?_
  refine o_move rfl rfl ?_
  refine l_split (t := 18) rfl (fun h2 => ?_) (fun h2 => ?_)
  · -- h2T
   try simp only [decide_eq_true_eq, decide_eq_false_iff_not, Bool.not_eq_eq_eq_not, Bool.not_true, Bool.not_false, Bool.not_eq_true', Bool.not_eq_false', Int.not_lt, Int.not_le, Bool.or_eq_true, Bool.and_eq_true] at h2
   refine o_yes rfl rfl rfl (o_move rfl rfl (o_yes rfl rfl rfl ?_))
   refine o_bin rfl rfl rfl b_gtr ?_
   refine o_pick_true rfl rfl rfl (l_nil (q_then ?_))
   refine c_cond rfl (fun h3 => ?_) (fun h3 => ?_)
   · -- h3T
    try simp only [decide_eq_true_eq, decide_eq_false_iff_not, Bool.not_eq_eq_eq_not, Bool.not_true, Bool.not_false, Bool.not_eq_true', Bool.not_eq_false', Int.not_lt, Int.not_le, Bool.or_eq_true, Bool.and_eq_true] at h3
    refine c_seq ?_
    have hres : numR 0 0 ys = (0, 31, 0) := by rw [hq]; exact numR_bad (by omega) (by omega)
    refine c_region (o_assign rfl rfl (o_assign rfl rfl (l_nil (q_then (c_ret (q_pass_ret ?_))))))
    refine q_block_ret ?_
    refine q_pass_ret (q_pass_ret ?_)
    refine q_block_ret ?_
    refine q_pass_ret ?_
    exact f_ret (r_two rfl rfl rfl) (⟨ys, ay, cy, by rw [hres]; exact ok, by rw [hres]; rfl, rfl⟩) (fun w S => S)
   · -- h3F
    try simp only [decide_eq_true_eq, decide_eq_false_iff_not, Bool.not_eq_eq_eq_not, Bool.not_true, Bool.not_false, Bool.not_eq_true', Bool.not_eq_false', Int.not_lt, Int.not_le, Bool.or_eq_true, Bool.and_eq_true] at h3
    refine c_skip (q_then (c_seq (c_region ?_)))
    have hnb : ¬ (j = 9 ∧ 1 < x14.toNat) := by omega
    refine o_move rfl rfl (o_move rfl rfl ?_)
    refine o_bin rfl rfl rfl (b_rem (by omega) (tmod128b x14)) ?_
    refine o_int rfl rfl Try.underlying5 Try.underlying34 (wrap_u64 (by omega) (by omega)) ?_
    refine o_move rfl rfl ?_
    refine o_bin rfl rfl rfl (b_mul (wrap_i64 (by omega) (by omega))) ?_
    refine o_bin rfl rfl rfl (b_shl (by omega) (shl7 hj9 (x_bound hj9 hnb))) ?_
    refine o_bin rfl rfl rfl (b_or (or7 hj9 hn hnb)) ?_
    refine o_assign rfl rfl (l_nil (q_then (c_seq (c_region (o_move rfl rfl ?_)))))
    refine o_bin rfl rfl rfl b_lss ?_
    refine l_nil (q_then ?_)
    refine c_cond rfl (fun h4 => ?_) (fun h4 => ?_)
    · -- h4T
     try simp only [decide_eq_true_eq, decide_eq_false_iff_not, Bool.not_eq_eq_eq_not, Bool.not_true, Bool.not_false, Bool.not_eq_true', Bool.not_eq_false', Int.not_lt, Int.not_le, Bool.or_eq_true, Bool.and_eq_true] at h4
     refine c_seq (c_seq (c_region (o_move rfl rfl ?_)))
     refine o_bin rfl rfl rfl b_eql ?_
     refine o_move rfl rfl ?_
     refine l_split (t := 34) rfl (fun h5 => ?_) (fun h5 => ?_)
     · -- h5T
      try simp only [decide_eq_true_eq, decide_eq_false_iff_not, Bool.not_eq_eq_eq_not, Bool.not_true, Bool.not_false, Bool.not_eq_true', Bool.not_eq_false', Int.not_lt, Int.not_le, Bool.or_eq_true, Bool.and_eq_true] at h5
      refine o_yes rfl rfl rfl (o_move rfl rfl (o_yes rfl rfl rfl ?_))
      refine o_bin rfl rfl rfl b_gtr ?_
      refine o_pick_true rfl rfl rfl (l_nil (q_then ?_))
      refine c_cond rfl (fun h6 => ?_) (fun h6 => ?_)
      · -- h6T
       try simp only [decide_eq_true_eq, decide_eq_false_iff_not, Bool.not_eq_eq_eq_not, Bool.not_true, Bool.not_false, Bool.not_eq_true', Bool.not_eq_false', Int.not_lt, Int.not_le, Bool.or_eq_true, Bool.and_eq_true] at h6
       refine c_seq ?_
       have hres : numR 0 0 ys = (0, 31, 0) := by rw [hq]; exact numR_zero (by omega) (by omega) (by omega)
       refine c_region (o_assign rfl rfl (o_assign rfl rfl (l_nil (q_then (c_ret (q_pass_ret ?_))))))
       refine q_block_ret ?_
       refine q_pass_ret (q_pass_ret ?_)
       refine q_block_ret ?_
       refine q_pass_ret ?_
       exact f_ret (r_two rfl rfl rfl) (⟨ys, ay, cy, by rw [hres]; exact ok, by rw [hres]; rfl, rfl⟩) (fun w S => S)
      · -- h6F
       try simp only [decide_eq_true_eq, decide_eq_false_iff_not, Bool.not_eq_eq_eq_not, Bool.not_true, Bool.not_false, Bool.not_eq_true', Bool.not_eq_false', Int.not_lt, Int.not_le, Bool.or_eq_true, Bool.and_eq_true] at h6
       refine c_skip (q_then (c_seq ?_))
       have hres : numR 0 0 ys = (n + x14.toNat % 128 * 128 ^ j, 0, j + 1) := by rw [hq]; exact numR_end hnb (by omega) (by omega)
       refine c_region (o_move rfl rfl (o_move rfl rfl (o_nil rfl rfl ?_)))
       refine o_fieldAddr (q := ⟨k, 0, none⟩) rfl rfl Try.underlying116 rfl ti23 rfl ?_
       refine o_load1 rfl rfl Try.underlying23 rfl (rd_mem 0 rfl rfl) ?_
       refine o_move rfl rfl ?_
       refine o_bin rfl rfl rfl (b_add (wrap_i64 (by omega) (by omega))) ?_
       refine o_cut (l' := (j + 1)) (h' := ((ys).length)) (m := cy) rfl rfl Try.underlying23 ti5 (.inl ⟨rfl, rfl⟩) (.inl ⟨rfl, rfl, rfl⟩) (.inr ⟨_, _, rfl, icast rfl (by omega), (by omega)⟩) ?_
       obtain ⟨ys45, ay45, cut45, hys45, hlys45, eay45⟩ : ∃ ys_ ay_, (∀ {L : List Res}, RdS W L e8 ay ys → RdS W L e8 ay_ ys_) ∧ ys_ = sub ys (j + 1) ((ys).length) ∧ ys_.length = ((ys).length) - (j + 1) ∧ cutA ay cy (j + 1) 1 = ay_ := ⟨_, _, fun h => rds_cut e8_ok h _ _ _ (by omega), rfl, sub_len (by omega), rfl⟩
       refine l_eq (t := 45) (v' := .slice ay45 ys45.length (cy - (j + 1))) rfl (by rw [eay45, hlys45]) ?_
       have hok' : EyeOk W a bs (i + (numR 0 0 ys).2.2) ys45 ay45 (cy - (j + 1)) := by rw [hres, hys45, ← eay45]; exact ok.on (u := j + 1) (by omega)
       refine o_nil rfl rfl ?_
       refine o_fieldAddr (q := ⟨k, 0, none⟩) rfl rfl Try.underlying116 rfl ti23 rfl ?_
       refine o_store1 rfl rfl rfl ti23 rfl rfl ?_
       refine l_nil (q_then (c_seq (c_region (o_move rfl rfl (o_assign rfl rfl (o_assign rfl rfl (l_nil (q_then (c_ret ?_)))))))))
       refine q_block_ret ?_
       refine q_pass_ret (q_pass_ret ?_)
       refine q_block_ret ?_
       refine q_pass_ret ?_
       exact f_ret (r_two rfl rfl rfl) (⟨_, _, _, hok', by rw [hres]; rfl, rfl⟩) (fun w S => S)
     · -- h5F
      try simp only [decide_eq_true_eq, decide_eq_false_iff_not, Bool.not_eq_eq_eq_not, Bool.not_true, Bool.not_false, Bool.not_eq_true', Bool.not_eq_false', Int.not_lt, Int.not_le, Bool.or_eq_true, Bool.and_eq_true] at h5
      refine o_no rfl rfl rfl rfl (o_no rfl rfl rfl rfl (o_pick_false rfl rfl rfl (l_nil (q_then (c_false rfl (c_skip (q_then (c_seq ?_))))))))
      have hres : numR 0 0 ys = (n + x14.toNat % 128 * 128 ^ j, 0, j + 1) := by rw [hq]; exact numR_end hnb (by omega) (by omega)
      refine c_region (o_move rfl rfl (o_move rfl rfl (o_nil rfl rfl ?_)))
      refine o_fieldAddr (q := ⟨k, 0, none⟩) rfl rfl Try.underlying116 rfl ti23 rfl ?_
      refine o_load1 rfl rfl Try.underlying23 rfl (rd_mem 0 rfl rfl) ?_
      refine o_move rfl rfl ?_
      refine o_bin rfl rfl rfl (b_add (wrap_i64 (by omega) (by omega))) ?_
      refine o_cut (l' := (j + 1)) (h' := ((ys).length)) (m := cy) rfl rfl Try.underlying23 ti5 (.inl ⟨rfl, rfl⟩) (.inl ⟨rfl, rfl, rfl⟩) (.inr ⟨_, _, rfl, icast rfl (by omega), (by omega)⟩) ?_
      obtain ⟨ys45, ay45, cut45, hys45, hlys45, eay45⟩ : ∃ ys_ ay_, (∀ {L : List Res}, RdS W L e8 ay ys → RdS W L e8 ay_ ys_) ∧ ys_ = sub ys (j + 1) ((ys).length) ∧ ys_.length = ((ys).length) - (j + 1) ∧ cutA ay cy (j + 1) 1 = ay_ := ⟨_, _, fun h => rds_cut e8_ok h _ _ _ (by omega), rfl, sub_len (by omega), rfl⟩
      refine l_eq (t := 45) (v' := .slice ay45 ys45.length (cy - (j + 1))) rfl (by rw [eay45, hlys45]) ?_
      have hok' : EyeOk W a bs (i + (numR 0 0 ys).2.2) ys45 ay45 (cy - (j + 1)) := by rw [hres, hys45, ← eay45]; exact ok.on (u := j + 1) (by omega)
      refine o_nil rfl rfl ?_
      refine o_fieldAddr (q := ⟨k, 0, none⟩) rfl rfl Try.underlying116 rfl ti23 rfl ?_
      refine o_store1 rfl rfl rfl ti23 rfl rfl ?_
      refine l_nil (q_then (c_seq (c_region (o_move rfl rfl (o_assign rfl rfl (o_assign rfl rfl (l_nil (q_then (c_ret ?_)))))))))
      refine q_block_ret ?_
      refine q_pass_ret (q_pass_ret ?_)
      refine q_block_ret ?_
      refine q_pass_ret ?_
      exact f_ret (r_two rfl rfl rfl) (⟨_, _, _, hok', by rw [hres]; rfl, rfl⟩) (fun w S => S)
    · -- h4F
     try simp only [decide_eq_true_eq, decide_eq_false_iff_not, Bool.not_eq_eq_eq_not, Bool.not_true, Bool.not_false, Bool.not_eq_true', Bool.not_eq_false', Int.not_lt, Int.not_le, Bool.or_eq_true, Bool.and_eq_true] at h4
     refine c_skip (q_block (q_then (c_region ?_)))
     refine o_bin rfl rfl rfl (b_add (wrap_i64 (by omega) (by omega))) ?_
     refine o_move rfl rfl (l_nil ?_)
     exact q_round (j + 1, n + x14.toNat % 128 * 128 ^ j) (by exact ⟨by rw [hq, numR_on hnb (by omega)], by omega, numR_next hn, by omega⟩) (by (try dsimp only); omega) ⟨vr, vr, vr, vr, vr, trivial⟩ (fun w S => S)
  · -- h2F
   try simp only [decide_eq_true_eq, decide_eq_false_iff_not, Bool.not_eq_eq_eq_not, Bool.not_true, Bool.not_false, Bool.not_eq_true', Bool.not_eq_false', Int.not_lt, Int.not_le, Bool.or_eq_true, Bool.and_eq_true] at h2
   refine o_no rfl rfl rfl rfl (o_no rfl rfl rfl rfl (o_pick_false rfl rfl rfl (l_nil (q_then (c_false rfl (c_skip (q_then (c_seq (c_region ?_)))))))))
   have hnb : ¬ (j = 9 ∧ 1 < x14.toNat) := by omega
   refine o_move rfl rfl (o_move rfl rfl ?_)
   refine o_bin rfl rfl rfl (b_rem (by omega) (tmod128b x14)) ?_
   refine o_int rfl rfl Try.underlying5 Try.underlying34 (wrap_u64 (by omega) (by omega)) ?_
   refine o_move rfl rfl ?_
   refine o_bin rfl rfl rfl (b_mul (wrap_i64 (by omega) (by omega))) ?_
   refine o_bin rfl rfl rfl (b_shl (by omega) (shl7 hj9 (x_bound hj9 hnb))) ?_
   refine o_bin rfl rfl rfl (b_or (or7 hj9 hn hnb)) ?_
   refine o_assign rfl rfl (l_nil (q_then (c_seq (c_region (o_move rfl rfl ?_)))))
   refine o_bin rfl rfl rfl b_lss ?_
   refine l_nil (q_then ?_)
   refine c_cond rfl (fun h7 => ?_) (fun h7 => ?_)
   · -- h7T
    try simp only [decide_eq_true_eq, decide_eq_false_iff_not, Bool.not_eq_eq_eq_not, Bool.not_true, Bool.not_false, Bool.not_eq_true', Bool.not_eq_false', Int.not_lt, Int.not_le, Bool.or_eq_true, Bool.and_eq_true] at h7
    refine c_seq (c_seq (c_region (o_move rfl rfl ?_)))
    refine o_bin rfl rfl rfl b_eql ?_
    refine o_move rfl rfl ?_
    refine l_split (t := 34) rfl (fun h8 => ?_) (fun h8 => ?_)
    · -- h8T
     try simp only [decide_eq_true_eq, decide_eq_false_iff_not, Bool.not_eq_eq_eq_not, Bool.not_true, Bool.not_false, Bool.not_eq_true', Bool.not_eq_false', Int.not_lt, Int.not_le, Bool.or_eq_true, Bool.and_eq_true] at h8
     refine o_yes rfl rfl rfl (o_move rfl rfl (o_yes rfl rfl rfl ?_))
     refine o_bin rfl rfl rfl b_gtr ?_
     refine o_pick_true rfl rfl rfl (l_nil (q_then ?_))
     refine c_cond rfl (fun h9 => ?_) (fun h9 => ?_)
     · -- h9T
      try simp only [decide_eq_true_eq, decide_eq_false_iff_not, Bool.not_eq_eq_eq_not, Bool.not_true, Bool.not_false, Bool.not_eq_true', Bool.not_eq_false', Int.not_lt, Int.not_le, Bool.or_eq_true, Bool.and_eq_true] at h9
      refine c_seq ?_
      have hres : numR 0 0 ys = (0, 31, 0) := by rw [hq]; exact numR_zero (by omega) (by omega) (by omega)
      refine c_region (o_assign rfl rfl (o_assign rfl rfl (l_nil (q_then (c_ret (q_pass_ret ?_))))))
      refine q_block_ret ?_
      refine q_pass_ret (q_pass_ret ?_)
      refine q_block_ret ?_
      refine q_pass_ret ?_
      exact f_ret (r_two rfl rfl rfl) (⟨ys, ay, cy, by rw [hres]; exact ok, by rw [hres]; rfl, rfl⟩) (fun w S => S)
     · -- h9F
      try simp only [decide_eq_true_eq, decide_eq_false_iff_not, Bool.not_eq_eq_eq_not, Bool.not_true, Bool.not_false, Bool.not_eq_true', Bool.not_eq_false', Int.not_lt, Int.not_le, Bool.or_eq_true, Bool.and_eq_true] at h9
      refine c_skip (q_then (c_seq ?_))
      have hres : numR 0 0 ys = (n + x14.toNat % 128 * 128 ^ j, 0, j + 1) := by rw [hq]; exact numR_end hnb (by omega) (by omega)
      refine c_region (o_move rfl rfl (o_move rfl rfl (o_nil rfl rfl ?_)))
      refine o_fieldAddr (q := ⟨k, 0, none⟩) rfl rfl Try.underlying116 rfl ti23 rfl ?_
      refine o_load1 rfl rfl Try.underlying23 rfl (rd_mem 0 rfl rfl) ?_
      refine o_move rfl rfl ?_
      refine o_bin rfl rfl rfl (b_add (wrap_i64 (by omega) (by omega))) ?_
      refine o_cut (l' := (j + 1)) (h' := ((ys).length)) (m := cy) rfl rfl Try.underlying23 ti5 (.inl ⟨rfl, rfl⟩) (.inl ⟨rfl, rfl, rfl⟩) (.inr ⟨_, _, rfl, icast rfl (by omega), (by omega)⟩) ?_
      obtain ⟨ys45, ay45, cut45, hys45, hlys45, eay45⟩ : ∃ ys_ ay_, (∀ {L : List Res}, RdS W L e8 ay ys → RdS W L e8 ay_ ys_) ∧ ys_ = sub ys (j + 1) ((ys).length) ∧ ys_.length = ((ys).length) - (j + 1) ∧ cutA ay cy (j + 1) 1 = ay_ := ⟨_, _, fun h => rds_cut e8_ok h _ _ _ (by omega), rfl, sub_len (by omega), rfl⟩
      refine l_eq (t := 45) (v' := .slice ay45 ys45.length (cy - (j + 1))) rfl (by rw [eay45, hlys45]) ?_
      have hok' : EyeOk W a bs (i + (numR 0 0 ys).2.2) ys45 ay45 (cy - (j + 1)) := by rw [hres, hys45, ← eay45]; exact ok.on (u := j + 1) (by omega)
      refine o_nil rfl rfl ?_
      refine o_fieldAddr (q := ⟨k, 0, none⟩) rfl rfl Try.underlying116 rfl ti23 rfl ?_
      refine o_store1 rfl rfl rfl ti23 rfl rfl ?_
      refine l_nil (q_then (c_seq (c_region (o_move rfl rfl (o_assign rfl rfl (o_assign rfl rfl (l_nil (q_then (c_ret ?_)))))))))
      refine q_block_ret ?_
      refine q_pass_ret (q_pass_ret ?_)
      refine q_block_ret ?_
      refine q_pass_ret ?_
      exact f_ret (r_two rfl rfl rfl) (⟨_, _, _, hok', by rw [hres]; rfl, rfl⟩) (fun w S => S)
    · -- h8F
     try simp only [decide_eq_true_eq, decide_eq_false_iff_not, Bool.not_eq_eq_eq_not, Bool.not_true, Bool.not_false, Bool.not_eq_true', Bool.not_eq_false', Int.not_lt, Int.not_le, Bool.or_eq_true, Bool.and_eq_true] at h8
     refine o_no rfl rfl rfl rfl (o_no rfl rfl rfl rfl (o_pick_false rfl rfl rfl (l_nil (q_then (c_false rfl (c_skip (q_then (c_seq ?_))))))))
     have hres : numR 0 0 ys = (n + x14.toNat % 128 * 128 ^ j, 0, j + 1) := by rw [hq]; exact numR_end hnb (by omega) (by omega)
     refine c_region (o_move rfl rfl (o_move rfl rfl (o_nil rfl rfl ?_)))
     refine o_fieldAddr (q := ⟨k, 0, none⟩) rfl rfl Try.underlying116 rfl ti23 rfl ?_
     refine o_load1 rfl rfl Try.underlying23 rfl (rd_mem 0 rfl rfl) ?_
     refine o_move rfl rfl ?_
     refine o_bin rfl rfl rfl (b_add (wrap_i64 (by omega) (by omega))) ?_
     refine o_cut (l' := (j + 1)) (h' := ((ys).length)) (m := cy) rfl rfl Try.underlying23 ti5 (.inl ⟨rfl, rfl⟩) (.inl ⟨rfl, rfl, rfl⟩) (.inr ⟨_, _, rfl, icast rfl (by omega), (by omega)⟩) ?_
     obtain ⟨ys45, ay45, cut45, hys45, hlys45, eay45⟩ : ∃ ys_ ay_, (∀ {L : List Res}, RdS W L e8 ay ys → RdS W L e8 ay_ ys_) ∧ ys_ = sub ys (j + 1) ((ys).length) ∧ ys_.length = ((ys).length) - (j + 1) ∧ cutA ay cy (j + 1) 1 = ay_ := ⟨_, _, fun h => rds_cut e8_ok h _ _ _ (by omega), rfl, sub_len (by omega), rfl⟩
     refine l_eq (t := 45) (v' := .slice ay45 ys45.length (cy - (j + 1))) rfl (by rw [eay45, hlys45]) ?_
     have hok' : EyeOk W a bs (i + (numR 0 0 ys).2.2) ys45 ay45 (cy - (j + 1)) := by rw [hres, hys45, ← eay45]; exact ok.on (u := j + 1) (by omega)
     refine o_nil rfl rfl ?_
     refine o_fieldAddr (q := ⟨k, 0, none⟩) rfl rfl Try.underlying116 rfl ti23 rfl ?_
     refine o_store1 rfl rfl rfl ti23 rfl rfl ?_
     refine l_nil (q_then (c_seq (c_region (o_move rfl rfl (o_assign rfl rfl (o_assign rfl rfl (l_nil (q_then (c_ret ?_)))))))))
     refine q_block_ret ?_
     refine q_pass_ret (q_pass_ret ?_)
     refine q_block_ret ?_
     refine q_pass_ret ?_
     exact f_ret (r_two rfl rfl rfl) (⟨_, _, _, hok', by rw [hres]; rfl, rfl⟩) (fun w S => S)
   · -- h7F
    try simp only [decide_eq_true_eq, decide_eq_false_iff_not, Bool.not_eq_eq_eq_not, Bool.not_true, Bool.not_false, Bool.not_eq_true', Bool.not_eq_false', Int.not_lt, Int.not_le, Bool.or_eq_true, Bool.and_eq_true] at h7
    refine c_skip (q_block (q_then (c_region ?_)))
    refine o_bin rfl rfl rfl (b_add (wrap_i64 (by omega) (by omega))) ?_
    refine o_move rfl rfl (l_nil ?_)
    exact q_round (j + 1, n + x14.toNat % 128 * 128 ^ j) (by exact ⟨by rw [hq, numR_on hnb (by omega)], by omega, numR_next hn, by omega⟩) (by (try dsimp only); omega) ⟨vr, vr, vr, vr, vr, trivial⟩ (fun w S => S)
 · -- h1F
  try simp only [decide_eq_true_eq, decide_eq_false_iff_not, Bool.not_eq_eq_eq_not, Bool.not_true, Bool.not_false, Bool.not_eq_true', Bool.not_eq_false', Int.not_lt, Int.not_le, Bool.or_eq_true, Bool.and_eq_true] at h1
  refine c_exit (q_pass_exit (q_pass_exit (q_hit (q_then (c_seq (c_region (o_assign rfl rfl (o_assign rfl rfl (l_nil ?_)))))))))
  refine q_then (c_ret ?_)
  exact f_ret (r_two rfl rfl rfl) (⟨ys, ay, cy, by rw [hq, List.drop_of_length_le (by omega), numR]; exact ok, by rw [hq, List.drop_of_length_le (by omega), numR]; rfl, rfl⟩) (fun w S => S)
theorem eyeByte {W : World} {F : List Res} {k i : Nat} {bs ys : List UInt8} {a ay : Option Addr} {c cy : Nat} (ok : EyeOk W a bs i ys ay cy) : CS Try.prog 64 #[.pointer (some ⟨k, 0, none⟩)] W (blk k (.cells #[.slice ay (ys).length cy] 116 (0, 0)) :: row e8.T e8.sz a (bs).length c (flat e8 bs) :: F) (fun r L' => ∃ (ys' : List UInt8) (ay' : Option Addr) (cy' : Nat), EyeOk W a bs (i + (byteR ys).2.2) ys' ay' cy' ∧ r = .tuple #[.int .u8 ((byteR ys).1.toNat : Int), .int .i64 ((byteR ys).2.1 : Int)] ∧ L' = blk k (.cells #[.slice ay' (ys').length cy'] 116 (0, 0)) :: row e8.T e8.sz a (bs).length c (flat e8 bs) :: F) := by
 have hcap := ok.cap
 have hlen := ok.len
 have hsm := ok.small
 refine f_door (l0 := [(0, .pointer (some ⟨k, 0, none⟩))]) Try.func64 Try.ntmps64 rfl rfl rfl ?_
 refine c_seq (c_region (o_assign rfl rfl (o_assign rfl rfl (l_nil (q_then (c_seq (c_seq (c_region (o_move rfl rfl ?_)))))))))
 refine o_nil rfl rfl ?_
 refine o_fieldAddr (q := ⟨k, 0, none⟩) rfl rfl Try.underlying116 rfl ti23 rfl ?_
 refine o_load1 rfl rfl Try.underlying23 rfl (rd_mem 0 rfl rfl) ?_
 refine o_len rfl rfl Try.underlying23 ?_
 refine o_bin rfl rfl rfl b_eql ?_
 refine l_nil (q_then ?_)
 refine c_cond rfl (fun h1 => ?_) (fun h1 => ?_)
 · -- h1T
  try simp only [decide_eq_true_eq, decide_eq_false_iff_not, Bool.not_eq_eq_eq_not, Bool.not_true, Bool.not_false, Bool.not_eq_true', Bool.not_eq_false', Int.not_lt, Int.not_le, Bool.or_eq_true, Bool.and_eq_true] at h1
  refine c_seq (c_region (o_assign rfl rfl (o_assign rfl rfl (l_nil (q_then (c_ret (q_pass_ret ?_)))))))
  exact f_ret (r_two rfl rfl rfl) (⟨ys, ay, cy, by rw [byteR_nil (by omega)]; exact ok, by rw [byteR_nil (by omega)]; rfl, rfl⟩) (fun w S => S)
 · -- h1F
  try simp only [decide_eq_true_eq, decide_eq_false_iff_not, Bool.not_eq_eq_eq_not, Bool.not_true, Bool.not_false, Bool.not_eq_true', Bool.not_eq_false', Int.not_lt, Int.not_le, Bool.or_eq_true, Bool.and_eq_true] at h1
  refine c_skip (q_then (c_seq (c_region (o_move rfl rfl (o_nil rfl rfl ?_)))))
  refine o_fieldAddr (q := ⟨k, 0, none⟩) rfl rfl Try.underlying116 rfl ti23 rfl ?_
  refine o_load1 rfl rfl Try.underlying23 rfl (rd_mem 0 rfl rfl) ?_
  refine o_index e8_ok rfl rfl rfl Try.underlying23 (by omega) (by omega) (ok.cut (rds_own e8_ok 1 rfl)) fun ad15 ead15 => ?_
  obtain ⟨x15, hx15⟩ : ∃ x, (ys)[((0 : Int)).toNat]? = some x := ⟨_, List.getElem?_eq_getElem (by omega)⟩
  have hres : byteR ys = (x15, 0, 1) := byteR_get hx15
  refine o_load1 rfl rfl Try.underlying5 rfl (rd_sl0 e8_ok ead15 (ok.cut (rds_own e8_ok 1 rfl)) hx15 rfl) ?_
  refine o_assign rfl rfl (l_nil (q_then (c_seq (c_region (o_move rfl rfl (o_move rfl rfl (o_nil rfl rfl ?_)))))))
  refine o_fieldAddr (q := ⟨k, 0, none⟩) rfl rfl Try.underlying116 rfl ti23 rfl ?_
  refine o_load1 rfl rfl Try.underlying23 rfl (rd_mem 0 rfl rfl) ?_
  refine o_cut (l' := 1) (h' := ((ys).length)) (m := cy) rfl rfl Try.underlying23 ti5 (.inl ⟨rfl, rfl⟩) (.inl ⟨rfl, rfl, rfl⟩) (.inr ⟨_, _, rfl, icast rfl (by omega), (by omega)⟩) ?_
  obtain ⟨ys22, ay22, cut22, hys22, hlys22, eay22⟩ : ∃ ys_ ay_, (∀ {L : List Res}, RdS W L e8 ay ys → RdS W L e8 ay_ ys_) ∧ ys_ = sub ys 1 ((ys).length) ∧ ys_.length = ((ys).length) - 1 ∧ cutA ay cy 1 1 = ay_ := ⟨_, _, fun h => rds_cut e8_ok h _ _ _ (by omega), rfl, sub_len (by omega), rfl⟩
  refine l_eq (t := 22) (v' := .slice ay22 ys22.length (cy - 1)) rfl (by rw [eay22, hlys22]) ?_
  refine o_nil rfl rfl ?_
  refine o_fieldAddr (q := ⟨k, 0, none⟩) rfl rfl Try.underlying116 rfl ti23 rfl ?_
  refine o_store1 rfl rfl rfl ti23 rfl rfl ?_
  refine l_nil (q_then (c_seq (c_region (o_move rfl rfl (o_assign rfl rfl (o_assign rfl rfl (l_nil (q_then (c_ret ?_)))))))))
  exact f_ret (r_two rfl rfl rfl) (⟨ys22, ay22, _, by rw [hres, hys22, ← eay22]; exact ok.on (u := 1) (by omega), by rw [hres]; rfl, rfl⟩) (fun w S => S)
theorem eyeText {W : World} {F : List Res} {k i : Nat} {bs ys : List UInt8} {a ay : Option Addr} {c cy : Nat} (ok : EyeOk W a bs i ys ay cy) : CS Try.prog 70 #[.pointer (some ⟨k, 0, none⟩)] W (blk k (.cells #[.slice ay (ys).length cy] 116 (0, 0)) :: row e8.T e8.sz a (bs).length c (flat e8 bs) :: F) (fun r L' => ∃ (out ys' : List UInt8) (ay' : Option Addr) (cy' : Nat) (a2 : Option Addr) (c2 : Nat), out = (textR ys).1 ∧ EyeOk W a bs (i + (textR ys).2.2) ys' ay' cy' ∧ r = .tuple #[.slice a2 out.length c2, .int .i64 ((textR ys).2.1 : Int)] ∧ L' = row e8.T e8.sz a2 (out).length c2 (flat e8 out) :: blk k (.cells #[.slice ay' (ys').length cy'] 116 (0, 0)) :: row e8.T e8.sz a (bs).length c (flat e8 bs) :: F) := by
 have hcap := ok.cap
 have hlen := ok.len
 have hsm := ok.small
 have hu := numR_used ys 0 0
 refine f_door (l0 := [(0, .pointer (some ⟨k, 0, none⟩))]) Try.func70 Try.ntmps70 rfl rfl rfl ?_
 refine c_seq (c_region (o_assign rfl rfl (o_assign rfl rfl (l_nil (q_then (c_seq (c_region (o_move rfl rfl (o_nil rfl rfl ?_)))))))))
 refine o_fieldAddr (q := ⟨k, 0, none⟩) rfl rfl Try.underlying116 rfl ti23 rfl ?_
 refine o_load1 rfl rfl Try.underlying23 rfl (rd_mem 0 rfl rfl) ?_
 refine o_assign rfl rfl (l_nil (q_then (c_seq (c_region (o_move rfl rfl (l_f1 (l_f1 ?_)))))))
 refine o_call rfl cal62 rfl (eyeNum ok) ?_
 rintro _ _ ⟨ys14, ay14, cy14, ok14, rfl, rfl⟩
 have hc14 := ok14.cap
 have hl14 := ok14.len
 have hi14 := ok14.le
 have hii := ok.le
 have h14 : ys14 = ys.drop (numR 0 0 ys).2.2 := by rw [ok14.is, ok.is, List.drop_drop]
 refine o_move rfl rfl (o_extract rfl rfl rfl (o_extract rfl rfl rfl (o_assign rfl rfl (o_assign rfl rfl (l_nil (q_then (c_seq (c_seq (c_region ?_)))))))))
 refine o_move rfl rfl ?_
 refine o_bin rfl rfl rfl b_eql ?_
 refine o_move rfl rfl ?_
 refine l_split (t := 19) rfl (fun h1 => ?_) (fun h1 => ?_)
 · -- h1T
  try simp only [decide_eq_true_eq, decide_eq_false_iff_not, Bool.not_eq_eq_eq_not, Bool.not_true, Bool.not_false, Bool.not_eq_true', Bool.not_eq_false', Int.not_lt, Int.not_le, Bool.or_eq_true, Bool.and_eq_true] at h1
  refine o_yes rfl rfl rfl (o_move rfl rfl (o_yes rfl rfl rfl (o_move rfl rfl (o_yes rfl rfl rfl (o_nil rfl rfl (o_yes rfl rfl rfl ?_))))))
  refine o_fieldAddr (q := ⟨k, 0, none⟩) rfl rfl Try.underlying116 rfl ti23 rfl ?_
  refine o_yes rfl rfl rfl ?_
  refine o_load1 rfl rfl Try.underlying23 rfl (rd_mem 0 rfl rfl) ?_
  refine o_yes rfl rfl rfl ?_
  refine o_len rfl rfl Try.underlying23 ?_
  refine o_yes rfl rfl rfl ?_
  refine o_int rfl rfl Try.underlying3 Try.underlying34 (wrap_u64 (by omega) (by omega)) ?_
  refine o_yes rfl rfl rfl ?_
  refine o_bin rfl rfl rfl b_gtr ?_
  refine o_pick_true rfl rfl rfl (l_nil (q_then ?_))
  refine c_cond rfl (fun h2 => ?_) (fun h2 => ?_)
  · -- h2T
   try simp only [decide_eq_true_eq, decide_eq_false_iff_not, Bool.not_eq_eq_eq_not, Bool.not_true, Bool.not_false, Bool.not_eq_true', Bool.not_eq_false', Int.not_lt, Int.not_le, Bool.or_eq_true, Bool.and_eq_true] at h2
   refine c_region (o_assign rfl rfl (l_nil (q_then (c_seq (c_seq (c_region (o_move rfl rfl ?_)))))))
   refine o_bin rfl rfl rfl b_neq ?_
   refine l_eq (t := 30) (v' := .bool true) rfl (show _ = Value.bool true from by rfl) ?_
   refine l_nil (q_then (c_true rfl (c_seq (c_region (o_move rfl rfl (o_move rfl rfl (o_nil rfl rfl ?_)))))))
   refine o_fieldAddr (q := ⟨k, 0, none⟩) rfl rfl Try.underlying116 rfl ti23 rfl ?_
   refine o_store1 rfl rfl rfl ti23 rfl rfl ?_
   refine l_nil (q_then (c_seq ?_))
   refine c_nilrow e8 ?_
   refine c_region (o_move rfl rfl (o_assign rfl rfl (o_assign rfl rfl (l_nil (q_then (c_ret (q_pass_ret ?_)))))))
   exact f_ret (r_two rfl rfl rfl) (⟨[], ys, ay, cy, none, 0, by rw [textR_short (by omega) (by omega)], by rw [textR_short (by omega) (by omega)]; exact ok, by rw [textR_short (by omega) (by omega)]; rfl, rfl⟩) (fun w S => S)
  · -- h2F
   try simp only [decide_eq_true_eq, decide_eq_false_iff_not, Bool.not_eq_eq_eq_not, Bool.not_true, Bool.not_false, Bool.not_eq_true', Bool.not_eq_false', Int.not_lt, Int.not_le, Bool.or_eq_true, Bool.and_eq_true] at h2
   refine c_skip (q_then (c_seq (c_seq (c_region (o_move rfl rfl ?_)))))
   refine o_bin rfl rfl rfl b_neq ?_
   refine l_nil (q_then ?_)
   refine c_cond rfl (fun h3 => ?_) (fun h3 => ?_)
   · -- h3T
    try simp only [decide_eq_true_eq, decide_eq_false_iff_not, Bool.not_eq_eq_eq_not, Bool.not_true, Bool.not_false, Bool.not_eq_true', Bool.not_eq_false', Int.not_lt, Int.not_le, Bool.or_eq_true, Bool.and_eq_true] at h3
    refine c_seq (c_region (o_move rfl rfl (o_move rfl rfl (o_nil rfl rfl ?_))))
    refine o_fieldAddr (q := ⟨k, 0, none⟩) rfl rfl Try.underlying116 rfl ti23 rfl ?_
    refine o_store1 rfl rfl rfl ti23 rfl rfl ?_
    refine l_nil (q_then (c_seq ?_))
    refine c_nilrow e8 ?_
    refine c_region (o_move rfl rfl (o_assign rfl rfl (o_assign rfl rfl (l_nil (q_then (c_ret (q_pass_ret ?_)))))))
    exact f_ret (r_two rfl rfl rfl) (⟨[], ys, ay, cy, none, 0, by rw [textR_err (by omega)], by rw [textR_err (by omega)]; exact ok, by rw [textR_err (by omega)]; rfl, rfl⟩) (fun w S => S)
   · -- h3F
    try simp only [decide_eq_true_eq, decide_eq_false_iff_not, Bool.not_eq_eq_eq_not, Bool.not_true, Bool.not_false, Bool.not_eq_true', Bool.not_eq_false', Int.not_lt, Int.not_le, Bool.or_eq_true, Bool.and_eq_true] at h3
    refine c_skip (q_then (c_seq (c_region (o_move rfl rfl (o_nil rfl rfl ?_)))))
    refine o_fieldAddr (q := ⟨k, 0, none⟩) rfl rfl Try.underlying116 rfl ti23 rfl ?_
    refine o_load1 rfl rfl Try.underlying23 rfl (rd_mem 0 rfl rfl) ?_
    refine o_move rfl rfl ?_
    refine o_cut (l' := 0) (h' := ((numR 0 0 ys).1)) (m := cy14) rfl rfl Try.underlying23 ti5 (.inl ⟨rfl, rfl⟩) (.inr ⟨_, _, rfl, icast rfl rfl, (by omega)⟩) (.inl ⟨rfl, rfl⟩) ?_
    obtain ⟨ys41, ay41, cut41, hys41, hlys41, eay41⟩ : ∃ ys_ ay_, (∀ {L : List Res}, RdS W L e8 ay14 ys14 → RdS W L e8 ay_ ys_) ∧ ys_ = sub ys14 0 ((numR 0 0 ys).1) ∧ ys_.length = ((numR 0 0 ys).1) - 0 ∧ cutA ay14 cy14 0 1 = ay_ := ⟨_, _, fun h => rds_cut e8_ok h _ _ _ (by omega), rfl, sub_len (by omega), rfl⟩
    refine l_eq (t := 41) (v' := .slice ay41 ys41.length (cy14 - 0)) rfl (by rw [eay41, hlys41]) ?_
    refine o_call rfl cal61 rfl (clone8p (cut41 (ok14.cut (rds_own e8_ok 1 rfl))) (by omega)) ?_
    rintro _ _ ⟨a42, c42, rfl, rfl⟩
    refine o_assign rfl rfl (l_nil (q_then (c_seq (c_region (o_move rfl rfl (o_move rfl rfl (o_nil rfl rfl ?_)))))))
    refine o_fieldAddr (q := ⟨k, 0, none⟩) rfl rfl Try.underlying116 rfl ti23 rfl ?_
    refine o_load1 rfl rfl Try.underlying23 rfl (rd_mem 1 rfl rfl) ?_
    refine o_move rfl rfl ?_
    refine o_cut (l' := ((numR 0 0 ys).1)) (h' := ((ys14).length)) (m := cy14) rfl rfl Try.underlying23 ti5 (.inl ⟨rfl, rfl⟩) (.inl ⟨rfl, rfl, rfl⟩) (.inr ⟨_, _, rfl, icast rfl rfl, (by omega)⟩) ?_
    obtain ⟨ys49, ay49, cut49, hys49, hlys49, eay49⟩ : ∃ ys_ ay_, (∀ {L : List Res}, RdS W L e8 ay14 ys14 → RdS W L e8 ay_ ys_) ∧ ys_ = sub ys14 ((numR 0 0 ys).1) ((ys14).length) ∧ ys_.length = ((ys14).length) - ((numR 0 0 ys).1) ∧ cutA ay14 cy14 ((numR 0 0 ys).1) 1 = ay_ := ⟨_, _, fun h => rds_cut e8_ok h _ _ _ (by omega), rfl, sub_len (by omega), rfl⟩
    refine l_eq (t := 49) (v' := .slice ay49 ys49.length (cy14 - ((numR 0 0 ys).1))) rfl (by rw [eay49, hlys49]) ?_
    refine o_nil rfl rfl ?_
    refine o_fieldAddr (q := ⟨k, 0, none⟩) rfl rfl Try.underlying116 rfl ti23 rfl ?_
    refine l_f1 ?_
    refine o_store1 rfl rfl rfl ti23 rfl rfl ?_
    refine l_nil (q_then (c_seq (c_region (o_move rfl rfl (o_assign rfl rfl (o_assign rfl rfl (l_nil (q_then (c_ret ?_)))))))))
    refine qP p2 (qP p1 (qP p2 ?_))
    exact f_ret (r_two rfl rfl rfl) (⟨ys41, ys49, ay49, _, a42, c42, by rw [hys41, h14, sub_drop, textR_ok (by omega) (by omega)], by rw [textR_ok (by omega) (by omega), hys49, ← eay49, ← Nat.add_assoc]; exact ok14.on (u := (numR 0 0 ys).1) (by omega), by rw [textR_ok (by omega) (by omega)]; rfl, rfl⟩) (fun w S => S)
 · -- h1F
  try simp only [decide_eq_true_eq, decide_eq_false_iff_not, Bool.not_eq_eq_eq_not, Bool.not_true, Bool.not_false, Bool.not_eq_true', Bool.not_eq_false', Int.not_lt, Int.not_le, Bool.or_eq_true, Bool.and_eq_true] at h1
  refine o_no rfl rfl rfl rfl (o_no rfl rfl rfl rfl (o_no rfl rfl rfl rfl (o_no rfl rfl rfl rfl (o_no rfl rfl rfl rfl (o_no rfl rfl rfl rfl (o_no rfl rfl rfl rfl (o_no rfl rfl rfl rfl (o_pick_false rfl rfl rfl (l_nil ?_)))))))))
  refine q_then (c_false rfl (c_skip (q_then (c_seq (c_seq (c_region (o_move rfl rfl ?_)))))))
  refine o_bin rfl rfl rfl b_neq ?_
  refine l_nil (q_then ?_)
  refine c_cond rfl (fun h4 => ?_) (fun h4 => ?_)
  · -- h4T
   try simp only [decide_eq_true_eq, decide_eq_false_iff_not, Bool.not_eq_eq_eq_not, Bool.not_true, Bool.not_false, Bool.not_eq_true', Bool.not_eq_false', Int.not_lt, Int.not_le, Bool.or_eq_true, Bool.and_eq_true] at h4
   refine c_seq (c_region (o_move rfl rfl (o_move rfl rfl (o_nil rfl rfl ?_))))
   refine o_fieldAddr (q := ⟨k, 0, none⟩) rfl rfl Try.underlying116 rfl ti23 rfl ?_
   refine o_store1 rfl rfl rfl ti23 rfl rfl ?_
   refine l_nil (q_then (c_seq ?_))
   refine c_nilrow e8 ?_
   refine c_region (o_move rfl rfl (o_assign rfl rfl (o_assign rfl rfl (l_nil (q_then (c_ret (q_pass_ret ?_)))))))
   exact f_ret (r_two rfl rfl rfl) (⟨[], ys, ay, cy, none, 0, by rw [textR_err (by omega)], by rw [textR_err (by omega)]; exact ok, by rw [textR_err (by omega)]; rfl, rfl⟩) (fun w S => S)
  · -- h4F
   try simp only [decide_eq_true_eq, decide_eq_false_iff_not, Bool.not_eq_eq_eq_not, Bool.not_true, Bool.not_false, Bool.not_eq_true', Bool.not_eq_false', Int.not_lt, Int.not_le, Bool.or_eq_true, Bool.and_eq_true] at h4
   refine c_skip (q_then (c_seq (c_region (o_move rfl rfl (o_nil rfl rfl ?_)))))
   refine o_fieldAddr (q := ⟨k, 0, none⟩) rfl rfl Try.underlying116 rfl ti23 rfl ?_
   refine o_load1 rfl rfl Try.underlying23 rfl (rd_mem 0 rfl rfl) ?_
   refine o_move rfl rfl ?_
   refine o_cut (l' := 0) (h' := ((numR 0 0 ys).1)) (m := cy14) rfl rfl Try.underlying23 ti5 (.inl ⟨rfl, rfl⟩) (.inr ⟨_, _, rfl, icast rfl rfl, (by omega)⟩) (.inl ⟨rfl, rfl⟩) ?_
   obtain ⟨ys41, ay41, cut41, hys41, hlys41, eay41⟩ : ∃ ys_ ay_, (∀ {L : List Res}, RdS W L e8 ay14 ys14 → RdS W L e8 ay_ ys_) ∧ ys_ = sub ys14 0 ((numR 0 0 ys).1) ∧ ys_.length = ((numR 0 0 ys).1) - 0 ∧ cutA ay14 cy14 0 1 = ay_ := ⟨_, _, fun h => rds_cut e8_ok h _ _ _ (by omega), rfl, sub_len (by omega), rfl⟩
   refine l_eq (t := 41) (v' := .slice ay41 ys41.length (cy14 - 0)) rfl (by rw [eay41, hlys41]) ?_
   refine o_call rfl cal61 rfl (clone8p (cut41 (ok14.cut (rds_own e8_ok 1 rfl))) (by omega)) ?_
   rintro _ _ ⟨a42, c42, rfl, rfl⟩
   refine o_assign rfl rfl (l_nil (q_then (c_seq (c_region (o_move rfl rfl (o_move rfl rfl (o_nil rfl rfl ?_)))))))
   refine o_fieldAddr (q := ⟨k, 0, none⟩) rfl rfl Try.underlying116 rfl ti23 rfl ?_
   refine o_load1 rfl rfl Try.underlying23 rfl (rd_mem 1 rfl rfl) ?_
   refine o_move rfl rfl ?_
   refine o_cut (l' := ((numR 0 0 ys).1)) (h' := ((ys14).length)) (m := cy14) rfl rfl Try.underlying23 ti5 (.inl ⟨rfl, rfl⟩) (.inl ⟨rfl, rfl, rfl⟩) (.inr ⟨_, _, rfl, icast rfl rfl, (by omega)⟩) ?_
   obtain ⟨ys49, ay49, cut49, hys49, hlys49, eay49⟩ : ∃ ys_ ay_, (∀ {L : List Res}, RdS W L e8 ay14 ys14 → RdS W L e8 ay_ ys_) ∧ ys_ = sub ys14 ((numR 0 0 ys).1) ((ys14).length) ∧ ys_.length = ((ys14).length) - ((numR 0 0 ys).1) ∧ cutA ay14 cy14 ((numR 0 0 ys).1) 1 = ay_ := ⟨_, _, fun h => rds_cut e8_ok h _ _ _ (by omega), rfl, sub_len (by omega), rfl⟩
   refine l_eq (t := 49) (v' := .slice ay49 ys49.length (cy14 - ((numR 0 0 ys).1))) rfl (by rw [eay49, hlys49]) ?_
   refine o_nil rfl rfl ?_
   refine o_fieldAddr (q := ⟨k, 0, none⟩) rfl rfl Try.underlying116 rfl ti23 rfl ?_
   refine l_f1 ?_
   refine o_store1 rfl rfl rfl ti23 rfl rfl ?_
   refine l_nil (q_then (c_seq (c_region (o_move rfl rfl (o_assign rfl rfl (o_assign rfl rfl (l_nil (q_then (c_ret ?_)))))))))
   refine qP p2 (qP p1 (qP p2 ?_))
   exact f_ret (r_two rfl rfl rfl) (⟨ys41, ys49, ay49, _, a42, c42, by rw [hys41, h14, sub_drop, textR_ok (by omega) (by omega)], by rw [textR_ok (by omega) (by omega), hys49, ← eay49, ← Nat.add_assoc]; exact ok14.on (u := (numR 0 0 ys).1) (by omega), by rw [textR_ok (by omega) (by omega)]; rfl, rfl⟩) (fun w S => S)
end
section
set_option linter.unusedVariables false
set_option linter.unusedSimpArgs false
set_option maxRecDepth 10000
open Go.RowKit Classical
theorem nan_string {W : World} {F : List Res} {a : ByteArray} : CS Try.prog 78 #[.string a] W (F) (fun r L' => r = .bool false ∧ F = L') := by
 refine f_door (l0 := [(0, .string a)]) Try.func78 Try.ntmps78 rfl rfl rfl ?_
 refine c_seq (c_region (o_assign rfl rfl (l_nil (q_then (c_seq (c_region (o_move rfl rfl (o_move rfl rfl ?_))))))))
 refine o_bin rfl rfl rfl b_sneq ?_
 refine l_eq (t := 5) (v' := .bool false) rfl (show _ = Value.bool false from by simp) ?_
 refine o_assign rfl rfl (l_nil (q_then (c_ret ?_)))
 exact f_ret (r_one rfl rfl) (⟨rfl, rfl⟩) (fun w S => S)
theorem cmp_string {W : World} {F : List Res} {a b : ByteArray} : CS Try.prog 69 #[.string a, .string b] W (F) (fun r L' => r = .int .i64 (cmpN strlt a b) ∧ F = L') := by
 refine f_door (l0 := [(0, .string a), (1, .string b)]) Try.func69 Try.ntmps69 rfl rfl rfl ?_
 refine c_seq (c_region (o_assign rfl rfl (l_nil (q_then (c_seq (c_region (o_move rfl rfl ?_)))))))
 refine o_call rfl cal78 rfl (nan_string (a := a)) ?_
 rintro _ _ ⟨rfl, rfl⟩
 refine o_assign rfl rfl (l_nil (q_then (c_seq (c_region (o_move rfl rfl ?_)))))
 refine o_call rfl cal78 rfl (nan_string (a := b)) ?_
 rintro _ _ ⟨rfl, rfl⟩
 refine o_assign rfl rfl (l_nil (q_then (c_seq (c_seq (c_region (o_move rfl rfl (l_nil (q_then (c_false rfl ?_)))))))))
 refine c_skip (q_then (c_seq (c_seq (c_region (o_move rfl rfl (l_nil (q_then (c_false rfl (c_skip ?_)))))))))
 refine q_then (c_seq (c_seq (c_region (o_move rfl rfl (o_move rfl rfl ?_)))))
 refine o_bin rfl rfl rfl b_slss ?_
 refine l_nil (q_then ?_)
 refine c_cond rfl (fun h1 => ?_) (fun h1 => ?_)
 · -- h1T
  have h1b := h1
  try simp only [decide_eq_true_eq, decide_eq_false_iff_not, Bool.not_eq_eq_eq_not, Bool.not_true, Bool.not_false, Bool.not_eq_true', Bool.not_eq_false', Int.not_lt, Int.not_le, Bool.or_eq_true, Bool.and_eq_true] at h1
  refine c_seq (c_region (o_assign rfl rfl (l_nil (q_then (c_ret (q_pass_ret ?_))))))
  exact f_ret (r_one rfl rfl) (⟨by rw [show cmpN strlt a b = -1 from if_pos (show strlt a b from h1b)], rfl⟩) (fun w S => S)
 · -- h1F
  have h1b := h1
  try simp only [decide_eq_true_eq, decide_eq_false_iff_not, Bool.not_eq_eq_eq_not, Bool.not_true, Bool.not_false, Bool.not_eq_true', Bool.not_eq_false', Int.not_lt, Int.not_le, Bool.or_eq_true, Bool.and_eq_true] at h1
  refine c_skip (q_then (c_seq (c_seq (c_region (o_move rfl rfl (o_move rfl rfl ?_))))))
  refine o_bin rfl rfl rfl b_sgtr ?_
  refine l_nil (q_then ?_)
  refine c_cond rfl (fun h2 => ?_) (fun h2 => ?_)
  · -- h2T
   have h2b := h2
   try simp only [decide_eq_true_eq, decide_eq_false_iff_not, Bool.not_eq_eq_eq_not, Bool.not_true, Bool.not_false, Bool.not_eq_true', Bool.not_eq_false', Int.not_lt, Int.not_le, Bool.or_eq_true, Bool.and_eq_true] at h2
   refine c_seq (c_region (o_assign rfl rfl (l_nil (q_then (c_ret (q_pass_ret ?_))))))
   exact f_ret (r_one rfl rfl) (⟨by rw [show cmpN strlt a b = 1 from (if_neg (fun h9 => by rw [show slt a b = true from h9] at h1b; cases h1b)).trans (if_pos (show strlt b a from h2b))], rfl⟩) (fun w S => S)
  · -- h2F
   have h2b := h2
   try simp only [decide_eq_true_eq, decide_eq_false_iff_not, Bool.not_eq_eq_eq_not, Bool.not_true, Bool.not_false, Bool.not_eq_true', Bool.not_eq_false', Int.not_lt, Int.not_le, Bool.or_eq_true, Bool.and_eq_true] at h2
   refine c_skip (q_then (c_seq (c_region (o_assign rfl rfl (l_nil (q_then (c_ret ?_)))))))
   exact f_ret (r_one rfl rfl) (⟨by rw [show cmpN strlt a b = 0 from (if_neg (fun h9 => by rw [show slt a b = true from h9] at h1b; cases h1b)).trans (if_neg (fun h9 => by rw [show slt b a = true from h9] at h2b; cases h2b))], rfl⟩) (fun w S => S)
end
section
set_option linter.unusedVariables false
set_option linter.unusedSimpArgs false
set_option maxRecDepth 10000
open Go.RowKit Classical
theorem sf_A {W : World} {F : List Res} {x : ItA} {k : ByteArray} : CS Try.prog 68 #[.agg #[.string x.f_key, .bool x.f_value.f_Has, .slice x.f_value.f_Value.a (x.f_value.f_Value.xs).length x.f_value.f_Value.c, .int .i64 x.f_value.f_Home, .int .u64 x.f_value.f_Count], .string k] W (F) (fun r L' => r = .int .i64 (cmpN strlt x.f_key k) ∧ F = L') := by
 refine f_door (l0 := [(0, .agg #[.string x.f_key, .bool x.f_value.f_Has, .slice x.f_value.f_Value.a (x.f_value.f_Value.xs).length x.f_value.f_Value.c, .int .i64 x.f_value.f_Home, .int .u64 x.f_value.f_Count]), (1, .string k)]) Try.func68 Try.ntmps68 rfl rfl rfl ?_
 refine c_seq (c_region ?_)
 refine o_box rfl rfl fun b2 => ?_
 refine o_assign rfl rfl (l_nil (q_then (c_seq (c_region ?_))))
 refine o_fieldAddr (q := ⟨b2, 0, none⟩) rfl rfl Try.underlying110 rfl ti9 rfl ?_
 refine o_load1 rfl rfl Try.underlying9 rfl (rd_mem 0 rfl rfl) ?_
 refine o_move rfl rfl ?_
 refine o_call rfl cal69 rfl (cmp_string (a := x.f_key) (b := k)) ?_
 rintro _ _ ⟨rfl, rfl⟩
 refine o_assign rfl rfl (l_nil (q_then (c_ret (qT ?_))))
 exact f_ret (r_one rfl rfl) (⟨rfl, rfl⟩) (fun w S => S)
theorem bs_A {W : World} {F : List Res} {xs : List ItA} {a : Option Addr} {c : Nat} {k : ByteArray} (hs : RdS W F e_ItA a xs) (hn : xs.length ≤ 1000) (srt : Srt ItA.f_key strlt xs) {fv : Value} (hf : ∀ x ∈ xs, FV Try.prog fv [.agg (e_ItA.cells x).toArray, .string k] W F (fun r L' => r = .int .i64 (cmpN strlt x.f_key k) ∧ F = L')) : CS Try.prog 67 #[.slice a (xs).length c, .string k, fv] W (F) (fun r L' => ∃ (i : Nat) (fd : Bool), (Found ItA.f_key strlt k xs i ∧ (fd = true ↔ ∃ y, xs[i]? = some y ∧ y.f_key = k)) ∧ r = .tuple #[.int .i64 (i : Int), .bool fd] ∧ F = L') := by
 refine f_door (l0 := [(0, .slice a (xs).length c), (1, .string k), (2, fv)]) Try.func67 Try.ntmps67 rfl rfl rfl ?_
 refine c_seq (c_region (o_assign rfl rfl (o_assign rfl rfl (l_nil (q_then (c_seq (c_region (o_move rfl rfl ?_))))))))
 refine o_len rfl rfl Try.underlying100 ?_
 refine o_assign rfl rfl (l_nil (q_then (c_seq (c_region (o_move rfl rfl (o_assign rfl rfl (o_assign rfl rfl (l_nil (q_then ?_)))))))))
 refine c_seq (c_block ?_)
 refine c_loop (α := Nat × Nat) (fun z => [(0, .slice a (xs).length c), (1, .string k), (2, fv), (8, .int .i64 ((xs).length : Int)), (9, .int .i64 (z.1 : Int)), (10, .int .i64 (z.2 : Int))]) (fun z => F) (fun z => z.1 ≤ z.2 ∧ z.2 ≤ xs.length ∧ (∀ c ∈ xs.take z.1, strlt c.f_key k) ∧ ∀ d ∈ xs.drop z.2, ¬ strlt d.f_key k) (fun z => z.2 - z.1) (0, xs.length) (by exact ⟨Nat.zero_le _, Nat.le_refl _, fun c hc => (by simp at hc), fun d hd => (by simp at hd)⟩) ⟨vr, vr, vr, vr, vr, vr, trivial⟩ (fun w S => S) ?_
 rintro ⟨i, j⟩ ⟨hij, hjn, hlo, hhi⟩
 try dsimp only at *
 refine c_seq (c_seq (c_region (o_move rfl rfl (o_move rfl rfl ?_))))
 refine o_bin rfl rfl rfl b_lss ?_
 refine l_nil (q_then ?_)
 refine c_cond rfl (fun h1 => ?_) (fun h1 => ?_)
 · -- h1T
  have h1b := h1
  try simp only [decide_eq_true_eq] at h1
  refine c_skip (q_then (c_block (c_seq (c_region (o_move rfl rfl (o_move rfl rfl ?_))))))
  refine o_bin rfl rfl rfl (b_add (show IntKind.i64.wrap ((i : Int) + (j : Int)) = ((i + j : Nat) : Int) from by rw [wrap_i64 (by omega) (by omega)]; omega)) ?_
  refine o_int rfl rfl Try.underlying3 Try.underlying114 (wrap_u64 (by omega) (by omega)) ?_
  refine o_bin rfl rfl rfl (b_shr (by omega) (shr1u (i + j))) ?_
  refine o_int rfl rfl Try.underlying114 Try.underlying3 (wrap_i64 (by omega) (by omega)) ?_
  refine o_assign rfl rfl (l_nil (q_then (c_seq ?_)))
  refine c_fact (p := ∃ ad, a = some ad) (rds_some (e := e_ItA) (xs := xs) hs (by intro h0; have h00 := congrArg List.length h0; simp only [List.length_nil] at h00; omega)) ?_
  rintro ⟨adx, eadx⟩
  refine c_region (o_move rfl rfl (o_move rfl rfl (o_move rfl rfl ?_)))
  refine o_indexK e_ItA_ok eadx rfl rfl rfl Try.underlying100 (by omega) (by omega) ?_
  obtain ⟨x27, hx27⟩ : ∃ x, (xs)[((((i + j) / 2 : Nat) : Int)).toNat]? = some x := ⟨_, List.getElem?_eq_getElem (by omega)⟩
  have hx27' : xs[(i + j) / 2]? = some x27 := hx27
  refine o_loadn (vs := e_ItA.cells x27) rfl rfl Try.underlying110 rfl ti110 (rdn_sl e_ItA_ok eadx hs hx27) ?_
  refine o_move rfl rfl ?_
  refine o_callV rfl rfl rfl (hf x27 (List.mem_of_getElem? hx27)) ?_
  rintro _ _ ⟨rfl, rfl⟩
  refine o_bin rfl rfl rfl b_lss ?_
  refine l_nil (q_then ?_)
  refine c_cond rfl (fun h2 => ?_) (fun h2 => ?_)
  · -- h2T
   have h2b := h2
   try simp only [decide_eq_true_eq] at h2
   refine c_region (o_move rfl rfl ?_)
   refine o_bin rfl rfl rfl (b_add (wrap_i64 (by omega) (by omega))) ?_
   refine o_assign rfl rfl (l_nil (q_block ?_))
   exact q_round (((i + j) / 2 + 1), j) (by exact ⟨by omega, by omega, lo_on (key := ItA.f_key) strlt_sto srt hx27' (cmpN_neg.1 (by simpa using h2b)), hhi⟩) (by (try dsimp only); omega) ⟨vr, vr, vr, vr, vr, vr, trivial⟩ (fun w S => S)
  · -- h2F
   have h2b := h2
   try simp only [decide_eq_false_iff_not, Int.not_lt, Int.not_le] at h2
   refine c_region (o_move rfl rfl (o_assign rfl rfl (l_nil (q_block ?_))))
   exact q_round (i, ((i + j) / 2)) (by exact ⟨by omega, by omega, hlo, hi_on (key := ItA.f_key) strlt_sto srt hx27' (fun h9 => absurd (cmpN_neg.2 h9) (by simpa using h2b))⟩) (by (try dsimp only); omega) ⟨vr, vr, vr, vr, vr, vr, trivial⟩ (fun w S => S)
 · -- h1F
  have h1b := h1
  try simp only [decide_eq_false_iff_not, Int.not_lt, Int.not_le] at h1
  refine c_exit (q_pass_exit (q_pass_exit (q_hit (q_then (c_seq (c_region (o_move rfl rfl (o_move rfl rfl (o_move rfl rfl ?_)))))))))
  refine o_bin rfl rfl rfl b_lss ?_
  refine o_move rfl rfl ?_
  refine l_split (t := 39) rfl (fun h3 => ?_) (fun h3 => ?_)
  · -- h3T
   have h3b := h3
   try simp only [decide_eq_true_eq] at h3
   refine o_yes rfl rfl rfl (o_move rfl rfl (o_yes rfl rfl rfl (o_move rfl rfl (o_yes rfl rfl rfl (o_move rfl rfl ?_)))))
   skip
   refine o_yes rfl rfl rfl ?_
   refine o_index e_ItA_ok rfl rfl rfl Try.underlying100 (by omega) (by omega) hs fun ad43 ead43 => ?_
   obtain ⟨x43, hx43⟩ : ∃ x, (xs)[((i : Int)).toNat]? = some x := ⟨_, List.getElem?_eq_getElem (by omega)⟩
   refine o_yes rfl rfl rfl ?_
   refine o_loadn (vs := e_ItA.cells x43) rfl rfl Try.underlying110 rfl ti110 (rdn_sl e_ItA_ok ead43 hs hx43) ?_
   refine o_yes rfl rfl rfl (o_move rfl rfl (o_yes rfl rfl rfl ?_))
   refine o_callV rfl rfl rfl (hf x43 (List.mem_of_getElem? hx43)) ?_
   rintro _ _ ⟨rfl, rfl⟩
   refine o_yes rfl rfl rfl ?_
   refine o_bin rfl rfl rfl b_eql ?_
   refine o_pick_true rfl rfl rfl (o_assign rfl rfl (o_assign rfl rfl (l_nil (q_then (c_ret ?_)))))
   exact f_ret (r_two rfl rfl rfl) (⟨i, _, ⟨⟨by omega, hlo, by rw [show i = j by omega]; exact hhi⟩, by rw [decide_eq_true_iff, cmpN_eq strlt_sto]; exact ⟨fun h9 => ⟨x43, hx43, h9⟩, fun ⟨y, hy, h9⟩ => by rw [show xs[i]? = some x43 from hx43] at hy; cases hy; exact h9⟩⟩, rfl, rfl⟩) (fun w S => S)
  · -- h3F
   have h3b := h3
   try simp only [decide_eq_false_iff_not, Int.not_lt, Int.not_le] at h3
   refine o_no rfl rfl rfl rfl (o_no rfl rfl rfl rfl (o_no rfl rfl rfl rfl (o_no rfl rfl rfl rfl (o_no rfl rfl rfl rfl (o_no rfl rfl rfl rfl (o_no rfl rfl rfl rfl (o_no rfl rfl rfl rfl (o_pick_false rfl rfl rfl (o_assign rfl rfl ?_)))))))))
   refine o_assign rfl rfl (l_nil (q_then (c_ret ?_)))
   exact f_ret (r_two rfl rfl rfl) (⟨i, false, ⟨⟨by omega, hlo, by rw [show i = j by omega]; exact hhi⟩, ⟨fun h9 => (by cases h9), fun ⟨y, hy, _⟩ => absurd (List.getElem?_eq_some_iff.1 hy).1 (by omega)⟩⟩, rfl, rfl⟩) (fun w S => S)
theorem search_A {W : World} {F : List Res} {b nk : Nat} {xs : List ItA} {a ak : Option Addr} {c ck : Nat} {k : ByteArray} (hn : xs.length ≤ 1000) (srt : Srt ItA.f_key strlt xs) : CS Try.prog 56 #[.pointer (some ⟨b, 0, none⟩), .string k] W (blk b (.cells #[.slice a (xs).length c, .slice ak nk ck] 103 (0, 0)) :: row e_ItA.T e_ItA.sz a (xs).length c (flat e_ItA xs) :: F) (fun r L' => ∃ (i : Nat) (fd : Bool), (Found ItA.f_key strlt k xs i ∧ (fd = true ↔ ∃ y, xs[i]? = some y ∧ y.f_key = k)) ∧ r = .tuple #[.int .i64 (i : Int), .bool fd] ∧ L' = blk b (.cells #[.slice a (xs).length c, .slice ak nk ck] 103 (0, 0)) :: row e_ItA.T e_ItA.sz a (xs).length c (flat e_ItA xs) :: F) := by
 refine f_door (l0 := [(0, .pointer (some ⟨b, 0, none⟩)), (1, .string k)]) Try.func56 Try.ntmps56 rfl rfl rfl ?_
 refine c_seq (c_region (o_assign rfl rfl (o_assign rfl rfl (l_nil (q_then (c_seq (c_region (o_move rfl rfl (o_nil rfl rfl ?_)))))))))
 refine o_fieldAddr (q := ⟨b, 0, none⟩) rfl rfl Try.underlying103 rfl ti100 rfl ?_
 refine o_load1 rfl rfl Try.underlying100 rfl (rd_mem 0 rfl rfl) ?_
 refine o_move rfl rfl ?_
 refine o_call rfl cal67 rfl (bs_A (k := k) (rds_own e_ItA_ok 1 rfl) hn srt (fun x hx => FV.of_csL cal68 (sf_A (x := x) (k := k)))) ?_
 rintro _ _ ⟨i11, fd11, ⟨hF11, hfd11⟩, rfl, rfl⟩
 refine o_extract rfl rfl rfl (o_extract rfl rfl rfl (o_assign rfl rfl (o_assign rfl rfl (l_nil (q_then (c_ret ?_))))))
 exact f_ret (r_two rfl rfl rfl) (⟨i11, fd11, ⟨hF11, hfd11⟩, rfl, rfl⟩) (fun w S => S)
theorem cloI_A {W : World} {F : List Res} {xs : List ItA} {a : Option Addr} {c : Nat} (hs : RdS W F e_ItA a xs) (hn : xs.length ≤ 1000) : CS Try.prog 76 #[.slice a (xs).length c] W (F) (fun r L' => ∃ (a' : Option Addr) (c' : Nat), r = .slice a' xs.length c' ∧ L' = row e_ItA.T e_ItA.sz a' (xs).length c' (flat e_ItA xs) :: F) := by
 refine f_door (l0 := [(0, .slice a (xs).length c)]) Try.func76 Try.ntmps76 rfl rfl rfl ?_
 refine c_seq ?_
 refine c_fact (rds_nilq hs) ?_
 intro hz
 refine c_region (o_assign rfl rfl (l_nil (q_then (c_seq (c_seq (c_region (o_move rfl rfl ?_)))))))
 refine o_bin rfl rfl rfl (b_sleq Try.underlying100 _ _ _) ?_
 refine l_nil (q_then ?_)
 refine c_cond rfl (fun h1 => ?_) (fun h1 => ?_)
 · -- h1T
  have h1b := h1
  try simp only [decide_eq_true_eq, decide_eq_false_iff_not, Bool.not_eq_eq_eq_not, Bool.not_true, Bool.not_false, Bool.not_eq_true', Bool.not_eq_false', Int.not_lt, Int.not_le, Bool.or_eq_true, Bool.and_eq_true] at h1
  have hnil : xs = [] := hz (by simpa using h1)
  refine c_seq (c_region (o_assign rfl rfl (l_nil (q_then (c_ret (q_pass_ret ?_))))))
  exact f_ret (r_one rfl rfl) (⟨none, 0, by rw [hnil]; rfl, rfl⟩) (by rw [hnil]; exact fun w S => S.own_nil)
 · -- h1F
  have h1b := h1
  try simp only [decide_eq_true_eq, decide_eq_false_iff_not, Bool.not_eq_eq_eq_not, Bool.not_true, Bool.not_false, Bool.not_eq_true', Bool.not_eq_false', Int.not_lt, Int.not_le, Bool.or_eq_true, Bool.and_eq_true] at h1
  refine c_skip (q_then (c_seq (c_region ?_)))
  refine o_lit e_ItA_ok rfl Try.underlying100 rfl rfl rfl (lit_ok rfl) ([] : List ItA) rfl rfl fun a5 => ?_
  refine o_move rfl rfl ?_
  refine o_append e_ItA_ok rfl rfl rfl Try.underlying100 (rds_c hs) (by show (_ + _) * 64 ≤ _; simp only [List.length_nil]; omega) (by simp only [List.length_nil]; omega) fun a7 c7 => ?_
  refine o_assign rfl rfl (l_nil (q_then (c_ret ?_)))
  exact f_ret (r_one rfl rfl) (⟨_, _, rfl, rfl⟩) (fun w S => by simpa using S)
theorem cloK_A {W : World} {F : List Res} {xs : List Nat} {a : Option Addr} {c : Nat} (hs : RdS W F eN99 a xs) (hn : xs.length ≤ 1000) : CS Try.prog 77 #[.slice a (xs).length c] W (F) (fun r L' => ∃ (a' : Option Addr) (c' : Nat), r = .slice a' xs.length c' ∧ L' = row eN99.T eN99.sz a' (xs).length c' (flat eN99 xs) :: F) := by
 refine f_door (l0 := [(0, .slice a (xs).length c)]) Try.func77 Try.ntmps77 rfl rfl rfl ?_
 refine c_seq ?_
 refine c_fact (rds_nilq hs) ?_
 intro hz
 refine c_region (o_assign rfl rfl (l_nil (q_then (c_seq (c_seq (c_region (o_move rfl rfl ?_)))))))
 refine o_bin rfl rfl rfl (b_sleq Try.underlying101 _ _ _) ?_
 refine l_nil (q_then ?_)
 refine c_cond rfl (fun h1 => ?_) (fun h1 => ?_)
 · -- h1T
  have h1b := h1
  try simp only [decide_eq_true_eq, decide_eq_false_iff_not, Bool.not_eq_eq_eq_not, Bool.not_true, Bool.not_false, Bool.not_eq_true', Bool.not_eq_false', Int.not_lt, Int.not_le, Bool.or_eq_true, Bool.and_eq_true] at h1
  have hnil : xs = [] := hz (by simpa using h1)
  refine c_seq (c_region (o_assign rfl rfl (l_nil (q_then (c_ret (q_pass_ret ?_))))))
  exact f_ret (r_one rfl rfl) (⟨none, 0, by rw [hnil]; rfl, rfl⟩) (by rw [hnil]; exact fun w S => S.own_nil)
 · -- h1F
  have h1b := h1
  try simp only [decide_eq_true_eq, decide_eq_false_iff_not, Bool.not_eq_eq_eq_not, Bool.not_true, Bool.not_false, Bool.not_eq_true', Bool.not_eq_false', Int.not_lt, Int.not_le, Bool.or_eq_true, Bool.and_eq_true] at h1
  refine c_skip (q_then (c_seq (c_region ?_)))
  refine o_lit eN99_ok rfl Try.underlying101 rfl rfl rfl (lit_ok rfl) ([] : List Nat) rfl rfl fun a5 => ?_
  refine o_move rfl rfl ?_
  refine o_append eN99_ok rfl rfl rfl Try.underlying101 (rds_c hs) (by show (_ + _) * 8 ≤ _; simp only [List.length_nil]; omega) (by simp only [List.length_nil]; omega) fun a7 c7 => ?_
  refine o_assign rfl rfl (l_nil (q_then (c_ret ?_)))
  exact f_ret (r_one rfl rfl) (⟨_, _, rfl, rfl⟩) (fun w S => by simpa using S)
end
section
set_option linter.unusedVariables false
set_option linter.unusedSimpArgs false
open Go.RowKit
section
variable {P : Program} {N : FN} {l : Fr} {W : World} {L L0 : List Res} {Q : Exit → Act → World → Prop} {ops : Array Oper} {rest : List Oper}
variable {d : Nat} {ty : TypeId} {pos : String} {af : Array Edge}
theorem o_appendIn {α : Type} {e : Enc α} {t : TypeId} {x y : Operand} {a b b' : Option Addr} {c c2 k : Nat} {xs ys zs : List α} (ok : EncOk P e) (ea : cutA a c 0 e.sz = b') (hzs : zs = sub xs 0 k) (hk : k ≤ xs.length) (hd : Nat.ble (d + 1) N = true) (hx : opv l x = some (.slice b' zs.length (c - 0))) (hy : opv l y = some (.slice b ys.length c2)) (ht : P.underlying t = some (.slice e.T))
    (hr : RdS W (row e.T e.sz a xs.length c (flat e xs) :: L) e b ys) (hne : 0 < xs.length) (hroom : zs.length + ys.length ≤ xs.length) (hb2 : b ≠ none)
    (h : WL P ops Q rest N ((d, .slice a (zs ++ ys).length c) :: l) W (row e.T e.sz a (zs ++ ys).length c (flat e (zs ++ ys)) :: L)) :
    WL P ops Q (⟨some d, .call { callee := .builtin .append, args := #[x, y], argTypes := #[t, t] }, ty, pos, af, none⟩ :: rest) N l W (row e.T e.sz a xs.length c (flat e xs) :: L) :=
  o_runx (α := Unit) hd (vv := fun _ => .slice a (zs ++ ys).length c) (LL := fun _ => row e.T e.sz a (zs ++ ys).length c (flat e (zs ++ ys)) :: L) (fun ac w K S => by
    obtain ⟨i, hi, hz, hs, hby⟩ := ok.ti.get
    rw [Nat.sub_zero] at hx
    have hzl : zs.length = k := by rw [hzs, sub_len hk]; rfl
    have hzt : flat e zs = (flat e xs).take (k * e.sz) := by rw [hzs, sub, List.drop_zero, flat_take ok]
    cases b with
    | none => exact absurd rfl hb2
    | some bd =>
      have hnews : ∀ j u, (flat e ys)[j]? = some u → w.cell? (bd.add j) = some u := fun j u hj => by
        by_cases hys : ys = []
        · subst hys; simp [flat] at hj
        · obtain ⟨ad, he, hc⟩ := hr w S hys
          cases he
          exact hc j u hj
      have hny := flat_length ok ys
      obtain ⟨hl, ⟨h1, h2, h3, S'⟩ | ⟨g, cur, h1, h2, h3, h4, h5, S'⟩⟩ := S.own_cases
      · omega
      · subst h1
        rw [cutA_zero] at ea
        subst ea
        have hkc : cur.toList.take (k * e.sz) = flat e zs := by
          rw [hzt, ← h5, List.take_take, Nat.min_eq_left (Nat.mul_le_mul_right _ hk)]
        have hkl : (flat e zs).length = k * e.sz := by rw [flat_length ok, hzl]
        have hroom' : k + ys.length ≤ c := by omega
        have hle : (k + ys.length) * e.sz ≤ cur.size := Nat.le_trans (Nat.mul_le_mul_right _ hroom') h4
        rw [Nat.add_mul] at hle
        have hst := run_storeCells_at P g (k * e.sz) e.T (flat e ys) 0 cur w S'.read.2 (by simp; omega) (flat_one ok ys)
        simp only [Nat.add_zero] at hst
        rw [← hs] at hst hny
        have hrun := run_append_room_row (P := P) t ty e.T i ht hi g 0 k c bd ys.length c2 (flat e ys) hny hnews hroom' (by rw [Nat.zero_add]; exact hst)
        refine ⟨(), w.setRow g (cur.toList.take (k * e.sz) ++ flat e ys ++ cur.toList.drop (k * e.sz + (flat e ys).length)).toArray, ?_, ?_⟩
        · rw [← hs]
          rw [hzl] at hx
          simp [execOp, resolve, invoke, builtin, K.eval hx, K.eval hy, hrun, hzl]
        · have S2 : Sat W (w.setRow g (cur.toList.take (k * e.sz) ++ flat e ys ++ cur.toList.drop (k * e.sz + (flat e ys).length)).toArray) (blk g (.cells (cur.toList.take (k * e.sz) ++ flat e ys ++ cur.toList.drop (k * e.sz + (flat e ys).length)).toArray e.T (0, 0)) :: L) :=
            S'.turn rfl rfl rfl (by simp [World.setRow]) (setRow_heap w g cur _ e.T _ S'.read.2) (fun q hq => setRow_other w g q _ hq)
          rw [hs] at hny
          refine S2.own_mk (by rw [List.length_append, hzl]; exact hroom') (by omega) ?_ ?_
          · rw [List.size_toArray]; simp only [List.length_append, List.length_take, List.length_drop, Array.length_toList]; omega
          · rw [List.toList_toArray, hkc, ← flat_append]
            refine List.take_left' ?_
            rw [flat_length ok]) (fun _ => h)
/-- clear of what lies behind a row, inside what it can hold. -/
theorem o_clearTail_ {α : Type} {e : Enc α} {t : TypeId} {x : Operand} {a : Option Addr} {c n lo : Nat} {xs : List α} (ok : EncOk P e) (hx : opv l x = some (.slice (cutA a c lo e.sz) n (c - lo))) (ht : P.underlying t = some (.slice e.T)) (h0 : xs.length ≤ lo) (h1 : lo + n ≤ c) (hn : 0 < n) (hz1 : ∀ v ∈ e.z.cells.toList, v.oneCell' = true)
    (h : WL P ops Q rest N l W (row e.T e.sz a xs.length c (flat e xs) :: L)) : WL P ops Q (⟨none, .call { callee := .builtin .clear, args := #[x], argTypes := #[t] }, ty, pos, af, none⟩ :: rest) N l W (row e.T e.sz a xs.length c (flat e xs) :: L) := fun b' w K S => by
  obtain ⟨hl, ⟨g1, g2, g3, _⟩ | ⟨g, cur, g1, g2, g3, g4, g5, S'⟩⟩ := S.own_cases
  · omega
  · subst g1
    have hc : cutA (some ⟨g, 0, none⟩) c lo e.sz = some ⟨g, lo * e.sz, none⟩ := by
      unfold cutA
      rw [if_neg (by omega)]
      simp [Addr.add_mk]
    rw [hc] at hx
    obtain ⟨vs, hvs⟩ : ∃ vs, vs = (Builtin.zeroCells e.z.cells n).toList := ⟨_, rfl⟩
    have hvl : vs.length = n * e.sz := by rw [hvs, Array.length_toList, size_zeroCells, ok.zs]
    have hv1 : ∀ v ∈ vs, v.oneCell' = true := fun v hv => by
      rw [hvs, zeroCells_list] at hv
      obtain ⟨q, hq, hv⟩ := List.mem_flatten.1 hv
      rw [List.eq_of_mem_replicate hq] at hv
      exact hz1 v hv
    have hle : (lo + n) * e.sz ≤ cur.size := Nat.le_trans (Nat.mul_le_mul_right _ h1) g4
    rw [Nat.add_mul] at hle
    have hst := run_storeCells_at P g (lo * e.sz) e.T vs 0 cur w S'.read.2 (by omega) hv1
    simp only [Nat.add_zero] at hst
    have h6 : (execOp b'.eval ⟨none, .call { callee := .builtin .clear, args := #[x], argTypes := #[t] }, ty, pos, af, none⟩).run P w = .ok (.value (.tuple #[])) (w.setRow g (cur.toList.take (lo * e.sz) ++ vs ++ cur.toList.drop (lo * e.sz + vs.length)).toArray) := by
      obtain ⟨m, rfl⟩ : ∃ m, n = m + 1 := ⟨n - 1, by omega⟩
      rw [hvs] at hst
      simp [execOp, resolve, invoke, builtin, K.eval hx, Builtin.clear_, run_underlying ht, run_zeroValue' ok.ti, hst, hvs]
    refine wpListIn_plain rfl fun k hk => wpIn_of_run h6 (by simp) ?_
    have S2 : Sat W (w.setRow g (cur.toList.take (lo * e.sz) ++ vs ++ cur.toList.drop (lo * e.sz + vs.length)).toArray) (blk g (.cells (cur.toList.take (lo * e.sz) ++ vs ++ cur.toList.drop (lo * e.sz + vs.length)).toArray e.T (0, 0)) :: L) :=
      S'.turn rfl rfl rfl (by simp [World.setRow]) (setRow_heap w g cur _ e.T _ S'.read.2) (fun q hq => setRow_other w g q _ hq)
    have hle0 : xs.length * e.sz ≤ lo * e.sz := Nat.mul_le_mul_right _ h0
    have hT : xs.length * e.sz ≤ (cur.toList.take (lo * e.sz)).length := by
      have hcl : cur.toList.length = cur.size := Array.length_toList
      rw [List.length_take, hcl]; omega
    have S3 := S2.own_mk (sz := e.sz) (c := c) (n := xs.length) (cs := flat e xs) g2 g3 (by rw [List.size_toArray]; simp only [List.length_append, List.length_take, List.length_drop, Array.length_toList]; omega) (by
      rw [List.toList_toArray, List.append_assoc, List.take_append_of_le_length hT, List.take_take, Nat.min_eq_left hle0]
      exact g5)
    exact hk _ _ (h _ _ (K.none _) S3)
end
end
section
set_option linter.unusedVariables false
set_option linter.unusedSimpArgs false
set_option maxRecDepth 10000
open Go.RowKit Classical
theorem delI_A {W : World} {F : List Res} {xs : List ItA} {a : Option Addr} {c i j : Nat} (hij : i < j) (hj : j ≤ xs.length) (hn : xs.length ≤ 1000) : CS Try.prog 71 #[.slice a (xs).length c, .int .i64 (i : Int), .int .i64 (j : Int)] W (row e_ItA.T e_ItA.sz a (xs).length c (flat e_ItA xs) :: F) (fun r L' => r = .slice a (xs.take i ++ xs.drop j).length c ∧ L' = row e_ItA.T e_ItA.sz a ((xs.take i ++ xs.drop j)).length c (flat e_ItA (xs.take i ++ xs.drop j)) :: F) := by
 refine f_door (l0 := [(0, .slice a (xs).length c), (1, .int .i64 (i : Int)), (2, .int .i64 (j : Int))]) Try.func71 Try.ntmps71 rfl rfl rfl ?_
 refine c_seq (c_region (o_assign rfl rfl (l_nil (q_then (c_seq ?_)))))
 refine c_rowcap ?_
 intro hrc
 simp only [maxLen] at hrc
 refine c_fact (p := ∃ ad, a = some ad) (rds_some (e := e_ItA) (xs := xs) (rds_own e_ItA_ok 0 rfl) (by intro h0; rw [h0] at hj; simp at hj; omega)) ?_
 rintro ⟨adr, eadr⟩
 refine c_region (o_move rfl rfl (o_move rfl rfl (o_move rfl rfl (o_move rfl rfl ?_))))
 refine o_len rfl rfl Try.underlying100 ?_
 refine o_cut (l' := i) (h' := j) (m := xs.length) rfl rfl Try.underlying100 ti110 (.inr ⟨_, _, rfl, icast rfl (by omega), (by omega)⟩) (.inr ⟨_, _, rfl, icast rfl (by omega), (by omega)⟩) (.inr ⟨_, _, rfl, icast rfl (by omega), (by omega)⟩) ?_
 obtain ⟨ys13, ay13, cut13, hys13, hlys13, eay13⟩ : ∃ ys_ ay_, (∀ {L : List Res}, RdS W L e_ItA a xs → RdS W L e_ItA ay_ ys_) ∧ ys_ = sub xs i j ∧ ys_.length = j - i ∧ cutA a xs.length i 5 = ay_ := ⟨_, _, fun h => rds_cut e_ItA_ok h _ _ _ (by omega), rfl, sub_len (by omega), rfl⟩
 refine l_eq (t := 13) (v' := .slice ay13 ys13.length (xs.length - i)) rfl (by rw [eay13, hlys13]) ?_
 refine l_nil (q_then (c_seq (c_seq (c_region (o_move rfl rfl (o_move rfl rfl ?_))))))
 refine o_bin rfl rfl rfl b_eql ?_
 refine l_eq (t := 16) (v' := .bool false) rfl (show _ = Value.bool false from by rw [decide_eq_false (by omega)]) ?_
 refine l_nil (q_then (c_false rfl (c_skip (q_then (c_seq (c_region (o_move rfl rfl ?_)))))))
 refine o_len rfl rfl Try.underlying100 ?_
 refine o_assign rfl rfl (l_nil (q_then (c_seq ?_)))
 refine c_held [] (by kernel_rfl) rfl ?_
 refine h_take 0 rfl rfl (by kernel_rfl) (by kernel_rfl) (by kernel_rfl) (fun L0 => v_move rfl rfl) ?_
 refine h_take 1 rfl rfl (by kernel_rfl) (by kernel_rfl) (by kernel_rfl) (fun L0 => v_move rfl rfl) ?_
 refine h_take 2 rfl rfl (by kernel_rfl) (by kernel_rfl) (by kernel_rfl) (fun L0 => v_cut (l' := 0) (h' := i) (m := c) rfl rfl Try.underlying100 ti110 (.inl ⟨rfl, rfl⟩) (.inr ⟨_, _, rfl, icast rfl (by omega), (by omega)⟩) (.inl ⟨rfl, rfl⟩)) ?_
 obtain ⟨ys22, ay22, cut22, hys22, hlys22, eay22⟩ : ∃ ys_ ay_, (∀ {L : List Res}, RdS W L e_ItA a xs → RdS W L e_ItA ay_ ys_) ∧ ys_ = sub xs 0 i ∧ ys_.length = i - 0 ∧ cutA a c 0 5 = ay_ := ⟨_, _, fun h => rds_cut e_ItA_ok h _ _ _ (by omega), rfl, sub_len (by omega), rfl⟩
 refine h_eq (t := 22) (v' := .slice ay22 ys22.length (c - 0)) rfl (by rw [eay22, hlys22]) ?_
 refine h_take 3 rfl rfl (by kernel_rfl) (by kernel_rfl) (by kernel_rfl) (fun L0 => v_move rfl rfl) ?_
 refine h_take 4 rfl rfl (by kernel_rfl) (by kernel_rfl) (by kernel_rfl) (fun L0 => v_move rfl rfl) ?_
 refine h_take 5 rfl rfl (by kernel_rfl) (by kernel_rfl) (by kernel_rfl) (fun L0 => v_cut (l' := j) (h' := ((xs).length)) (m := c) rfl rfl Try.underlying100 ti110 (.inl ⟨rfl, rfl⟩) (.inl ⟨rfl, rfl, rfl⟩) (.inr ⟨_, _, rfl, icast rfl (by omega), (by omega)⟩)) ?_
 obtain ⟨ys25, ay25, cut25, hys25, hlys25, eay25⟩ : ∃ ys_ ay_, (∀ {L : List Res}, RdS W L e_ItA a xs → RdS W L e_ItA ay_ ys_) ∧ ys_ = sub xs j ((xs).length) ∧ ys_.length = ((xs).length) - j ∧ cutA a c j 5 = ay_ := ⟨_, _, fun h => rds_cut e_ItA_ok h _ _ _ (by omega), rfl, sub_len (by omega), rfl⟩
 refine h_eq (t := 25) (v' := .slice ay25 ys25.length (c - j)) rfl (by rw [eay25, hlys25]) ?_
 refine h_one 6 rfl (by kernel_rfl) ?_
 refine o_appendIn e_ItA_ok eay22 hys22 (by omega) rfl rfl rfl Try.underlying100 (cut25 (rds_own e_ItA_ok 0 rfl)) (by omega) (by rw [hlys22, hlys25]; omega) (by rw [← eay25, eadr]; unfold cutA; split <;> simp) ?_
 refine l_nil (h_next ?_)
 refine h_take 7 rfl rfl (by kernel_rfl) (by kernel_rfl) (by kernel_rfl) (fun L0 => v_assign rfl rfl) ?_
 refine h_done (by kernel_rfl) ?_
 refine q_then (c_seq (c_region (o_move rfl rfl (o_move rfl rfl ?_))))
 refine o_len rfl rfl Try.underlying100 ?_
 refine o_move rfl rfl ?_
 have hl2 : (ys22 ++ ys25).length = i + (xs.length - j) := by rw [List.length_append, hlys22, hlys25]; omega
 refine o_cut (l' := (ys22 ++ ys25).length) (h' := xs.length) (m := c) rfl rfl Try.underlying100 ti110 (.inl ⟨rfl, rfl⟩) (.inr ⟨_, _, rfl, rfl, (by omega)⟩) (.inr ⟨_, _, rfl, rfl, (by omega)⟩) ?_
 refine o_clearTail_ (lo := (ys22 ++ ys25).length) (n := (xs.length - (ys22 ++ ys25).length)) e_ItA_ok rfl Try.underlying100 (by omega) (by omega) (by omega) (fun v hv => e_ItA_ok.one (⟨ByteArray.empty, ⟨false, ⟨none, [], 0⟩, 0, 0⟩⟩ : ItA) v hv) ?_
 refine l_nil (q_then (c_seq (c_region (o_move rfl rfl (o_assign rfl rfl (l_nil (q_then (c_ret ?_))))))))
 have hend : ys22 ++ ys25 = (xs.take i ++ xs.drop j) := by rw [hys22, hys25]; simp [sub]
 exact f_ret (r_one rfl rfl) (⟨by rw [hend] <;> rfl, rfl⟩) (fun w S => by rw [hend] at S; exact S)
theorem delK_A {W : World} {F : List Res} {xs : List Nat} {a : Option Addr} {c i j : Nat} (hij : i < j) (hj : j ≤ xs.length) (hn : xs.length ≤ 1000) : CS Try.prog 79 #[.slice a (xs).length c, .int .i64 (i : Int), .int .i64 (j : Int)] W (row eN99.T eN99.sz a (xs).length c (flat eN99 xs) :: F) (fun r L' => r = .slice a (xs.take i ++ xs.drop j).length c ∧ L' = row eN99.T eN99.sz a ((xs.take i ++ xs.drop j)).length c (flat eN99 (xs.take i ++ xs.drop j)) :: F) := by
 refine f_door (l0 := [(0, .slice a (xs).length c), (1, .int .i64 (i : Int)), (2, .int .i64 (j : Int))]) Try.func79 Try.ntmps79 rfl rfl rfl ?_
 refine c_seq (c_region (o_assign rfl rfl (l_nil (q_then (c_seq ?_)))))
 refine c_rowcap ?_
 intro hrc
 simp only [maxLen] at hrc
 refine c_fact (p := ∃ ad, a = some ad) (rds_some (e := eN99) (xs := xs) (rds_own eN99_ok 0 rfl) (by intro h0; rw [h0] at hj; simp at hj; omega)) ?_
 rintro ⟨adr, eadr⟩
 refine c_region (o_move rfl rfl (o_move rfl rfl (o_move rfl rfl (o_move rfl rfl ?_))))
 refine o_len rfl rfl Try.underlying101 ?_
 refine o_cut (l' := i) (h' := j) (m := xs.length) rfl rfl Try.underlying101 ti99 (.inr ⟨_, _, rfl, icast rfl (by omega), (by omega)⟩) (.inr ⟨_, _, rfl, icast rfl (by omega), (by omega)⟩) (.inr ⟨_, _, rfl, icast rfl (by omega), (by omega)⟩) ?_
 obtain ⟨ys13, ay13, cut13, hys13, hlys13, eay13⟩ : ∃ ys_ ay_, (∀ {L : List Res}, RdS W L eN99 a xs → RdS W L eN99 ay_ ys_) ∧ ys_ = sub xs i j ∧ ys_.length = j - i ∧ cutA a xs.length i 1 = ay_ := ⟨_, _, fun h => rds_cut eN99_ok h _ _ _ (by omega), rfl, sub_len (by omega), rfl⟩
 refine l_eq (t := 13) (v' := .slice ay13 ys13.length (xs.length - i)) rfl (by rw [eay13, hlys13]) ?_
 refine l_nil (q_then (c_seq (c_seq (c_region (o_move rfl rfl (o_move rfl rfl ?_))))))
 refine o_bin rfl rfl rfl b_eql ?_
 refine l_eq (t := 16) (v' := .bool false) rfl (show _ = Value.bool false from by rw [decide_eq_false (by omega)]) ?_
 refine l_nil (q_then (c_false rfl (c_skip (q_then (c_seq (c_region (o_move rfl rfl ?_)))))))
 refine o_len rfl rfl Try.underlying101 ?_
 refine o_assign rfl rfl (l_nil (q_then (c_seq ?_)))
 refine c_held [] (by kernel_rfl) rfl ?_
 refine h_take 0 rfl rfl (by kernel_rfl) (by kernel_rfl) (by kernel_rfl) (fun L0 => v_move rfl rfl) ?_
 refine h_take 1 rfl rfl (by kernel_rfl) (by kernel_rfl) (by kernel_rfl) (fun L0 => v_move rfl rfl) ?_
 refine h_take 2 rfl rfl (by kernel_rfl) (by kernel_rfl) (by kernel_rfl) (fun L0 => v_cut (l' := 0) (h' := i) (m := c) rfl rfl Try.underlying101 ti99 (.inl ⟨rfl, rfl⟩) (.inr ⟨_, _, rfl, icast rfl (by omega), (by omega)⟩) (.inl ⟨rfl, rfl⟩)) ?_
 obtain ⟨ys22, ay22, cut22, hys22, hlys22, eay22⟩ : ∃ ys_ ay_, (∀ {L : List Res}, RdS W L eN99 a xs → RdS W L eN99 ay_ ys_) ∧ ys_ = sub xs 0 i ∧ ys_.length = i - 0 ∧ cutA a c 0 1 = ay_ := ⟨_, _, fun h => rds_cut eN99_ok h _ _ _ (by omega), rfl, sub_len (by omega), rfl⟩
 refine h_eq (t := 22) (v' := .slice ay22 ys22.length (c - 0)) rfl (by rw [eay22, hlys22]) ?_
 refine h_take 3 rfl rfl (by kernel_rfl) (by kernel_rfl) (by kernel_rfl) (fun L0 => v_move rfl rfl) ?_
 refine h_take 4 rfl rfl (by kernel_rfl) (by kernel_rfl) (by kernel_rfl) (fun L0 => v_move rfl rfl) ?_
 refine h_take 5 rfl rfl (by kernel_rfl) (by kernel_rfl) (by kernel_rfl) (fun L0 => v_cut (l' := j) (h' := ((xs).length)) (m := c) rfl rfl Try.underlying101 ti99 (.inl ⟨rfl, rfl⟩) (.inl ⟨rfl, rfl, rfl⟩) (.inr ⟨_, _, rfl, icast rfl (by omega), (by omega)⟩)) ?_
 obtain ⟨ys25, ay25, cut25, hys25, hlys25, eay25⟩ : ∃ ys_ ay_, (∀ {L : List Res}, RdS W L eN99 a xs → RdS W L eN99 ay_ ys_) ∧ ys_ = sub xs j ((xs).length) ∧ ys_.length = ((xs).length) - j ∧ cutA a c j 1 = ay_ := ⟨_, _, fun h => rds_cut eN99_ok h _ _ _ (by omega), rfl, sub_len (by omega), rfl⟩
 refine h_eq (t := 25) (v' := .slice ay25 ys25.length (c - j)) rfl (by rw [eay25, hlys25]) ?_
 refine h_one 6 rfl (by kernel_rfl) ?_
 refine o_appendIn eN99_ok eay22 hys22 (by omega) rfl rfl rfl Try.underlying101 (cut25 (rds_own eN99_ok 0 rfl)) (by omega) (by rw [hlys22, hlys25]; omega) (by rw [← eay25, eadr]; unfold cutA; split <;> simp) ?_
 refine l_nil (h_next ?_)
 refine h_take 7 rfl rfl (by kernel_rfl) (by kernel_rfl) (by kernel_rfl) (fun L0 => v_assign rfl rfl) ?_
 refine h_done (by kernel_rfl) ?_
 refine q_then (c_seq (c_region (o_move rfl rfl (o_move rfl rfl ?_))))
 refine o_len rfl rfl Try.underlying101 ?_
 refine o_move rfl rfl ?_
 have hl2 : (ys22 ++ ys25).length = i + (xs.length - j) := by rw [List.length_append, hlys22, hlys25]; omega
 refine o_cut (l' := (ys22 ++ ys25).length) (h' := xs.length) (m := c) rfl rfl Try.underlying101 ti99 (.inl ⟨rfl, rfl⟩) (.inr ⟨_, _, rfl, rfl, (by omega)⟩) (.inr ⟨_, _, rfl, rfl, (by omega)⟩) ?_
 refine o_clearTail_ (lo := (ys22 ++ ys25).length) (n := (xs.length - (ys22 ++ ys25).length)) eN99_ok rfl Try.underlying101 (by omega) (by omega) (by omega) (by intro v hv; simp [Value.cells] at hv; subst hv; rfl) ?_
 refine l_nil (q_then (c_seq (c_region (o_move rfl rfl (o_assign rfl rfl (l_nil (q_then (c_ret ?_))))))))
 have hend : ys22 ++ ys25 = (xs.take i ++ xs.drop j) := by rw [hys22, hys25]; simp [sub]
 exact f_ret (r_one rfl rfl) (⟨by rw [hend] <;> rfl, rfl⟩) (fun w S => by rw [hend] at S; exact S)
end
section
set_option linter.unusedVariables false
set_option linter.unusedSimpArgs false
set_option maxRecDepth 10000
open Go.RowKit Classical
set_option maxHeartbeats 1000000 in
theorem insI_A {W : World} {F : List Res} {xs : List ItA} {x : ItA} {a a2 : Option Addr} {c c2 i : Nat} (hi : i ≤ xs.length) (hn : xs.length ≤ 1000) : CS Try.prog 74 #[.slice a xs.length c, .int .i64 (i : Int), .slice a2 ([x]).length c2] W (row e_ItA.T e_ItA.sz a (xs).length c (flat e_ItA xs) :: row e_ItA.T e_ItA.sz a2 ([x]).length c2 (flat e_ItA [x]) :: F) (fun r L' => ∃ (a' : Option Addr) (c' : Nat), r = .slice a' (xs.take i ++ x :: xs.drop i).length c' ∧ L' = row e_ItA.T e_ItA.sz a' ((xs.take i ++ x :: xs.drop i)).length c' (flat e_ItA (xs.take i ++ x :: xs.drop i)) :: F) := by
 refine f_door (l0 := [(0, .slice a xs.length c), (1, .int .i64 (i : Int)), (2, .slice a2 ([x]).length c2)]) Try.func74 Try.ntmps74 rfl rfl rfl ?_
 refine c_seq (c_region (o_assign rfl rfl (l_nil (q_then (c_seq ?_)))))
 refine c_rowcap ?_
 intro hrc
 simp only [maxLen] at hrc
 refine c_region (o_move rfl rfl (o_move rfl rfl ?_))
 refine o_cut (l' := i) (h' := ((xs).length)) (m := c) rfl rfl Try.underlying100 ti110 (.inl ⟨rfl, rfl⟩) (.inl ⟨rfl, rfl, rfl⟩) (.inr ⟨_, _, rfl, icast rfl (by omega), (by omega)⟩) ?_
 obtain ⟨ys12, ay12, cut12, hys12, hlys12, eay12⟩ : ∃ ys_ ay_, (∀ {L : List Res}, RdS W L e_ItA a xs → RdS W L e_ItA ay_ ys_) ∧ ys_ = sub xs i ((xs).length) ∧ ys_.length = ((xs).length) - i ∧ cutA a c i 5 = ay_ := ⟨_, _, fun h => rds_cut e_ItA_ok h _ _ _ (by omega), rfl, sub_len (by omega), rfl⟩
 refine l_eq (t := 12) (v' := .slice ay12 ys12.length (c - i)) rfl (by rw [eay12, hlys12]) ?_
 refine l_nil (q_then (c_seq (c_region (o_move rfl rfl ?_))))
 refine o_len rfl rfl Try.underlying100 ?_
 refine o_assign rfl rfl (l_nil (q_then (c_seq (c_seq (c_region (o_move rfl rfl ?_))))))
 refine o_bin rfl rfl rfl b_eql ?_
 refine l_eq (t := 16) (v' := .bool false) rfl (show _ = Value.bool false from by simp) ?_
 refine l_nil (q_then (c_false rfl (c_skip (q_then (c_seq (c_region (o_move rfl rfl ?_)))))))
 refine o_len rfl rfl Try.underlying100 ?_
 refine o_assign rfl rfl (l_nil (q_then (c_seq (c_seq (c_region (o_move rfl rfl (o_move rfl rfl ?_)))))))
 refine o_bin rfl rfl rfl b_eql ?_
 refine l_nil (q_then ?_)
 refine c_cond rfl (fun h1 => ?_) (fun h1 => ?_)
 · -- h1T
  have h1b := h1
  try simp only [decide_eq_true_eq] at h1
  have hend : xs ++ [x] = xs.take i ++ x :: xs.drop i := by rw [List.take_of_length_le (by omega), List.drop_of_length_le (by omega)]
  refine c_seq (c_region (o_move rfl rfl (o_move rfl rfl ?_)))
  refine o_append e_ItA_ok rfl rfl rfl Try.underlying100 (rds_own e_ItA_ok 1 rfl) (by show (_ + _) * 64 ≤ _; (try simp only [List.length_append, List.length_cons, List.length_nil]); omega) (by (try simp only [List.length_append, List.length_cons, List.length_nil]); omega) fun a25 c25 => ?_
  refine o_assign rfl rfl (l_nil (q_then (c_ret (q_pass_ret (qP p1 (qT ?_))))))
  exact f_ret (r_one rfl rfl) (⟨a25, c25, by (rw [hend]; first | done | rfl), rfl⟩) (fun w S => by rw [hend] at S; exact S)
 · -- h1F
  have h1b := h1
  try simp only [decide_eq_false_iff_not, Int.not_lt, Int.not_le] at h1
  have hlt : i < xs.length := by omega
  have hlen : (xs.take i ++ x :: xs.drop i).length = xs.length + 1 := by rw [List.length_append, List.length_take, List.length_cons, List.length_drop]; omega
  have hfl : (flat e_ItA xs).length = xs.length * 5 := flat_length e_ItA_ok xs
  have hf1 : (flat e_ItA [x]).length = 1 * 5 := flat_length e_ItA_ok [x]
  refine c_skip (q_then (c_seq (c_seq ?_)))
  refine c_conv (L' := row 110 5 a xs.length c (flat e_ItA xs) :: _) (fun w S => S) ?_
  refine c_region (o_move rfl rfl (o_move rfl rfl ?_))
  refine o_bin rfl rfl rfl (b_add (show IntKind.i64.wrap ((xs.length : Int) + (([x] : List ItA).length : Int)) = ((xs.length + 1 : Nat) : Int) from by rw [wrap_i64 (by (try simp only [List.length_cons, List.length_nil]); omega) (by (try simp only [List.length_cons, List.length_nil]); omega)]; (try simp only [List.length_cons, List.length_nil]); omega)) ?_
  refine o_move rfl rfl ?_
  refine o_cap rfl rfl Try.underlying100 ?_
  refine o_bin rfl rfl rfl b_gtr ?_
  refine l_nil (q_then ?_)
  refine c_cond rfl (fun h2 => ?_) (fun h2 => ?_)
  · -- h2T
   have h2b := h2
   try simp only [decide_eq_true_eq] at h2
   have hft : (flat e_ItA (xs.take i)).length = i * 5 := by rw [flat_length e_ItA_ok, List.length_take, Nat.min_eq_left hi]; first | done | rfl
   refine c_seq (c_region (o_move rfl rfl (o_move rfl rfl ?_)))
   refine o_cut (l' := 0) (h' := i) (m := c) rfl rfl Try.underlying100 ti110 (.inl ⟨rfl, rfl⟩) (.inr ⟨_, _, rfl, icast rfl (by omega), (by omega)⟩) (.inl ⟨rfl, rfl⟩) ?_
   refine l_eq (t := 34) (v' := .slice a i c) rfl (by first | (rw [cutA_0]; done) | (rw [cutA_0]; rfl)) ?_
   refine o_move rfl rfl (o_move rfl rfl ?_)
   refine o_bin rfl rfl rfl (b_add (show IntKind.i64.wrap ((xs.length : Int) + (([x] : List ItA).length : Int)) = ((xs.length + 1 : Nat) : Int) from by rw [wrap_i64 (by (try simp only [List.length_cons, List.length_nil]); omega) (by (try simp only [List.length_cons, List.length_nil]); omega)]; (try simp only [List.length_cons, List.length_nil]); omega)) ?_
   refine o_move rfl rfl ?_
   refine o_bin rfl rfl rfl (b_sub (show IntKind.i64.wrap (((xs.length + 1 : Nat) : Int) - (i : Int)) = ((xs.length + 1 - i : Nat) : Int) from by rw [wrap_i64 (by (try simp only [List.length_cons, List.length_nil]); omega) (by (try simp only [List.length_cons, List.length_nil]); omega)]; (try simp only [List.length_cons, List.length_nil]); omega)) ?_
   refine o_appendZ (e := e_ItA) (xs := xs) (i := i) (k := (xs.length + 1 - i)) (n := (xs.length + 1)) e_ItA_ok (by omega) rfl (cutA_0 _ _ _) rfl rfl Try.underlying100 Try.underlying3 (by omega) (by omega) (by omega) (by show _ * 64 ≤ _; omega) (by omega) fun a40 c40 zs40 hz40 => ?_
   refine o_assign rfl rfl (l_nil (q_then (c_seq (c_region (o_move rfl rfl (o_move rfl rfl ?_))))))
   refine o_cut (l' := i) (h' := (xs.length + 1)) (m := c40) rfl rfl Try.underlying100 ti110 (.inl ⟨rfl, rfl⟩) (.inl ⟨rfl, rfl, rfl⟩) (.inr ⟨_, _, rfl, icast rfl (by omega), (by omega)⟩) ?_
   refine o_move rfl rfl ?_
   refine o_copy (T := 110) (sz := 5) (lo := i) (k := 1) (ds := (flat e_ItA [x])) rfl rfl rfl Try.underlying100 ti110 (by simp [Nat.min_def]; omega) (by omega) hf1 (rdO_of (rds_own e_ItA_ok 2 rfl) (by simp)) (by omega) (flat_one e_ItA_ok [x]) ?_
   refine l_nil (q_then (c_seq (cP p2 (cP p2 ?_))))
   refine c_held [row 110 5 a xs.length c (flat e_ItA xs), row e_ItA.T e_ItA.sz a2 ([x]).length c2 (flat e_ItA [x])] (by kernel_rfl) rfl ?_
   refine h_take 0 rfl rfl (by kernel_rfl) (by kernel_rfl) (by kernel_rfl) (fun L0 => v_move rfl rfl) ?_
   refine h_take 1 rfl rfl (by kernel_rfl) (by kernel_rfl) (by kernel_rfl) (fun L0 => v_move rfl rfl) ?_
   refine h_take 2 rfl rfl (by kernel_rfl) (by kernel_rfl) (by kernel_rfl) (fun L0 => v_move rfl rfl) ?_
   refine h_take 3 rfl rfl (by kernel_rfl) (by kernel_rfl) (by kernel_rfl) (fun L0 => v_bin rfl rfl rfl (b_add (show IntKind.i64.wrap ((i : Int) + (([x] : List ItA).length : Int)) = ((i + 1 : Nat) : Int) from by rw [wrap_i64 (by (try simp only [List.length_cons, List.length_nil]); omega) (by (try simp only [List.length_cons, List.length_nil]); omega)]; (try simp only [List.length_cons, List.length_nil]); omega))) ?_
   refine h_take 4 rfl rfl (by kernel_rfl) (by kernel_rfl) (by kernel_rfl) (fun L0 => v_cut (l' := (i + 1)) (h' := (xs.length + 1)) (m := c40) rfl rfl Try.underlying100 ti110 (.inl ⟨rfl, rfl⟩) (.inl ⟨rfl, rfl, rfl⟩) (.inr ⟨_, _, rfl, icast rfl (by omega), (by omega)⟩)) ?_
   refine h_take 5 rfl rfl (by kernel_rfl) (by kernel_rfl) (by kernel_rfl) (fun L0 => v_move rfl rfl) ?_
   refine h_take 6 rfl rfl (by kernel_rfl) (by kernel_rfl) (by kernel_rfl) (fun L0 => v_move rfl rfl) ?_
   refine h_take 7 rfl rfl (by kernel_rfl) (by kernel_rfl) (by kernel_rfl) (fun L0 => v_cut (l' := i) (h' := xs.length) (m := c) rfl rfl Try.underlying100 ti110 (.inl ⟨rfl, rfl⟩) (.inl ⟨rfl, rfl, rfl⟩) (.inr ⟨_, _, rfl, icast rfl (by omega), (by omega)⟩)) ?_
   refine h_one 8 rfl (by kernel_rfl) ?_
   refine l_f2 ?_
   refine o_copy (T := 110) (sz := 5) (lo := (i + 1)) (k := (xs.length - i)) (ds := (((flat e_ItA xs).drop (i * 5)).take ((xs.length - i) * 5))) rfl rfl rfl Try.underlying100 ti110 (by simp only [Nat.min_def]; split <;> omega) (by omega) (by (try simp only [List.length_take, List.length_drop, List.length_append]); omega) (rdO_row 1 rfl (by omega) (by omega)) (by omega) (fun v hv => flat_one e_ItA_ok xs v (List.mem_of_mem_drop (List.mem_of_mem_take hv))) ?_
   refine l_nil (qP p2 (qP p2 (h_next ?_)))
   refine h_done (by kernel_rfl) ?_
   refine q_then (c_seq (c_region (o_move rfl rfl (o_assign rfl rfl (l_nil (q_then (c_ret (q_pass_ret (qT ?_)))))))))
   refine qT ?_
   exact f_ret (r_one rfl rfl) (⟨a40, c40, by (rw [hlen]; first | done | rfl), rfl⟩) (fun w S => by have h9 := ins_raw2 e_ItA_ok (xs := xs) (x := x) (i := i) hlt hz40; rw [← h9, hlen]; exact S)
  · -- h2F
   have h2b := h2
   try simp only [decide_eq_false_iff_not, Int.not_lt, Int.not_le] at h2
   refine c_skip (q_then (c_seq ?_))
   refine c_more 1 (by omega) (by omega) ?_
   intro js hjs
   refine c_region (o_move rfl rfl (o_move rfl rfl (o_move rfl rfl ?_)))
   refine o_bin rfl rfl rfl (b_add (show IntKind.i64.wrap ((xs.length : Int) + (([x] : List ItA).length : Int)) = ((xs.length + 1 : Nat) : Int) from by rw [wrap_i64 (by (try simp only [List.length_cons, List.length_nil]); omega) (by (try simp only [List.length_cons, List.length_nil]); omega)]; (try simp only [List.length_cons, List.length_nil]); omega)) ?_
   refine o_cut (l' := 0) (h' := (xs.length + 1)) (m := c) rfl rfl Try.underlying100 ti110 (.inl ⟨rfl, rfl⟩) (.inr ⟨_, _, rfl, icast rfl (by omega), (by omega)⟩) (.inl ⟨rfl, rfl⟩) ?_
   refine l_eq (t := 60) (v' := .slice a (xs.length + 1) c) rfl (by first | (rw [cutA_0]; done) | (rw [cutA_0]; rfl)) ?_
   refine o_assign rfl rfl (l_nil (q_then (c_seq (c_seq (c_region (o_move rfl rfl (o_move rfl rfl (o_move rfl rfl (o_move rfl rfl ?_)))))))))
   refine o_bin rfl rfl rfl (b_add (show IntKind.i64.wrap ((i : Int) + (([x] : List ItA).length : Int)) = ((i + 1 : Nat) : Int) from by rw [wrap_i64 (by (try simp only [List.length_cons, List.length_nil]); omega) (by (try simp only [List.length_cons, List.length_nil]); omega)]; (try simp only [List.length_cons, List.length_nil]); omega)) ?_
   refine o_cut (l' := (i + 1)) (h' := (xs.length + 1)) (m := c) rfl rfl Try.underlying100 ti110 (.inl ⟨rfl, rfl⟩) (.inl ⟨rfl, rfl, rfl⟩) (.inr ⟨_, _, rfl, icast rfl (by omega), (by omega)⟩) ?_
   refine l_conv (fun w S => S.perm p1) ?_
   refine o_overlaps (f := 80) (tS := 100) (tR := 4) (sz := 5) (lo := (i + 1)) rfl rfl rfl Try.func80 (by kernel_rfl) (by kernel_rfl) (by kernel_rfl) (by kernel_rfl) Try.underlying100 ti110 (by decide) (by simp) (by omega) ?_
   refine o_not rfl rfl ?_
   refine l_nil (q_then (c_true rfl (c_seq ?_)))
   refine c_held [row e_ItA.T e_ItA.sz a2 ([x]).length c2 (flat e_ItA [x])] (by kernel_rfl) rfl ?_
   refine h_take 0 rfl rfl (by kernel_rfl) (by kernel_rfl) (by kernel_rfl) (fun L0 => v_move rfl rfl) ?_
   refine h_take 1 rfl rfl (by kernel_rfl) (by kernel_rfl) (by kernel_rfl) (fun L0 => v_move rfl rfl) ?_
   refine h_take 2 rfl rfl (by kernel_rfl) (by kernel_rfl) (by kernel_rfl) (fun L0 => v_move rfl rfl) ?_
   refine h_take 3 rfl rfl (by kernel_rfl) (by kernel_rfl) (by kernel_rfl) (fun L0 => v_bin rfl rfl rfl (b_add (show IntKind.i64.wrap ((i : Int) + (([x] : List ItA).length : Int)) = ((i + 1 : Nat) : Int) from by rw [wrap_i64 (by (try simp only [List.length_cons, List.length_nil]); omega) (by (try simp only [List.length_cons, List.length_nil]); omega)]; (try simp only [List.length_cons, List.length_nil]); omega))) ?_
   refine h_take 4 rfl rfl (by kernel_rfl) (by kernel_rfl) (by kernel_rfl) (fun L0 => v_cut (l' := (i + 1)) (h' := (xs.length + 1)) (m := c) rfl rfl Try.underlying100 ti110 (.inl ⟨rfl, rfl⟩) (.inl ⟨rfl, rfl, rfl⟩) (.inr ⟨_, _, rfl, icast rfl (by omega), (by omega)⟩)) ?_
   refine h_take 5 rfl rfl (by kernel_rfl) (by kernel_rfl) (by kernel_rfl) (fun L0 => v_move rfl rfl) ?_
   refine h_take 6 rfl rfl (by kernel_rfl) (by kernel_rfl) (by kernel_rfl) (fun L0 => v_move rfl rfl) ?_
   refine h_take 7 rfl rfl (by kernel_rfl) (by kernel_rfl) (by kernel_rfl) (fun L0 => v_cut (l' := i) (h' := (xs.length + 1)) (m := c) rfl rfl Try.underlying100 ti110 (.inl ⟨rfl, rfl⟩) (.inl ⟨rfl, rfl, rfl⟩) (.inr ⟨_, _, rfl, icast rfl (by omega), (by omega)⟩)) ?_
   refine h_one 8 rfl (by kernel_rfl) ?_
   refine l_f1 ?_
   refine o_copy (T := 110) (sz := 5) (lo := (i + 1)) (k := (xs.length - i)) (ds := (((flat e_ItA xs ++ js).drop (i * 5)).take ((xs.length - i) * 5))) rfl rfl rfl Try.underlying100 ti110 (by simp only [Nat.min_def]; split <;> omega) (by omega) (by (try simp only [List.length_take, List.length_drop, List.length_append]); omega) (rdO_row 0 rfl (by omega) (by omega)) (by omega) (fun v hv => by have h8 := List.mem_of_mem_take hv; rw [List.drop_append_of_le_length (by omega), ] at hv; rw [List.take_append_of_le_length (by rw [List.length_drop]; omega)] at hv; exact flat_one e_ItA_ok xs v (List.mem_of_mem_drop (List.mem_of_mem_take hv))) ?_
   refine l_nil (qP p1 (h_next ?_))
   refine h_done (by kernel_rfl) ?_
   refine q_then (c_seq (c_region (o_move rfl rfl (o_move rfl rfl ?_))))
   refine o_cut (l' := i) (h' := (xs.length + 1)) (m := c) rfl rfl Try.underlying100 ti110 (.inl ⟨rfl, rfl⟩) (.inl ⟨rfl, rfl, rfl⟩) (.inr ⟨_, _, rfl, icast rfl (by omega), (by omega)⟩) ?_
   refine o_move rfl rfl (l_f1 ?_)
   refine o_copy (T := 110) (sz := 5) (lo := i) (k := 1) (ds := (flat e_ItA [x])) rfl rfl rfl Try.underlying100 ti110 (by simp [Nat.min_def]; omega) (by omega) hf1 (rdO_of (rds_own e_ItA_ok 1 rfl) (by simp)) (by omega) (flat_one e_ItA_ok [x]) ?_
   refine l_nil (q_then (c_seq (c_region (o_move rfl rfl (o_assign rfl rfl (l_nil (q_then (c_ret (q_pass_ret ?_)))))))))
   refine qP p1 (qT ?_)
   exact f_ret (r_one rfl rfl) (⟨a, c, by (rw [hlen]; first | done | rfl), rfl⟩) (fun w S => by have h9 := ins_raw e_ItA_ok (xs := xs) (x := x) (i := i) hlt hjs rfl; rw [← h9, hlen]; exact S)
set_option maxHeartbeats 1000000 in
theorem insK_A {W : World} {F : List Res} {xs : List Nat} {x : Nat} {a a2 : Option Addr} {c c2 i : Nat} (hi : i ≤ xs.length) (hn : xs.length ≤ 1000) : CS Try.prog 75 #[.slice a xs.length c, .int .i64 (i : Int), .slice a2 ([x]).length c2] W (row eN99.T eN99.sz a (xs).length c (flat eN99 xs) :: row eN99.T eN99.sz a2 ([x]).length c2 (flat eN99 [x]) :: F) (fun r L' => ∃ (a' : Option Addr) (c' : Nat), r = .slice a' (xs.take i ++ x :: xs.drop i).length c' ∧ L' = row eN99.T eN99.sz a' ((xs.take i ++ x :: xs.drop i)).length c' (flat eN99 (xs.take i ++ x :: xs.drop i)) :: F) := by
 refine f_door (l0 := [(0, .slice a xs.length c), (1, .int .i64 (i : Int)), (2, .slice a2 ([x]).length c2)]) Try.func75 Try.ntmps75 rfl rfl rfl ?_
 refine c_seq (c_region (o_assign rfl rfl (l_nil (q_then (c_seq ?_)))))
 refine c_rowcap ?_
 intro hrc
 simp only [maxLen] at hrc
 refine c_region (o_move rfl rfl (o_move rfl rfl ?_))
 refine o_cut (l' := i) (h' := ((xs).length)) (m := c) rfl rfl Try.underlying101 ti99 (.inl ⟨rfl, rfl⟩) (.inl ⟨rfl, rfl, rfl⟩) (.inr ⟨_, _, rfl, icast rfl (by omega), (by omega)⟩) ?_
 obtain ⟨ys12, ay12, cut12, hys12, hlys12, eay12⟩ : ∃ ys_ ay_, (∀ {L : List Res}, RdS W L eN99 a xs → RdS W L eN99 ay_ ys_) ∧ ys_ = sub xs i ((xs).length) ∧ ys_.length = ((xs).length) - i ∧ cutA a c i 1 = ay_ := ⟨_, _, fun h => rds_cut eN99_ok h _ _ _ (by omega), rfl, sub_len (by omega), rfl⟩
 refine l_eq (t := 12) (v' := .slice ay12 ys12.length (c - i)) rfl (by rw [eay12, hlys12]) ?_
 refine l_nil (q_then (c_seq (c_region (o_move rfl rfl ?_))))
 refine o_len rfl rfl Try.underlying101 ?_
 refine o_assign rfl rfl (l_nil (q_then (c_seq (c_seq (c_region (o_move rfl rfl ?_))))))
 refine o_bin rfl rfl rfl b_eql ?_
 refine l_eq (t := 16) (v' := .bool false) rfl (show _ = Value.bool false from by simp) ?_
 refine l_nil (q_then (c_false rfl (c_skip (q_then (c_seq (c_region (o_move rfl rfl ?_)))))))
 refine o_len rfl rfl Try.underlying101 ?_
 refine o_assign rfl rfl (l_nil (q_then (c_seq (c_seq (c_region (o_move rfl rfl (o_move rfl rfl ?_)))))))
 refine o_bin rfl rfl rfl b_eql ?_
 refine l_nil (q_then ?_)
 refine c_cond rfl (fun h1 => ?_) (fun h1 => ?_)
 · -- h1T
  have h1b := h1
  try simp only [decide_eq_true_eq] at h1
  have hend : xs ++ [x] = xs.take i ++ x :: xs.drop i := by rw [List.take_of_length_le (by omega), List.drop_of_length_le (by omega)]
  refine c_seq (c_region (o_move rfl rfl (o_move rfl rfl ?_)))
  refine o_append eN99_ok rfl rfl rfl Try.underlying101 (rds_own eN99_ok 1 rfl) (by show (_ + _) * 8 ≤ _; (try simp only [List.length_append, List.length_cons, List.length_nil]); omega) (by (try simp only [List.length_append, List.length_cons, List.length_nil]); omega) fun a25 c25 => ?_
  refine o_assign rfl rfl (l_nil (q_then (c_ret (q_pass_ret (qP p1 (qT ?_))))))
  exact f_ret (r_one rfl rfl) (⟨a25, c25, by (rw [hend]; first | done | rfl), rfl⟩) (fun w S => by rw [hend] at S; exact S)
 · -- h1F
  have h1b := h1
  try simp only [decide_eq_false_iff_not, Int.not_lt, Int.not_le] at h1
  have hlt : i < xs.length := by omega
  have hlen : (xs.take i ++ x :: xs.drop i).length = xs.length + 1 := by rw [List.length_append, List.length_take, List.length_cons, List.length_drop]; omega
  have hfl : (flat eN99 xs).length = xs.length * 1 := flat_length eN99_ok xs
  have hf1 : (flat eN99 [x]).length = 1 * 1 := flat_length eN99_ok [x]
  refine c_skip (q_then (c_seq (c_seq ?_)))
  refine c_conv (L' := row 99 1 a xs.length c (flat eN99 xs) :: _) (fun w S => S) ?_
  refine c_region (o_move rfl rfl (o_move rfl rfl ?_))
  refine o_bin rfl rfl rfl (b_add (show IntKind.i64.wrap ((xs.length : Int) + (([x] : List Nat).length : Int)) = ((xs.length + 1 : Nat) : Int) from by rw [wrap_i64 (by (try simp only [List.length_cons, List.length_nil]); omega) (by (try simp only [List.length_cons, List.length_nil]); omega)]; (try simp only [List.length_cons, List.length_nil]); omega)) ?_
  refine o_move rfl rfl ?_
  refine o_cap rfl rfl Try.underlying101 ?_
  refine o_bin rfl rfl rfl b_gtr ?_
  refine l_nil (q_then ?_)
  refine c_cond rfl (fun h2 => ?_) (fun h2 => ?_)
  · -- h2T
   have h2b := h2
   try simp only [decide_eq_true_eq] at h2
   have hft : (flat eN99 (xs.take i)).length = i * 1 := by rw [flat_length eN99_ok, List.length_take, Nat.min_eq_left hi]; first | done | rfl
   refine c_seq (c_region (o_move rfl rfl (o_move rfl rfl ?_)))
   refine o_cut (l' := 0) (h' := i) (m := c) rfl rfl Try.underlying101 ti99 (.inl ⟨rfl, rfl⟩) (.inr ⟨_, _, rfl, icast rfl (by omega), (by omega)⟩) (.inl ⟨rfl, rfl⟩) ?_
   refine l_eq (t := 34) (v' := .slice a i c) rfl (by first | (rw [cutA_0]; done) | (rw [cutA_0]; rfl)) ?_
   refine o_move rfl rfl (o_move rfl rfl ?_)
   refine o_bin rfl rfl rfl (b_add (show IntKind.i64.wrap ((xs.length : Int) + (([x] : List Nat).length : Int)) = ((xs.length + 1 : Nat) : Int) from by rw [wrap_i64 (by (try simp only [List.length_cons, List.length_nil]); omega) (by (try simp only [List.length_cons, List.length_nil]); omega)]; (try simp only [List.length_cons, List.length_nil]); omega)) ?_
   refine o_move rfl rfl ?_
   refine o_bin rfl rfl rfl (b_sub (show IntKind.i64.wrap (((xs.length + 1 : Nat) : Int) - (i : Int)) = ((xs.length + 1 - i : Nat) : Int) from by rw [wrap_i64 (by (try simp only [List.length_cons, List.length_nil]); omega) (by (try simp only [List.length_cons, List.length_nil]); omega)]; (try simp only [List.length_cons, List.length_nil]); omega)) ?_
   refine o_appendZ (e := eN99) (xs := xs) (i := i) (k := (xs.length + 1 - i)) (n := (xs.length + 1)) eN99_ok (by omega) rfl (cutA_0 _ _ _) rfl rfl Try.underlying101 Try.underlying3 (by omega) (by omega) (by omega) (by show _ * 8 ≤ _; omega) (by omega) fun a40 c40 zs40 hz40 => ?_
   refine o_assign rfl rfl (l_nil (q_then (c_seq (c_region (o_move rfl rfl (o_move rfl rfl ?_))))))
   refine o_cut (l' := i) (h' := (xs.length + 1)) (m := c40) rfl rfl Try.underlying101 ti99 (.inl ⟨rfl, rfl⟩) (.inl ⟨rfl, rfl, rfl⟩) (.inr ⟨_, _, rfl, icast rfl (by omega), (by omega)⟩) ?_
   refine o_move rfl rfl ?_
   refine o_copy (T := 99) (sz := 1) (lo := i) (k := 1) (ds := (flat eN99 [x])) rfl rfl rfl Try.underlying101 ti99 (by simp [Nat.min_def]; omega) (by omega) hf1 (rdO_of (rds_own eN99_ok 2 rfl) (by simp)) (by omega) (flat_one eN99_ok [x]) ?_
   refine l_nil (q_then (c_seq (cP p2 (cP p2 ?_))))
   refine c_held [row 99 1 a xs.length c (flat eN99 xs), row eN99.T eN99.sz a2 ([x]).length c2 (flat eN99 [x])] (by kernel_rfl) rfl ?_
   refine h_take 0 rfl rfl (by kernel_rfl) (by kernel_rfl) (by kernel_rfl) (fun L0 => v_move rfl rfl) ?_
   refine h_take 1 rfl rfl (by kernel_rfl) (by kernel_rfl) (by kernel_rfl) (fun L0 => v_move rfl rfl) ?_
   refine h_take 2 rfl rfl (by kernel_rfl) (by kernel_rfl) (by kernel_rfl) (fun L0 => v_move rfl rfl) ?_
   refine h_take 3 rfl rfl (by kernel_rfl) (by kernel_rfl) (by kernel_rfl) (fun L0 => v_bin rfl rfl rfl (b_add (show IntKind.i64.wrap ((i : Int) + (([x] : List Nat).length : Int)) = ((i + 1 : Nat) : Int) from by rw [wrap_i64 (by (try simp only [List.length_cons, List.length_nil]); omega) (by (try simp only [List.length_cons, List.length_nil]); omega)]; (try simp only [List.length_cons, List.length_nil]); omega))) ?_
   refine h_take 4 rfl rfl (by kernel_rfl) (by kernel_rfl) (by kernel_rfl) (fun L0 => v_cut (l' := (i + 1)) (h' := (xs.length + 1)) (m := c40) rfl rfl Try.underlying101 ti99 (.inl ⟨rfl, rfl⟩) (.inl ⟨rfl, rfl, rfl⟩) (.inr ⟨_, _, rfl, icast rfl (by omega), (by omega)⟩)) ?_
   refine h_take 5 rfl rfl (by kernel_rfl) (by kernel_rfl) (by kernel_rfl) (fun L0 => v_move rfl rfl) ?_
   refine h_take 6 rfl rfl (by kernel_rfl) (by kernel_rfl) (by kernel_rfl) (fun L0 => v_move rfl rfl) ?_
   refine h_take 7 rfl rfl (by kernel_rfl) (by kernel_rfl) (by kernel_rfl) (fun L0 => v_cut (l' := i) (h' := xs.length) (m := c) rfl rfl Try.underlying101 ti99 (.inl ⟨rfl, rfl⟩) (.inl ⟨rfl, rfl, rfl⟩) (.inr ⟨_, _, rfl, icast rfl (by omega), (by omega)⟩)) ?_
   refine h_one 8 rfl (by kernel_rfl) ?_
   refine l_f2 ?_
   refine o_copy (T := 99) (sz := 1) (lo := (i + 1)) (k := (xs.length - i)) (ds := (((flat eN99 xs).drop (i * 1)).take ((xs.length - i) * 1))) rfl rfl rfl Try.underlying101 ti99 (by simp only [Nat.min_def]; split <;> omega) (by omega) (by (try simp only [List.length_take, List.length_drop, List.length_append]); omega) (rdO_row 1 rfl (by omega) (by omega)) (by omega) (fun v hv => flat_one eN99_ok xs v (List.mem_of_mem_drop (List.mem_of_mem_take hv))) ?_
   refine l_nil (qP p2 (qP p2 (h_next ?_)))
   refine h_done (by kernel_rfl) ?_
   refine q_then (c_seq (c_region (o_move rfl rfl (o_assign rfl rfl (l_nil (q_then (c_ret (q_pass_ret (qT ?_)))))))))
   refine qT ?_
   exact f_ret (r_one rfl rfl) (⟨a40, c40, by (rw [hlen]; first | done | rfl), rfl⟩) (fun w S => by have h9 := ins_raw2 eN99_ok (xs := xs) (x := x) (i := i) hlt hz40; rw [← h9, hlen]; exact S)
  · -- h2F
   have h2b := h2
   try simp only [decide_eq_false_iff_not, Int.not_lt, Int.not_le] at h2
   refine c_skip (q_then (c_seq ?_))
   refine c_more 1 (by omega) (by omega) ?_
   intro js hjs
   refine c_region (o_move rfl rfl (o_move rfl rfl (o_move rfl rfl ?_)))
   refine o_bin rfl rfl rfl (b_add (show IntKind.i64.wrap ((xs.length : Int) + (([x] : List Nat).length : Int)) = ((xs.length + 1 : Nat) : Int) from by rw [wrap_i64 (by (try simp only [List.length_cons, List.length_nil]); omega) (by (try simp only [List.length_cons, List.length_nil]); omega)]; (try simp only [List.length_cons, List.length_nil]); omega)) ?_
   refine o_cut (l' := 0) (h' := (xs.length + 1)) (m := c) rfl rfl Try.underlying101 ti99 (.inl ⟨rfl, rfl⟩) (.inr ⟨_, _, rfl, icast rfl (by omega), (by omega)⟩) (.inl ⟨rfl, rfl⟩) ?_
   refine l_eq (t := 60) (v' := .slice a (xs.length + 1) c) rfl (by first | (rw [cutA_0]; done) | (rw [cutA_0]; rfl)) ?_
   refine o_assign rfl rfl (l_nil (q_then (c_seq (c_seq (c_region (o_move rfl rfl (o_move rfl rfl (o_move rfl rfl (o_move rfl rfl ?_)))))))))
   refine o_bin rfl rfl rfl (b_add (show IntKind.i64.wrap ((i : Int) + (([x] : List Nat).length : Int)) = ((i + 1 : Nat) : Int) from by rw [wrap_i64 (by (try simp only [List.length_cons, List.length_nil]); omega) (by (try simp only [List.length_cons, List.length_nil]); omega)]; (try simp only [List.length_cons, List.length_nil]); omega)) ?_
   refine o_cut (l' := (i + 1)) (h' := (xs.length + 1)) (m := c) rfl rfl Try.underlying101 ti99 (.inl ⟨rfl, rfl⟩) (.inl ⟨rfl, rfl, rfl⟩) (.inr ⟨_, _, rfl, icast rfl (by omega), (by omega)⟩) ?_
   refine l_conv (fun w S => S.perm p1) ?_
   refine o_overlaps (f := 82) (tS := 101) (tR := 4) (sz := 1) (lo := (i + 1)) rfl rfl rfl Try.func82 (by kernel_rfl) (by kernel_rfl) (by kernel_rfl) (by kernel_rfl) Try.underlying101 ti99 (by decide) (by simp) (by omega) ?_
   refine o_not rfl rfl ?_
   refine l_nil (q_then (c_true rfl (c_seq ?_)))
   refine c_held [row eN99.T eN99.sz a2 ([x]).length c2 (flat eN99 [x])] (by kernel_rfl) rfl ?_
   refine h_take 0 rfl rfl (by kernel_rfl) (by kernel_rfl) (by kernel_rfl) (fun L0 => v_move rfl rfl) ?_
   refine h_take 1 rfl rfl (by kernel_rfl) (by kernel_rfl) (by kernel_rfl) (fun L0 => v_move rfl rfl) ?_
   refine h_take 2 rfl rfl (by kernel_rfl) (by kernel_rfl) (by kernel_rfl) (fun L0 => v_move rfl rfl) ?_
   refine h_take 3 rfl rfl (by kernel_rfl) (by kernel_rfl) (by kernel_rfl) (fun L0 => v_bin rfl rfl rfl (b_add (show IntKind.i64.wrap ((i : Int) + (([x] : List Nat).length : Int)) = ((i + 1 : Nat) : Int) from by rw [wrap_i64 (by (try simp only [List.length_cons, List.length_nil]); omega) (by (try simp only [List.length_cons, List.length_nil]); omega)]; (try simp only [List.length_cons, List.length_nil]); omega))) ?_
   refine h_take 4 rfl rfl (by kernel_rfl) (by kernel_rfl) (by kernel_rfl) (fun L0 => v_cut (l' := (i + 1)) (h' := (xs.length + 1)) (m := c) rfl rfl Try.underlying101 ti99 (.inl ⟨rfl, rfl⟩) (.inl ⟨rfl, rfl, rfl⟩) (.inr ⟨_, _, rfl, icast rfl (by omega), (by omega)⟩)) ?_
   refine h_take 5 rfl rfl (by kernel_rfl) (by kernel_rfl) (by kernel_rfl) (fun L0 => v_move rfl rfl) ?_
   refine h_take 6 rfl rfl (by kernel_rfl) (by kernel_rfl) (by kernel_rfl) (fun L0 => v_move rfl rfl) ?_
   refine h_take 7 rfl rfl (by kernel_rfl) (by kernel_rfl) (by kernel_rfl) (fun L0 => v_cut (l' := i) (h' := (xs.length + 1)) (m := c) rfl rfl Try.underlying101 ti99 (.inl ⟨rfl, rfl⟩) (.inl ⟨rfl, rfl, rfl⟩) (.inr ⟨_, _, rfl, icast rfl (by omega), (by omega)⟩)) ?_
   refine h_one 8 rfl (by kernel_rfl) ?_
   refine l_f1 ?_
   refine o_copy (T := 99) (sz := 1) (lo := (i + 1)) (k := (xs.length - i)) (ds := (((flat eN99 xs ++ js).drop (i * 1)).take ((xs.length - i) * 1))) rfl rfl rfl Try.underlying101 ti99 (by simp only [Nat.min_def]; split <;> omega) (by omega) (by (try simp only [List.length_take, List.length_drop, List.length_append]); omega) (rdO_row 0 rfl (by omega) (by omega)) (by omega) (fun v hv => by have h8 := List.mem_of_mem_take hv; rw [List.drop_append_of_le_length (by omega), ] at hv; rw [List.take_append_of_le_length (by rw [List.length_drop]; omega)] at hv; exact flat_one eN99_ok xs v (List.mem_of_mem_drop (List.mem_of_mem_take hv))) ?_
   refine l_nil (qP p1 (h_next ?_))
   refine h_done (by kernel_rfl) ?_
   refine q_then (c_seq (c_region (o_move rfl rfl (o_move rfl rfl ?_))))
   refine o_cut (l' := i) (h' := (xs.length + 1)) (m := c) rfl rfl Try.underlying101 ti99 (.inl ⟨rfl, rfl⟩) (.inl ⟨rfl, rfl, rfl⟩) (.inr ⟨_, _, rfl, icast rfl (by omega), (by omega)⟩) ?_
   refine o_move rfl rfl (l_f1 ?_)
   refine o_copy (T := 99) (sz := 1) (lo := i) (k := 1) (ds := (flat eN99 [x])) rfl rfl rfl Try.underlying101 ti99 (by simp [Nat.min_def]; omega) (by omega) hf1 (rdO_of (rds_own eN99_ok 1 rfl) (by simp)) (by omega) (flat_one eN99_ok [x]) ?_
   refine l_nil (q_then (c_seq (c_region (o_move rfl rfl (o_assign rfl rfl (l_nil (q_then (c_ret (q_pass_ret ?_)))))))))
   refine qP p1 (qT ?_)
   exact f_ret (r_one rfl rfl) (⟨a, c, by (rw [hlen]; first | done | rfl), rfl⟩) (fun w S => by have h9 := ins_raw eN99_ok (xs := xs) (x := x) (i := i) hlt hjs rfl; rw [← h9, hlen]; exact S)
end
section
set_option linter.unusedVariables false
set_option linter.unusedSimpArgs false
open Go.RowKit Classical
section
variable {α κ : Type} {key : α → κ} {lt : κ → κ → Prop}
theorem one_key {xs : List α} (o : Sto lt) (hs : Srt key lt xs) {x y : α} (hx : x ∈ xs) (hy : y ∈ xs) (he : key x = key y) : x = y := by
  obtain ⟨i, hi, rfl⟩ := List.mem_iff_getElem.1 hx
  obtain ⟨j, hj, rfl⟩ := List.mem_iff_getElem.1 hy
  have hp := List.pairwise_iff_getElem.1 hs
  rcases Nat.lt_trichotomy i j with h1 | h1 | h1
  · exact absurd (he ▸ hp i j hi hj h1) (o.irr _)
  · subst h1; rfl
  · exact absurd (he ▸ hp j i hj hi h1) (o.irr _)
theorem get_in (o : Sto lt) {A B ys : List α} {y : α} {k : κ} (hy : y ∈ A ++ (ys ++ B)) (hk : key y = k) (hA : ∀ p ∈ A, lt (key p) k) (hB : ∀ s ∈ B, lt k (key s)) : y ∈ ys := by
  rcases List.mem_append.1 hy with h | h
  · exact absurd (hk ▸ hA y h) (o.irr _)
  · rcases List.mem_append.1 h with h | h
    · exact h
    · exact absurd (hk ▸ hB y h) (o.irr _)
theorem post_leaf : ∀ (items : List α), post items ([] : List (List α)) = items
  | [] => by simp [post]
  | x :: xs => by simp [post, post_leaf xs]
theorem leaf_none (o : Sto lt) {q : NodeW α} {mn d i : Nat} {ys : List α} {k : κ} (hq : okN mn d q ys) (hs : Srt key lt ys) (hF : Found key lt k q.items i) (hnf : ¬ ∃ y, q.items[i]? = some y ∧ key y = k) (h0 : q.kids = []) : ¬ ∃ y ∈ ys, key y = k := by
  rintro ⟨y, hy, hk⟩
  have h1 := hq.is
  rw [h0] at h1
  have h2 : ys = q.items := by rw [h1]; simp [weave, post_leaf]
  have hsi : Srt key lt q.items := h2 ▸ hs
  rw [h2, ← List.take_append_drop i q.items] at hy
  rcases List.mem_append.1 hy with h | h
  · exact absurd (hk ▸ hF.lo y h) (o.irr _)
  · exact absurd (hk ▸ hF.gt o hsi hnf y h) (o.irr _)
end
theorem get_back {α : Type} {W w : World} {L : List Res} {eI : Enc α} {eK : Enc Nat} {TN : Nat} {ks : List (Nat × List α)} {i d d' kb : Nat} {ys : List α} {A B C : Res} (hk : ks[i]? = some (kb, ys)) (hd : d = d' + 1) (S : Sat W w (nodeR eI eK TN d' 2 kb ys :: kidsR eI eK TN d (ks.eraseIdx i) :: A :: B :: C :: L)) : Sat W w (A :: B :: C :: kidsR eI eK TN d ks :: L) := by
  subst hd
  have h := Sat.kid_back (d := d' + 1) hk S
  exact h.perm (List.perm_middle (l₁ := [A, B, C])).symm
end
section
set_option linter.unusedVariables false
set_option linter.unusedSimpArgs false
open Go.RowKit Classical
section
variable {α κ : Type} {key : α → κ} {lt : κ → κ → Prop}
noncomputable def del (key : α → κ) (k : κ) (xs : List α) : List α := xs.filter fun y => decide (¬ key y = k)
theorem del_none {k : κ} {xs : List α} (h : ∀ y ∈ xs, ¬ key y = k) : del key k xs = xs := by
  unfold del
  exact List.filter_eq_self.2 fun y hy => by simpa using h y hy
theorem del_append {k : κ} {xs ys : List α} : del key k (xs ++ ys) = del key k xs ++ del key k ys := List.filter_append ..
theorem del_mid {k : κ} {A M B : List α} (hA : ∀ p ∈ A, ¬ key p = k) (hB : ∀ s ∈ B, ¬ key s = k) : del key k (A ++ (M ++ B)) = A ++ (del key k M ++ B) := by
  rw [del_append, del_append, del_none hA, del_none hB]
theorem del_here {k : κ} {A B : List α} {y : α} (hy : key y = k) (hA : ∀ p ∈ A, ¬ key p = k) (hB : ∀ s ∈ B, ¬ key s = k) : del key k (A ++ y :: B) = A ++ B := by
  rw [del_append, del_none hA]
  unfold del
  rw [List.filter_cons_of_neg (by simpa using hy)]
  exact congrArg _ (List.filter_eq_self.2 fun s hs => by simpa using hB s hs)
theorem srt_del {k : κ} {xs : List α} (h : Srt key lt xs) : Srt key lt (del key k xs) := List.Pairwise.filter _ h
theorem mem_del {k : κ} {xs : List α} {y : α} : y ∈ del key k xs ↔ y ∈ xs ∧ ¬ key y = k := by simp only [del, List.mem_filter, decide_eq_true_eq]
/-- A node whose shape is lax: it may be left with no item and one kid. -/
structure okO (mn d : Nat) (q : NodeW α) (xs : List α) : Prop where
  mn : mn ≤ q.items.length
  le : q.items.length ≤ 5
  is : xs = weave (q.kids.map Prod.snd) q.items
  sh : (d = 0 ∧ q.kids = []) ∨ (d ≠ 0 ∧ q.kids.length = q.items.length + 1)
theorem okN.lax {mn d : Nat} {q : NodeW α} {xs : List α} (h : okN mn d q xs) : okO mn d q xs := ⟨h.mn, h.le, h.is, by
  rcases h.sh with h1 | ⟨h1, h2, _⟩
  · exact .inl h1
  · exact .inr ⟨h1, h2⟩⟩
theorem okO.full {mn d : Nat} {q : NodeW α} {xs : List α} (h : okO mn d q xs) (h1 : 1 ≤ q.items.length) : okN mn d q xs := ⟨h.mn, h.le, h.is, by
  rcases h.sh with h2 | ⟨h2, h3⟩
  · exact .inl h2
  · exact .inr ⟨h2, h3, h1⟩⟩
end
section
variable {α : Type} {W w : World} {L : List Res} {eI : Enc α} {eK : Enc Nat} {TN mn d b : Nat} {xs : List α}
def nodeO (eI : Enc α) (eK : Enc Nat) (TN d mn b : Nat) (xs : List α) : Res := obj (fun q : NodeW α => okO mn d q xs) fun q => [blk b (.cells #[.slice q.a q.items.length q.c, .slice q.ak (q.kids.map Prod.fst).length q.ck] TN (0, 0)), row eI.T eI.sz q.a q.items.length q.c (flat eI q.items), row eK.T eK.sz q.ak (q.kids.map Prod.fst).length q.ck (flat eK (q.kids.map Prod.fst)), kidsR eI eK TN d q.kids]
theorem nodeO_mk (q : NodeW α) (hq : okO mn d q xs) (S : Sat W w (blk b (.cells #[.slice q.a q.items.length q.c, .slice q.ak (q.kids.map Prod.fst).length q.ck] TN (0, 0)) :: row eI.T eI.sz q.a q.items.length q.c (flat eI q.items) :: row eK.T eK.sz q.ak (q.kids.map Prod.fst).length q.ck (flat eK (q.kids.map Prod.fst)) :: kidsR eI eK TN d q.kids :: L)) : Sat W w (nodeO eI eK TN d mn b xs :: L) := Sat.obj_mk q hq S
theorem nodeO_open (S : Sat W w (nodeO eI eK TN d mn b xs :: L)) : ∃ q : NodeW α, okO mn d q xs ∧ Sat W w (blk b (.cells #[.slice q.a q.items.length q.c, .slice q.ak (q.kids.map Prod.fst).length q.ck] TN (0, 0)) :: row eI.T eI.sz q.a q.items.length q.c (flat eI q.items) :: row eK.T eK.sz q.ak (q.kids.map Prod.fst).length q.ck (flat eK (q.kids.map Prod.fst)) :: kidsR eI eK TN d q.kids :: L) := by
  obtain ⟨q, hq, S'⟩ := S.obj_open
  exact ⟨q, hq, S'⟩
end
end
section
set_option linter.unusedVariables false
set_option linter.unusedSimpArgs false
set_option maxRecDepth 10000
open Go.RowKit Classical
set_option maxHeartbeats 1000000 in
theorem mendA_A {W : World} {F : List Res} {b kb : Nat} {its ki : List ItA} {nk kk : List Nat} {na nka ka kka : Option Addr} {nc nkc kc kkc : Nat} {i : Nat} (hk : nk[i]? = some kb) (hl : 2 ≤ ki.length) (h1 : its.length ≤ 5) (h2 : nk.length = its.length + 1) (h3 : ki.length ≤ 5) (h4 : kk.length ≤ 6) : CS Try.prog 73 #[.pointer (some ⟨b, 0, none⟩), .int .i64 (i : Int)] W (blk b (.cells #[.slice na (its).length nc, .slice nka (nk).length nkc] 103 (0, 0)) :: row e_ItA.T e_ItA.sz na (its).length nc (flat e_ItA its) :: row eN99.T eN99.sz nka (nk).length nkc (flat eN99 nk) :: blk kb (.cells #[.slice ka (ki).length kc, .slice kka (kk).length kkc] 103 (0, 0)) :: row e_ItA.T e_ItA.sz ka (ki).length kc (flat e_ItA ki) :: row eN99.T eN99.sz kka (kk).length kkc (flat eN99 kk) :: F) (fun _ L' => L' = blk b (.cells #[.slice na (its).length nc, .slice nka (nk).length nkc] 103 (0, 0)) :: row e_ItA.T e_ItA.sz na (its).length nc (flat e_ItA its) :: row eN99.T eN99.sz nka (nk).length nkc (flat eN99 nk) :: blk kb (.cells #[.slice ka (ki).length kc, .slice kka (kk).length kkc] 103 (0, 0)) :: row e_ItA.T e_ItA.sz ka (ki).length kc (flat e_ItA ki) :: row eN99.T eN99.sz kka (kk).length kkc (flat eN99 kk) :: F) := by
 refine f_door (l0 := [(0, .pointer (some ⟨b, 0, none⟩)), (1, .int .i64 (i : Int))]) Try.func73 Try.ntmps73 rfl rfl rfl ?_
 refine c_seq ?_
 have hil := (List.getElem?_eq_some_iff.1 hk).1
 refine c_region (o_move rfl rfl (o_nil rfl rfl ?_))
 refine o_fieldAddr (q := ⟨b, 1, none⟩) rfl rfl Try.underlying103 rfl ti101 rfl ?_
 refine o_load1 rfl rfl Try.underlying101 rfl (rd_mem 0 rfl rfl) ?_
 refine o_move rfl rfl ?_
 refine o_index eN99_ok rfl rfl rfl Try.underlying101 (by omega) (by omega) (rds_own eN99_ok 2 rfl) fun ad15 ead15 => ?_
 obtain ⟨x15, hx15⟩ : ∃ x, (nk)[((i : Int)).toNat]? = some x := ⟨_, List.getElem?_eq_getElem (by omega)⟩
 have hxk15 : x15 = kb := by have h9 := hx15; rw [show ((i : Int)).toNat = i from by omega, hk] at h9; exact (Option.some.inj h9).symm
 refine o_load1 rfl rfl Try.underlying99 rfl (rd_sl0 eN99_ok ead15 (rds_own eN99_ok 2 rfl) hx15 rfl) ?_
 refine l_eq (t := 16) (v' := .pointer (some ⟨kb, 0, none⟩)) rfl (by rw [hxk15]) ?_
 refine o_assign rfl rfl (l_nil (q_then (c_block (c_seq (c_region (o_move rfl rfl (o_nil rfl rfl ?_)))))))
 refine o_fieldAddr (q := ⟨kb, 0, none⟩) rfl rfl Try.underlying103 rfl ti100 rfl ?_
 refine o_load1 rfl rfl Try.underlying100 rfl (rd_mem 3 rfl rfl) ?_
 refine o_len rfl rfl Try.underlying100 ?_
 refine o_bin rfl rfl rfl b_geq ?_
 refine l_eq (t := 96) (v' := .bool true) rfl (show _ = Value.bool true from by rw [decide_eq_true (by omega)]) ?_
 refine o_assign rfl rfl (l_nil (q_then (c_true rfl (c_skip (q_block ?_)))))
 exact f_end (r_none rfl) (rfl) (fun w S => S)
set_option maxHeartbeats 4000000 in
theorem mendB_A {W : World} {F : List Res} {b kb : Nat} {its ki : List ItA} {nk kk : List Nat} {na nka ka kka : Option Addr} {nc nkc kc kkc : Nat} {lb j : Nat} {li : List ItA} {lk : List Nat} {la lka : Option Addr} {lc lkc : Nat} (hk : nk[j + 1]? = some kb) (hlb : nk[j]? = some lb) (hk1 : ki.length < 2) (hl3 : 3 ≤ li.length) (hl5 : li.length ≤ 5) (hlk0 : 0 < lk.length → lk.length = li.length + 1) (hcl : li.length ≤ lc ∧ lc ≤ 9223372036854775807) (hckl : lk.length ≤ lkc ∧ lkc ≤ 9223372036854775807) (h1 : its.length ≤ 5) (h2 : nk.length = its.length + 1) (h3 : ki.length ≤ 5) (h4 : kk.length ≤ 6) : CS Try.prog 73 #[.pointer (some ⟨b, 0, none⟩), .int .i64 ((j + 1 : Nat) : Int)] W (blk b (.cells #[.slice na (its).length nc, .slice nka (nk).length nkc] 103 (0, 0)) :: row e_ItA.T e_ItA.sz na (its).length nc (flat e_ItA its) :: row eN99.T eN99.sz nka (nk).length nkc (flat eN99 nk) :: blk kb (.cells #[.slice ka (ki).length kc, .slice kka (kk).length kkc] 103 (0, 0)) :: row e_ItA.T e_ItA.sz ka (ki).length kc (flat e_ItA ki) :: row eN99.T eN99.sz kka (kk).length kkc (flat eN99 kk) :: blk lb (.cells #[.slice la (li).length lc, .slice lka (lk).length lkc] 103 (0, 0)) :: row e_ItA.T e_ItA.sz la (li).length lc (flat e_ItA li) :: row eN99.T eN99.sz lka (lk).length lkc (flat eN99 lk) :: F) (fun _ L' => ∃ (x y : ItA) (a1 : Option Addr) (c1 : Nat), its[j]? = some x ∧ li[li.length - 1]? = some y ∧ ((lk.length = 0 ∧ L' = blk b (.cells #[.slice na its.length nc, .slice nka nk.length nkc] 103 (0, 0)) :: row e_ItA.T e_ItA.sz na its.length nc (flat e_ItA (its.set j y)) :: row eN99.T eN99.sz nka (nk).length nkc (flat eN99 nk) :: blk kb (.cells #[.slice a1 (x :: ki).length c1, .slice kka kk.length kkc] 103 (0, 0)) :: row e_ItA.T e_ItA.sz a1 ((x :: ki)).length c1 (flat e_ItA (x :: ki)) :: row eN99.T eN99.sz kka (kk).length kkc (flat eN99 kk) :: blk lb (.cells #[.slice la (li.length - 1) lc, .slice lka lk.length lkc] 103 (0, 0)) :: row e_ItA.T e_ItA.sz la (li).length lc (flat e_ItA li) :: row eN99.T eN99.sz lka (lk).length lkc (flat eN99 lk) :: F) ∨ (∃ (a2 : Option Addr) (c2 g : Nat), lk[li.length]? = some g ∧ L' = blk b (.cells #[.slice na its.length nc, .slice nka nk.length nkc] 103 (0, 0)) :: row e_ItA.T e_ItA.sz na its.length nc (flat e_ItA (its.set j y)) :: row eN99.T eN99.sz nka (nk).length nkc (flat eN99 nk) :: blk kb (.cells #[.slice a1 (x :: ki).length c1, .slice a2 (g :: kk).length c2] 103 (0, 0)) :: row e_ItA.T e_ItA.sz a1 ((x :: ki)).length c1 (flat e_ItA (x :: ki)) :: row eN99.T eN99.sz a2 ((g :: kk)).length c2 (flat eN99 (g :: kk)) :: blk lb (.cells #[.slice la (li.length - 1) lc, .slice lka li.length lkc] 103 (0, 0)) :: row e_ItA.T e_ItA.sz la (li).length lc (flat e_ItA li) :: row eN99.T eN99.sz lka (lk).length lkc (flat eN99 lk) :: F))) := by
 refine f_door (l0 := [(0, .pointer (some ⟨b, 0, none⟩)), (1, .int .i64 ((j + 1 : Nat) : Int))]) Try.func73 Try.ntmps73 rfl rfl rfl ?_
 refine c_seq ?_
 have hil := (List.getElem?_eq_some_iff.1 hk).1
 refine c_region (o_move rfl rfl (o_nil rfl rfl ?_))
 refine o_fieldAddr (q := ⟨b, 1, none⟩) rfl rfl Try.underlying103 rfl ti101 rfl ?_
 refine o_load1 rfl rfl Try.underlying101 rfl (rd_mem 0 rfl rfl) ?_
 refine o_move rfl rfl ?_
 refine o_index eN99_ok rfl rfl rfl Try.underlying101 (by omega) (by omega) (rds_own eN99_ok 2 rfl) fun ad15 ead15 => ?_
 obtain ⟨x15, hx15⟩ : ∃ x, (nk)[(((j + 1 : Nat) : Int)).toNat]? = some x := ⟨_, List.getElem?_eq_getElem (by omega)⟩
 have hxk15 : x15 = kb := by have h9 := hx15; rw [show (((j + 1 : Nat) : Int)).toNat = j + 1 from by omega, hk] at h9; exact (Option.some.inj h9).symm
 refine o_load1 rfl rfl Try.underlying99 rfl (rd_sl0 eN99_ok ead15 (rds_own eN99_ok 2 rfl) hx15 rfl) ?_
 refine l_eq (t := 16) (v' := .pointer (some ⟨kb, 0, none⟩)) rfl (by rw [hxk15]) ?_
 refine o_assign rfl rfl (l_nil (q_then (c_block (c_seq (c_region (o_move rfl rfl (o_nil rfl rfl ?_)))))))
 refine o_fieldAddr (q := ⟨kb, 0, none⟩) rfl rfl Try.underlying103 rfl ti100 rfl ?_
 refine o_load1 rfl rfl Try.underlying100 rfl (rd_mem 3 rfl rfl) ?_
 refine o_len rfl rfl Try.underlying100 ?_
 refine o_bin rfl rfl rfl b_geq ?_
 refine l_eq (t := 96) (v' := .bool false) rfl (show _ = Value.bool false from by rw [decide_eq_false (by omega)]) ?_
 refine o_assign rfl rfl (l_nil (q_then (c_false rfl (c_seq (c_region (o_move rfl rfl ?_))))))
 refine o_bin rfl rfl rfl b_gtr ?_
 refine l_eq (t := 99) (v' := .bool true) rfl (show _ = Value.bool true from by rw [decide_eq_true (by omega)]) ?_
 refine o_move rfl rfl (o_yes rfl rfl rfl (o_move rfl rfl (o_yes rfl rfl rfl (o_nil rfl rfl (o_yes rfl rfl rfl ?_)))))
 refine o_fieldAddr (q := ⟨b, 1, none⟩) rfl rfl Try.underlying103 rfl ti101 rfl ?_
 refine o_yes rfl rfl rfl ?_
 refine o_load1 rfl rfl Try.underlying101 rfl (rd_mem 0 rfl rfl) ?_
 refine o_yes rfl rfl rfl (o_move rfl rfl (o_yes rfl rfl rfl ?_))
 refine o_bin rfl rfl rfl (b_sub (show IntKind.i64.wrap ((((j + 1 : Nat) : Int)) - 1) = (j : Int) from by rw [wrap_i64 (by omega) (by omega)]; omega)) ?_
 refine o_yes rfl rfl rfl ?_
 refine o_indexK eN99_ok ead15 rfl rfl rfl Try.underlying101 (by omega) (by omega) ?_
 obtain ⟨x107, hx107⟩ : ∃ x, (nk)[((j : Int)).toNat]? = some x := ⟨_, List.getElem?_eq_getElem (by omega)⟩
 have hxk107 : x107 = lb := by have h9 := hx107; rw [show ((j : Int)).toNat = j from by omega, hlb] at h9; exact (Option.some.inj h9).symm
 refine o_yes rfl rfl rfl ?_
 refine o_load1 rfl rfl Try.underlying99 rfl (rd_sl0 eN99_ok ead15 (rds_own eN99_ok 2 rfl) hx107 rfl) ?_
 refine l_eq (t := 108) (v' := .pointer (some ⟨lb, 0, none⟩)) rfl (by rw [hxk107]) ?_
 refine o_yes rfl rfl rfl (o_nil rfl rfl (o_yes rfl rfl rfl ?_))
 refine o_fieldAddr (q := ⟨lb, 0, none⟩) rfl rfl Try.underlying103 rfl ti100 rfl ?_
 refine o_yes rfl rfl rfl ?_
 refine o_load1 rfl rfl Try.underlying100 rfl (rd_mem 6 rfl rfl) ?_
 refine o_yes rfl rfl rfl ?_
 refine o_len rfl rfl Try.underlying100 ?_
 refine o_yes rfl rfl rfl ?_
 refine o_bin rfl rfl rfl b_gtr ?_
 refine l_eq (t := 113) (v' := .bool true) rfl (show _ = Value.bool true from by rw [decide_eq_true (by omega)]) ?_
 refine o_pick_true rfl rfl rfl (o_assign rfl rfl (l_nil (q_then (c_true rfl (c_seq (c_region (o_move rfl rfl (o_nil rfl rfl ?_))))))))
 refine o_fieldAddr (q := ⟨b, 1, none⟩) rfl rfl Try.underlying103 rfl ti101 rfl ?_
 refine o_load1 rfl rfl Try.underlying101 rfl (rd_mem 0 rfl rfl) ?_
 refine o_move rfl rfl ?_
 refine o_bin rfl rfl rfl (b_sub (show IntKind.i64.wrap ((((j + 1 : Nat) : Int)) - 1) = (j : Int) from by rw [wrap_i64 (by omega) (by omega)]; omega)) ?_
 refine o_indexK eN99_ok ead15 rfl rfl rfl Try.underlying101 (by omega) (by omega) ?_
 obtain ⟨x121, hx121⟩ : ∃ x, (nk)[((j : Int)).toNat]? = some x := ⟨_, List.getElem?_eq_getElem (by omega)⟩
 have hxk121 : x121 = lb := by have h9 := hx121; rw [show ((j : Int)).toNat = j from by omega, hlb] at h9; exact (Option.some.inj h9).symm
 refine o_load1 rfl rfl Try.underlying99 rfl (rd_sl0 eN99_ok ead15 (rds_own eN99_ok 2 rfl) hx121 rfl) ?_
 refine l_eq (t := 122) (v' := .pointer (some ⟨lb, 0, none⟩)) rfl (by rw [hxk121]) ?_
 refine o_assign rfl rfl (l_nil (q_then (c_seq (c_region (o_move rfl rfl (o_nil rfl rfl ?_))))))
 refine o_fieldAddr (q := ⟨lb, 0, none⟩) rfl rfl Try.underlying103 rfl ti100 rfl ?_
 refine o_load1 rfl rfl Try.underlying100 rfl (rd_mem 6 rfl rfl) ?_
 refine o_len rfl rfl Try.underlying100 ?_
 refine o_bin rfl rfl rfl (b_sub (show IntKind.i64.wrap ((li.length : Int) - 1) = ((li.length - 1 : Nat) : Int) from by rw [wrap_i64 (by omega) (by omega)]; omega)) ?_
 refine o_assign rfl rfl (l_nil (q_then (c_seq ?_)))
 refine c_mid (α := (Option Addr) × Nat × (Option Addr) × ItA) (fun z => [(0, .pointer (some ⟨b, 0, none⟩)), (1, .int .i64 ((j + 1 : Nat) : Int)), (4, .pointer (some ⟨kb, 0, none⟩)), (5, .pointer (some ⟨lb, 0, none⟩)), (6, .int .i64 ((li.length - 1 : Nat) : Int)), (10, .pointer (some ⟨b, 0, none⟩)), (11, .pointer (some ⟨b, 0, none⟩)), (12, .pointer (some ⟨b, 1, none⟩)), (13, .slice nka (nk).length nkc), (14, .int .i64 ((j + 1 : Nat) : Int)), (16, .pointer (some ⟨kb, 0, none⟩)), (90, .bool false), (91, .pointer (some ⟨kb, 0, none⟩)), (92, .pointer (some ⟨kb, 0, none⟩)), (93, .pointer (some ⟨kb, 0, none⟩)), (94, .slice ka (ki).length kc), (95, .int .i64 ((ki).length : Int)), (96, .bool false), (97, .bool true), (98, .int .i64 ((j + 1 : Nat) : Int)), (99, .bool true), (100, .bool true), (101, .pointer (some ⟨b, 0, none⟩)), (102, .pointer (some ⟨b, 0, none⟩)), (103, .pointer (some ⟨b, 1, none⟩)), (104, .slice nka (nk).length nkc), (105, .int .i64 ((j + 1 : Nat) : Int)), (106, .int .i64 (j : Int)), (108, .pointer (some ⟨lb, 0, none⟩)), (109, .pointer (some ⟨lb, 0, none⟩)), (110, .pointer (some ⟨lb, 0, none⟩)), (111, .slice la (li).length lc), (112, .int .i64 ((li).length : Int)), (113, .bool true), (114, .bool true), (115, .pointer (some ⟨b, 0, none⟩)), (116, .pointer (some ⟨b, 0, none⟩)), (117, .pointer (some ⟨b, 1, none⟩)), (118, .slice nka (nk).length nkc), (119, .int .i64 ((j + 1 : Nat) : Int)), (120, .int .i64 (j : Int)), (122, .pointer (some ⟨lb, 0, none⟩)), (123, .pointer (some ⟨lb, 0, none⟩)), (124, .pointer (some ⟨lb, 0, none⟩)), (125, .pointer (some ⟨lb, 0, none⟩)), (126, .slice la (li).length lc), (127, .int .i64 ((li).length : Int)), (128, .int .i64 ((li.length - 1 : Nat) : Int)), (129, .pointer (some ⟨kb, 0, none⟩)), (130, .pointer (some ⟨kb, 0, none⟩)), (131, .pointer (some ⟨kb, 0, none⟩)), (132, .pointer (some ⟨kb, 0, none⟩)), (133, .slice ka (ki).length kc), (134, .pointer (some ⟨b, 0, none⟩)), (135, .pointer (some ⟨b, 0, none⟩)), (136, .pointer (some ⟨b, 0, none⟩)), (137, .slice na (its).length nc), (138, .int .i64 ((j + 1 : Nat) : Int)), (139, .int .i64 (j : Int)), (141, .agg #[.string z.2.2.2.f_key, .bool z.2.2.2.f_value.f_Has, .slice z.2.2.2.f_value.f_Value.a (z.2.2.2.f_value.f_Value.xs).length z.2.2.2.f_value.f_Value.c, .int .i64 z.2.2.2.f_value.f_Home, .int .u64 z.2.2.2.f_value.f_Count]), (142, .slice z.2.2.1 ([z.2.2.2]).length 1), (143, .slice z.1 ((ki.take 0 ++ z.2.2.2 :: ki.drop 0)).length z.2.1), (144, .pointer (some ⟨kb, 0, none⟩)), (145, .pointer (some ⟨kb, 0, none⟩))]) (fun z => blk kb (.cells #[.slice z.1 ((ki.take 0 ++ z.2.2.2 :: ki.drop 0)).length z.2.1, .slice kka (kk).length kkc] 103 (0, 0)) :: row e_ItA.T e_ItA.sz z.1 ((ki.take 0 ++ z.2.2.2 :: ki.drop 0)).length z.2.1 (flat e_ItA (ki.take 0 ++ z.2.2.2 :: ki.drop 0)) :: blk b (.cells #[.slice na (its).length nc, .slice nka (nk).length nkc] 103 (0, 0)) :: row e_ItA.T e_ItA.sz na (its).length nc (flat e_ItA its) :: row eN99.T eN99.sz nka (nk).length nkc (flat eN99 nk) :: row eN99.T eN99.sz kka (kk).length kkc (flat eN99 kk) :: blk lb (.cells #[.slice la (li).length lc, .slice lka (lk).length lkc] 103 (0, 0)) :: row e_ItA.T e_ItA.sz la (li).length lc (flat e_ItA li) :: row eN99.T eN99.sz lka (lk).length lkc (flat eN99 lk) :: F) (fun z => its[((j : Int)).toNat]? = some z.2.2.2) ?_ ?_
 · -- cut
  refine c_fact (p := ∃ ad, na = some ad) (rds_some (e := e_ItA) (xs := its) (rds_own e_ItA_ok 1 rfl) (by intro h0; rw [h0] at h2; simp at h2; omega)) ?_
  rintro ⟨adx, eadx⟩
  refine cP p4 (cP p4 (cP p8 (cP p8 (cP p8 (cP p8 (cP p8 (cP p8 (cP p8 ?_))))))))
  refine c_held [blk b (.cells #[.slice na (its).length nc, .slice nka (nk).length nkc] 103 (0, 0)), row e_ItA.T e_ItA.sz na (its).length nc (flat e_ItA its), row eN99.T eN99.sz nka (nk).length nkc (flat eN99 nk), row eN99.T eN99.sz kka (kk).length kkc (flat eN99 kk), blk lb (.cells #[.slice la (li).length lc, .slice lka (lk).length lkc] 103 (0, 0)), row e_ItA.T e_ItA.sz la (li).length lc (flat e_ItA li), row eN99.T eN99.sz lka (lk).length lkc (flat eN99 lk)] (by kernel_rfl) rfl ?_
  refine h_take 0 rfl rfl (by kernel_rfl) (by kernel_rfl) (by kernel_rfl) (fun L0 => v_move rfl rfl) ?_
  refine h_take 1 rfl rfl (by kernel_rfl) (by kernel_rfl) (by kernel_rfl) (fun L0 => v_move rfl rfl) ?_
  refine h_take 2 rfl rfl (by kernel_rfl) (by kernel_rfl) (by kernel_rfl) (fun L0 => v_nil rfl rfl) ?_
  refine h_take 3 rfl rfl (by kernel_rfl) (by kernel_rfl) (by kernel_rfl) (fun L0 => v_fieldAddr (q := ⟨kb, 0, none⟩) rfl rfl Try.underlying103 rfl ti100 rfl) ?_
  refine h_take 5 rfl rfl (by kernel_rfl) (by kernel_rfl) (by kernel_rfl) (fun L0 => v_move rfl rfl) ?_
  refine h_take 6 rfl rfl (by kernel_rfl) (by kernel_rfl) (by kernel_rfl) (fun L0 => v_nil rfl rfl) ?_
  refine h_take 7 rfl rfl (by kernel_rfl) (by kernel_rfl) (by kernel_rfl) (fun L0 => v_fieldAddr (q := ⟨b, 0, none⟩) rfl rfl Try.underlying103 rfl ti100 rfl) ?_
  refine h_take 8 rfl rfl (by kernel_rfl) (by kernel_rfl) (by kernel_rfl) (fun L0 => v_load1 rfl rfl Try.underlying100 rfl (rd_mem 0 rfl rfl)) ?_
  refine h_take 9 rfl rfl (by kernel_rfl) (by kernel_rfl) (by kernel_rfl) (fun L0 => v_move rfl rfl) ?_
  refine h_take 10 rfl rfl (by kernel_rfl) (by kernel_rfl) (by kernel_rfl) (fun L0 => v_bin rfl rfl rfl (b_sub (show IntKind.i64.wrap ((((j + 1 : Nat) : Int)) - 1) = (j : Int) from by rw [wrap_i64 (by omega) (by omega)]; omega))) ?_
  refine h_take 11 rfl rfl (by kernel_rfl) (by kernel_rfl) (by kernel_rfl) (fun L0 => v_indexK e_ItA_ok eadx rfl rfl rfl Try.underlying100 (by omega) (by omega)) ?_
  obtain ⟨x140, hx140⟩ : ∃ x, (its)[((j : Int)).toNat]? = some x := ⟨_, List.getElem?_eq_getElem (by omega)⟩
  refine h_take 12 rfl rfl (by kernel_rfl) (by kernel_rfl) (by kernel_rfl) (fun L0 => v_loadn (vs := e_ItA.cells x140) rfl rfl Try.underlying110 rfl ti110 (rdn_sl e_ItA_ok eadx (rds_own e_ItA_ok 1 rfl) hx140)) ?_
  refine h_many (is := [4, 13]) (by kernel_rfl) (by decide) (forall_cons ⟨_, rfl, ?_⟩ (forall_cons ⟨_, rfl, ?_⟩ forall_nil))
  · -- 4 comes first
   refine o_load1 rfl rfl Try.underlying100 rfl (rd_mem 7 rfl rfl) ?_
   refine l_nil (h_next ?_)
   refine h_one 13 rfl (by kernel_rfl) ?_
   refine o_lit e_ItA_ok rfl Try.underlying100 rfl rfl rfl (lit_ok rfl) [x140] rfl rfl fun a142 => ?_
   refine l_nil (qP p9 (qP p9 (qP p2 (qP p9 (qP p9 (qP p9 (qP p9 (qP p9 (qP p9 ?_)))))))))
   refine qP p9 (h_next ?_)
   refine h_one 14 rfl (by kernel_rfl) ?_
   refine l_f7 (l_f9 ?_)
   refine o_call rfl cal74 rfl (insI_A (xs := ki) (x := x140) (i := 0) (by omega) (by omega)) ?_
   rintro _ _ ⟨a143, c143, rfl, rfl⟩
   refine l_nil (qP p8 (qP p1 (qP p8 (qP p8 (qP p8 (qP p8 (qP p8 (qP p8 (qP p8 ?_)))))))))
   refine h_next ?_
   refine h_take 15 rfl rfl (by kernel_rfl) (by kernel_rfl) (by kernel_rfl) (fun L0 => v_nil rfl rfl) ?_
   refine h_take 16 rfl rfl (by kernel_rfl) (by kernel_rfl) (by kernel_rfl) (fun L0 => v_fieldAddr (q := ⟨kb, 0, none⟩) rfl rfl Try.underlying103 rfl ti100 rfl) ?_
   refine h_one 17 rfl (by kernel_rfl) ?_
   refine l_f8 ?_
   refine o_store1 rfl rfl rfl ti100 rfl rfl ?_
   refine l_nil (qP p8 (qP p1 (qP p8 (qP p8 (qP p8 (qP p8 (qP p8 (qP p8 (qP p8 ?_)))))))))
   refine h_next ?_
   refine h_done (by kernel_rfl) ?_
   refine qP p6 (qP p6 (qP p6 (qP p6 (qP p6 (qP p6 (qP p6 (qP p8 (qP p8 ?_))))))))
   exact q_mid (a143, c143, a142, x140) (by exact hx140) ⟨vr, vr, vr, vr, vr, vr, vr, vr, vr, vr, vr, vr, vr, vr, vr, vr, vr, vr, vr, vr, vr, vr, vr, vr, vr, vr, vr, vr, vr, vr, vr, vr, vr, vr, vr, vr, vr, vr, vr, vr, vr, vr, vr, vr, vr, vr, vr, vr, vr, vr, vr, vr, vr, vr, vr, vr, vr, vr, vr, vr, vr, vr, vr, vr, trivial⟩ (fun w S => S)
  · -- 13 comes first
   refine o_lit e_ItA_ok rfl Try.underlying100 rfl rfl rfl (lit_ok rfl) [x140] rfl rfl fun a142 => ?_
   refine l_nil (qP p9 (qP p9 (qP p2 (qP p9 (qP p9 (qP p9 (qP p9 (qP p9 (qP p9 ?_)))))))))
   refine qP p9 (h_next ?_)
   refine h_one 4 rfl (by kernel_rfl) ?_
   refine o_load1 rfl rfl Try.underlying100 rfl (rd_mem 8 rfl rfl) ?_
   refine l_nil (h_next ?_)
   refine h_one 14 rfl (by kernel_rfl) ?_
   refine l_f7 (l_f9 ?_)
   refine o_call rfl cal74 rfl (insI_A (xs := ki) (x := x140) (i := 0) (by omega) (by omega)) ?_
   rintro _ _ ⟨a143, c143, rfl, rfl⟩
   refine l_nil (qP p8 (qP p1 (qP p8 (qP p8 (qP p8 (qP p8 (qP p8 (qP p8 (qP p8 ?_)))))))))
   refine h_next ?_
   refine h_take 15 rfl rfl (by kernel_rfl) (by kernel_rfl) (by kernel_rfl) (fun L0 => v_nil rfl rfl) ?_
   refine h_take 16 rfl rfl (by kernel_rfl) (by kernel_rfl) (by kernel_rfl) (fun L0 => v_fieldAddr (q := ⟨kb, 0, none⟩) rfl rfl Try.underlying103 rfl ti100 rfl) ?_
   refine h_one 17 rfl (by kernel_rfl) ?_
   refine l_f8 ?_
   refine o_store1 rfl rfl rfl ti100 rfl rfl ?_
   refine l_nil (qP p8 (qP p1 (qP p8 (qP p8 (qP p8 (qP p8 (qP p8 (qP p8 (qP p8 ?_)))))))))
   refine h_next ?_
   refine h_done (by kernel_rfl) ?_
   refine qP p6 (qP p6 (qP p6 (qP p6 (qP p6 (qP p6 (qP p6 (qP p8 (qP p8 ?_))))))))
   exact q_mid (a143, c143, a142, x140) (by exact hx140) ⟨vr, vr, vr, vr, vr, vr, vr, vr, vr, vr, vr, vr, vr, vr, vr, vr, vr, vr, vr, vr, vr, vr, vr, vr, vr, vr, vr, vr, vr, vr, vr, vr, vr, vr, vr, vr, vr, vr, vr, vr, vr, vr, vr, vr, vr, vr, vr, vr, vr, vr, vr, vr, vr, vr, vr, vr, vr, vr, vr, vr, vr, vr, vr, vr, trivial⟩ (fun w S => S)
 · -- behind the cut
  rintro ⟨a143, c143, a142, x140⟩ hx140
  try dsimp only at *
  refine c_seq ?_
  refine c_fact (p := ∃ ad, la = some ad) (rds_some (e := e_ItA) (xs := li) (rds_own e_ItA_ok 7 rfl) (by intro h0; rw [h0] at hl3; simp at hl3)) ?_
  rintro ⟨adl, eadl⟩
  refine c_fact (p := ∃ ad, na = some ad) (rds_some (e := e_ItA) (xs := its) (rds_own e_ItA_ok 3 rfl) (by intro h0; rw [h0] at h2; simp at h2; omega)) ?_
  rintro ⟨adn, eadn⟩
  refine cP p3 (cP p3 (cP p8 (cP p8 (cP p8 (cP p8 (cP p8 (cP p8 (cP p8 ?_))))))))
  refine c_held [blk kb (.cells #[.slice a143 ((ki.take 0 ++ x140 :: ki.drop 0)).length c143, .slice kka (kk).length kkc] 103 (0, 0)), row e_ItA.T e_ItA.sz a143 ((ki.take 0 ++ x140 :: ki.drop 0)).length c143 (flat e_ItA (ki.take 0 ++ x140 :: ki.drop 0)), row eN99.T eN99.sz nka (nk).length nkc (flat eN99 nk), row eN99.T eN99.sz kka (kk).length kkc (flat eN99 kk), blk lb (.cells #[.slice la (li).length lc, .slice lka (lk).length lkc] 103 (0, 0)), row e_ItA.T e_ItA.sz la (li).length lc (flat e_ItA li), row eN99.T eN99.sz lka (lk).length lkc (flat eN99 lk)] (by kernel_rfl) rfl ?_
  refine h_take 0 rfl rfl (by kernel_rfl) (by kernel_rfl) (by kernel_rfl) (fun L0 => v_move rfl rfl) ?_
  refine h_take 1 rfl rfl (by kernel_rfl) (by kernel_rfl) (by kernel_rfl) (fun L0 => v_nil rfl rfl) ?_
  refine h_take 2 rfl rfl (by kernel_rfl) (by kernel_rfl) (by kernel_rfl) (fun L0 => v_fieldAddr (q := ⟨b, 0, none⟩) rfl rfl Try.underlying103 rfl ti100 rfl) ?_
  refine h_take 4 rfl rfl (by kernel_rfl) (by kernel_rfl) (by kernel_rfl) (fun L0 => v_move rfl rfl) ?_
  refine h_take 5 rfl rfl (by kernel_rfl) (by kernel_rfl) (by kernel_rfl) (fun L0 => v_bin rfl rfl rfl (b_sub (show IntKind.i64.wrap ((((j + 1 : Nat) : Int)) - 1) = (j : Int) from by rw [wrap_i64 (by omega) (by omega)]; omega))) ?_
  refine h_take 6 rfl rfl (by kernel_rfl) (by kernel_rfl) (by kernel_rfl) (fun L0 => v_move rfl rfl) ?_
  refine h_take 7 rfl rfl (by kernel_rfl) (by kernel_rfl) (by kernel_rfl) (fun L0 => v_nil rfl rfl) ?_
  refine h_take 8 rfl rfl (by kernel_rfl) (by kernel_rfl) (by kernel_rfl) (fun L0 => v_fieldAddr (q := ⟨lb, 0, none⟩) rfl rfl Try.underlying103 rfl ti100 rfl) ?_
  refine h_take 9 rfl rfl (by kernel_rfl) (by kernel_rfl) (by kernel_rfl) (fun L0 => v_load1 rfl rfl Try.underlying100 rfl (rd_mem 4 rfl rfl)) ?_
  refine h_take 10 rfl rfl (by kernel_rfl) (by kernel_rfl) (by kernel_rfl) (fun L0 => v_move rfl rfl) ?_
  refine h_take 11 rfl rfl (by kernel_rfl) (by kernel_rfl) (by kernel_rfl) (fun L0 => v_indexK e_ItA_ok eadl rfl rfl rfl Try.underlying100 (by omega) (by omega)) ?_
  obtain ⟨x157, hx157⟩ : ∃ x, (li)[(((li.length - 1 : Nat) : Int)).toNat]? = some x := ⟨_, List.getElem?_eq_getElem (by omega)⟩
  refine h_take 12 rfl rfl (by kernel_rfl) (by kernel_rfl) (by kernel_rfl) (fun L0 => v_loadn (vs := e_ItA.cells x157) rfl rfl Try.underlying110 rfl ti110 (rdn_sl e_ItA_ok eadl (rds_own e_ItA_ok 5 rfl) hx157)) ?_
  refine h_one 3 rfl (by kernel_rfl) ?_
  refine o_load1 rfl rfl Try.underlying100 rfl (rd_mem 7 rfl rfl) ?_
  refine l_nil (h_next ?_)
  refine h_take 13 rfl rfl (by kernel_rfl) (by kernel_rfl) (by kernel_rfl) (fun L0 => v_indexK e_ItA_ok eadn rfl rfl rfl Try.underlying100 (by omega) (by omega)) ?_
  obtain ⟨x159, hx159⟩ : ∃ x, (its)[((j : Int)).toNat]? = some x := ⟨_, List.getElem?_eq_getElem (by omega)⟩
  refine h_one 14 rfl (by kernel_rfl) ?_
  refine l_f8 ?_
  refine o_storeRowAll e_ItA_ok eadn rfl rfl ti110 x157 rfl (by have := List.getElem?_eq_some_iff.1 hx159; exact this.1) ?_
  refine l_f8 ?_
  refine l_conv (L' := blk b (.cells #[.slice na (its).length nc, .slice nka (nk).length nkc] 103 (0, 0)) :: _) (fun w S => S) ?_
  refine l_conv (L' := blk b (.cells #[.slice na ((its).set ((j : Int)).toNat x157).length nc, .slice nka (nk).length nkc] 103 (0, 0)) :: row e_ItA.T e_ItA.sz na ((its).set ((j : Int)).toNat x157).length nc (flat e_ItA ((its).set ((j : Int)).toNat x157)) :: blk kb (.cells #[.slice a143 ((ki.take 0 ++ x140 :: ki.drop 0)).length c143, .slice kka (kk).length kkc] 103 (0, 0)) :: row e_ItA.T e_ItA.sz a143 ((ki.take 0 ++ x140 :: ki.drop 0)).length c143 (flat e_ItA (ki.take 0 ++ x140 :: ki.drop 0)) :: row eN99.T eN99.sz nka (nk).length nkc (flat eN99 nk) :: row eN99.T eN99.sz kka (kk).length kkc (flat eN99 kk) :: blk lb (.cells #[.slice la (li).length lc, .slice lka (lk).length lkc] 103 (0, 0)) :: row e_ItA.T e_ItA.sz la (li).length lc (flat e_ItA li) :: row eN99.T eN99.sz lka (lk).length lkc (flat eN99 lk) :: F) (fun w S => by first | exact S | simpa only [List.length_set] using S | (simp only [List.length_set] at S ⊢; exact S)) ?_
  refine l_nil (qP p1 (qP p1 (qP p8 (qP p8 (qP p8 (qP p8 (qP p8 (qP p8 (qP p8 ?_)))))))))
  refine h_next ?_
  refine h_done (by kernel_rfl) ?_
  refine q_then (c_seq (c_region (o_move rfl rfl (o_move rfl rfl (o_nil rfl rfl ?_)))))
  refine o_fieldAddr (q := ⟨lb, 0, none⟩) rfl rfl Try.underlying103 rfl ti100 rfl ?_
  refine o_load1 rfl rfl Try.underlying100 rfl (rd_mem 4 rfl rfl) ?_
  refine o_move rfl rfl ?_
  refine o_cut (l' := 0) (h' := (li.length - 1)) (m := lc) rfl rfl Try.underlying100 ti110 (.inl ⟨rfl, rfl⟩) (.inr ⟨_, _, rfl, icast rfl (by omega), (by omega)⟩) (.inl ⟨rfl, rfl⟩) ?_
  obtain ⟨ys166, ay166, cut166, hys166, hlys166, eay166⟩ : ∃ ys_ ay_, (∀ {L : List Res}, RdS W L e_ItA la li → RdS W L e_ItA ay_ ys_) ∧ ys_ = sub li 0 (li.length - 1) ∧ ys_.length = (li.length - 1) - 0 ∧ cutA la lc 0 5 = ay_ := ⟨_, _, fun h => rds_cut e_ItA_ok h _ _ _ (by omega), rfl, sub_len (by omega), rfl⟩
  refine l_eq (t := 166) (v' := .slice ay166 ys166.length (lc - 0)) rfl (by rw [eay166, hlys166]) ?_
  refine o_nil rfl rfl ?_
  refine o_fieldAddr (q := ⟨lb, 0, none⟩) rfl rfl Try.underlying103 rfl ti100 rfl ?_
  refine l_f4 ?_
  refine o_store1 rfl rfl rfl ti100 rfl rfl ?_
  refine l_nil (q_then (c_seq (c_region (o_move rfl rfl (o_nil rfl rfl ?_)))))
  refine o_fieldAddr (q := ⟨lb, 1, none⟩) rfl rfl Try.underlying103 rfl ti101 rfl ?_
  refine o_load1 rfl rfl Try.underlying101 rfl (rd_mem 0 rfl rfl) ?_
  refine o_len rfl rfl Try.underlying101 ?_
  refine o_bin rfl rfl rfl b_gtr ?_
  refine l_nil (q_then ?_)
  refine c_cond rfl (fun h1 => ?_) (fun h1 => ?_)
  · -- h1T
   have h1b := h1
   try simp only [decide_eq_true_eq] at h1
   refine c_seq ?_
   refine c_mid (α := (Option Addr) × Nat × (Option Addr) × Nat) (fun z => [(0, .pointer (some ⟨b, 0, none⟩)), (1, .int .i64 ((j + 1 : Nat) : Int)), (4, .pointer (some ⟨kb, 0, none⟩)), (5, .pointer (some ⟨lb, 0, none⟩)), (6, .int .i64 ((li.length - 1 : Nat) : Int)), (10, .pointer (some ⟨b, 0, none⟩)), (11, .pointer (some ⟨b, 0, none⟩)), (12, .pointer (some ⟨b, 1, none⟩)), (13, .slice nka (nk).length nkc), (14, .int .i64 ((j + 1 : Nat) : Int)), (16, .pointer (some ⟨kb, 0, none⟩)), (90, .bool false), (91, .pointer (some ⟨kb, 0, none⟩)), (92, .pointer (some ⟨kb, 0, none⟩)), (93, .pointer (some ⟨kb, 0, none⟩)), (94, .slice ka (ki).length kc), (95, .int .i64 ((ki).length : Int)), (96, .bool false), (97, .bool true), (98, .int .i64 ((j + 1 : Nat) : Int)), (99, .bool true), (100, .bool true), (101, .pointer (some ⟨b, 0, none⟩)), (102, .pointer (some ⟨b, 0, none⟩)), (103, .pointer (some ⟨b, 1, none⟩)), (104, .slice nka (nk).length nkc), (105, .int .i64 ((j + 1 : Nat) : Int)), (106, .int .i64 (j : Int)), (108, .pointer (some ⟨lb, 0, none⟩)), (109, .pointer (some ⟨lb, 0, none⟩)), (110, .pointer (some ⟨lb, 0, none⟩)), (111, .slice la (li).length lc), (112, .int .i64 ((li).length : Int)), (113, .bool true), (114, .bool true), (115, .pointer (some ⟨b, 0, none⟩)), (116, .pointer (some ⟨b, 0, none⟩)), (117, .pointer (some ⟨b, 1, none⟩)), (118, .slice nka (nk).length nkc), (119, .int .i64 ((j + 1 : Nat) : Int)), (120, .int .i64 (j : Int)), (122, .pointer (some ⟨lb, 0, none⟩)), (123, .pointer (some ⟨lb, 0, none⟩)), (124, .pointer (some ⟨lb, 0, none⟩)), (125, .pointer (some ⟨lb, 0, none⟩)), (126, .slice la (li).length lc), (127, .int .i64 ((li).length : Int)), (128, .int .i64 ((li.length - 1 : Nat) : Int)), (129, .pointer (some ⟨kb, 0, none⟩)), (130, .pointer (some ⟨kb, 0, none⟩)), (131, .pointer (some ⟨kb, 0, none⟩)), (132, .pointer (some ⟨kb, 0, none⟩)), (133, .slice ka (ki).length kc), (134, .pointer (some ⟨b, 0, none⟩)), (135, .pointer (some ⟨b, 0, none⟩)), (136, .pointer (some ⟨b, 0, none⟩)), (137, .slice na ((its).set ((j : Int)).toNat x157).length nc), (138, .int .i64 ((j + 1 : Nat) : Int)), (139, .int .i64 (j : Int)), (141, .agg #[.string x140.f_key, .bool x140.f_value.f_Has, .slice x140.f_value.f_Value.a (x140.f_value.f_Value.xs).length x140.f_value.f_Value.c, .int .i64 x140.f_value.f_Home, .int .u64 x140.f_value.f_Count]), (142, .slice a142 ([x140]).length 1), (143, .slice a143 ((ki.take 0 ++ x140 :: ki.drop 0)).length c143), (144, .pointer (some ⟨kb, 0, none⟩)), (145, .pointer (some ⟨kb, 0, none⟩)), (146, .pointer (some ⟨b, 0, none⟩)), (147, .pointer (some ⟨b, 0, none⟩)), (148, .pointer (some ⟨b, 0, none⟩)), (149, .slice na ((its).set ((j : Int)).toNat x157).length nc), (150, .int .i64 ((j + 1 : Nat) : Int)), (151, .int .i64 (j : Int)), (152, .pointer (some ⟨lb, 0, none⟩)), (153, .pointer (some ⟨lb, 0, none⟩)), (154, .pointer (some ⟨lb, 0, none⟩)), (155, .slice la (li).length lc), (156, .int .i64 ((li.length - 1 : Nat) : Int)), (158, .agg #[.string x157.f_key, .bool x157.f_value.f_Has, .slice x157.f_value.f_Value.a (x157.f_value.f_Value.xs).length x157.f_value.f_Value.c, .int .i64 x157.f_value.f_Home, .int .u64 x157.f_value.f_Count]), (160, .pointer (some ⟨lb, 0, none⟩)), (161, .pointer (some ⟨lb, 0, none⟩)), (162, .pointer (some ⟨lb, 0, none⟩)), (163, .pointer (some ⟨lb, 0, none⟩)), (164, .slice la (li).length lc), (165, .int .i64 ((li.length - 1 : Nat) : Int)), (166, .slice ay166 (ys166).length (lc - 0)), (167, .pointer (some ⟨lb, 0, none⟩)), (168, .pointer (some ⟨lb, 0, none⟩)), (169, .pointer (some ⟨lb, 0, none⟩)), (170, .pointer (some ⟨lb, 0, none⟩)), (171, .pointer (some ⟨lb, 1, none⟩)), (172, .slice lka (lk).length lkc), (173, .int .i64 ((lk).length : Int)), (174, .bool (decide (0 < ((lk).length : Int)))), (175, .pointer (some ⟨kb, 0, none⟩)), (176, .pointer (some ⟨kb, 0, none⟩)), (177, .pointer (some ⟨kb, 0, none⟩)), (178, .pointer (some ⟨kb, 1, none⟩)), (179, .slice kka (kk).length kkc), (180, .pointer (some ⟨lb, 0, none⟩)), (181, .pointer (some ⟨lb, 0, none⟩)), (182, .pointer (some ⟨lb, 1, none⟩)), (183, .slice lka (lk).length lkc), (184, .int .i64 ((li.length - 1 : Nat) : Int)), (185, .int .i64 (li.length : Int)), (187, .pointer (some ⟨z.2.2.2, 0, none⟩)), (188, .slice z.2.2.1 ([z.2.2.2]).length 1), (189, .slice z.1 ((kk.take 0 ++ z.2.2.2 :: kk.drop 0)).length z.2.1), (190, .pointer (some ⟨kb, 0, none⟩)), (191, .pointer (some ⟨kb, 1, none⟩))]) (fun z => blk kb (.cells #[.slice a143 ((ki.take 0 ++ x140 :: ki.drop 0)).length c143, .slice z.1 ((kk.take 0 ++ z.2.2.2 :: kk.drop 0)).length z.2.1] 103 (0, 0)) :: row eN99.T eN99.sz z.1 ((kk.take 0 ++ z.2.2.2 :: kk.drop 0)).length z.2.1 (flat eN99 (kk.take 0 ++ z.2.2.2 :: kk.drop 0)) :: blk lb (.cells #[.slice ay166 (ys166).length (lc - 0), .slice lka (lk).length lkc] 103 (0, 0)) :: row e_ItA.T e_ItA.sz a143 ((ki.take 0 ++ x140 :: ki.drop 0)).length c143 (flat e_ItA (ki.take 0 ++ x140 :: ki.drop 0)) :: row eN99.T eN99.sz nka (nk).length nkc (flat eN99 nk) :: row e_ItA.T e_ItA.sz la (li).length lc (flat e_ItA li) :: row eN99.T eN99.sz lka (lk).length lkc (flat eN99 lk) :: blk b (.cells #[.slice na ((its).set ((j : Int)).toNat x157).length nc, .slice nka (nk).length nkc] 103 (0, 0)) :: row e_ItA.T e_ItA.sz na ((its).set ((j : Int)).toNat x157).length nc (flat e_ItA ((its).set ((j : Int)).toNat x157)) :: F) (fun z => lk[((li.length : Int)).toNat]? = some z.2.2.2) ?_ ?_
   · -- cut
    have hlk := hlk0 (by omega)
    refine c_fact (p := ∃ ad, lka = some ad) (rds_some (e := eN99) (xs := lk) (rds_own eN99_ok 6 rfl) (by intro h0; rw [h0] at hlk; simp at hlk)) ?_
    rintro ⟨adk, eadk⟩
    refine cP p4 (cP p2 (cP p8 (cP p8 (cP p8 (cP p8 (cP p8 (cP p8 (cP p8 ?_))))))))
    refine c_held [blk lb (.cells #[.slice ay166 (ys166).length (lc - 0), .slice lka (lk).length lkc] 103 (0, 0)), row e_ItA.T e_ItA.sz a143 ((ki.take 0 ++ x140 :: ki.drop 0)).length c143 (flat e_ItA (ki.take 0 ++ x140 :: ki.drop 0)), row eN99.T eN99.sz nka (nk).length nkc (flat eN99 nk), row e_ItA.T e_ItA.sz la (li).length lc (flat e_ItA li), row eN99.T eN99.sz lka (lk).length lkc (flat eN99 lk), blk b (.cells #[.slice na ((its).set ((j : Int)).toNat x157).length nc, .slice nka (nk).length nkc] 103 (0, 0)), row e_ItA.T e_ItA.sz na ((its).set ((j : Int)).toNat x157).length nc (flat e_ItA ((its).set ((j : Int)).toNat x157))] (by kernel_rfl) rfl ?_
    refine h_take 0 rfl rfl (by kernel_rfl) (by kernel_rfl) (by kernel_rfl) (fun L0 => v_move rfl rfl) ?_
    refine h_take 1 rfl rfl (by kernel_rfl) (by kernel_rfl) (by kernel_rfl) (fun L0 => v_move rfl rfl) ?_
    refine h_take 2 rfl rfl (by kernel_rfl) (by kernel_rfl) (by kernel_rfl) (fun L0 => v_nil rfl rfl) ?_
    refine h_take 3 rfl rfl (by kernel_rfl) (by kernel_rfl) (by kernel_rfl) (fun L0 => v_fieldAddr (q := ⟨kb, 1, none⟩) rfl rfl Try.underlying103 rfl ti101 rfl) ?_
    refine h_take 5 rfl rfl (by kernel_rfl) (by kernel_rfl) (by kernel_rfl) (fun L0 => v_move rfl rfl) ?_
    refine h_take 6 rfl rfl (by kernel_rfl) (by kernel_rfl) (by kernel_rfl) (fun L0 => v_nil rfl rfl) ?_
    refine h_take 7 rfl rfl (by kernel_rfl) (by kernel_rfl) (by kernel_rfl) (fun L0 => v_fieldAddr (q := ⟨lb, 1, none⟩) rfl rfl Try.underlying103 rfl ti101 rfl) ?_
    refine h_take 8 rfl rfl (by kernel_rfl) (by kernel_rfl) (by kernel_rfl) (fun L0 => v_load1 rfl rfl Try.underlying101 rfl (rd_mem 0 rfl rfl)) ?_
    refine h_take 9 rfl rfl (by kernel_rfl) (by kernel_rfl) (by kernel_rfl) (fun L0 => v_move rfl rfl) ?_
    refine h_take 10 rfl rfl (by kernel_rfl) (by kernel_rfl) (by kernel_rfl) (fun L0 => v_bin rfl rfl rfl (b_add (show IntKind.i64.wrap (((li.length - 1 : Nat) : Int) + 1) = (li.length : Int) from by rw [wrap_i64 (by omega) (by omega)]; omega))) ?_
    refine h_take 11 rfl rfl (by kernel_rfl) (by kernel_rfl) (by kernel_rfl) (fun L0 => v_indexK eN99_ok eadk rfl rfl rfl Try.underlying101 (by omega) (by omega)) ?_
    obtain ⟨x186, hx186⟩ : ∃ x, (lk)[((li.length : Int)).toNat]? = some x := ⟨_, List.getElem?_eq_getElem (by omega)⟩
    refine h_take 12 rfl rfl (by kernel_rfl) (by kernel_rfl) (by kernel_rfl) (fun L0 => v_load1 rfl rfl Try.underlying99 rfl (rd_sl0 eN99_ok eadk (rds_own eN99_ok 4 rfl) hx186 rfl)) ?_
    refine h_many (is := [4, 13]) (by kernel_rfl) (by decide) (forall_cons ⟨_, rfl, ?_⟩ (forall_cons ⟨_, rfl, ?_⟩ forall_nil))
    · -- 4 comes first
     refine o_load1 rfl rfl Try.underlying101 rfl (rd_mem 7 rfl rfl) ?_
     refine l_nil (h_next ?_)
     refine h_one 13 rfl (by kernel_rfl) ?_
     refine o_lit eN99_ok rfl Try.underlying101 rfl rfl rfl (lit_ok rfl) [x186] rfl rfl fun a188 => ?_
     refine l_nil (qP p9 (qP p9 (qP p2 (qP p9 (qP p9 (qP p9 (qP p9 (qP p9 (qP p9 ?_)))))))))
     refine qP p9 (h_next ?_)
     refine h_one 14 rfl (by kernel_rfl) ?_
     refine l_f7 (l_f9 ?_)
     refine o_call rfl cal75 rfl (insK_A (xs := kk) (x := x186) (i := 0) (by omega) (by omega)) ?_
     rintro _ _ ⟨a189, c189, rfl, rfl⟩
     refine l_nil (qP p8 (qP p1 (qP p8 (qP p8 (qP p8 (qP p8 (qP p8 (qP p8 (qP p8 ?_)))))))))
     refine h_next ?_
     refine h_take 15 rfl rfl (by kernel_rfl) (by kernel_rfl) (by kernel_rfl) (fun L0 => v_nil rfl rfl) ?_
     refine h_take 16 rfl rfl (by kernel_rfl) (by kernel_rfl) (by kernel_rfl) (fun L0 => v_fieldAddr (q := ⟨kb, 1, none⟩) rfl rfl Try.underlying103 rfl ti101 rfl) ?_
     refine h_one 17 rfl (by kernel_rfl) ?_
     refine l_f8 ?_
     refine o_store1 rfl rfl rfl ti101 rfl rfl ?_
     refine l_nil (qP p8 (qP p1 (qP p8 (qP p8 (qP p8 (qP p8 (qP p8 (qP p8 (qP p8 ?_)))))))))
     refine h_next ?_
     refine h_done (by kernel_rfl) ?_
     refine qP p6 (qP p6 (qP p6 (qP p6 (qP p6 (qP p6 (qP p6 (qP p8 (qP p8 ?_))))))))
     exact q_mid (a189, c189, a188, x186) (by exact hx186) ⟨vr, vr, vr, vr, vr, vr, vr, vr, vr, vr, vr, vr, vr, vr, vr, vr, vr, vr, vr, vr, vr, vr, vr, vr, vr, vr, vr, vr, vr, vr, vr, vr, vr, vr, vr, vr, vr, vr, vr, vr, vr, vr, vr, vr, vr, vr, vr, vr, vr, vr, vr, vr, vr, vr, vr, vr, (by first | rfl | (rw [List.length_set]; rfl)), vr, vr, vr, vr, vr, vr, vr, vr, vr, vr, (by first | rfl | (rw [List.length_set]; rfl)), vr, vr, vr, vr, vr, vr, vr, vr, vr, vr, vr, vr, vr, vr, vr, vr, vr, vr, vr, vr, vr, vr, vr, vr, vr, vr, vr, vr, vr, vr, vr, vr, vr, vr, vr, vr, vr, vr, vr, trivial⟩ (fun w S => S)
    · -- 13 comes first
     refine o_lit eN99_ok rfl Try.underlying101 rfl rfl rfl (lit_ok rfl) [x186] rfl rfl fun a188 => ?_
     refine l_nil (qP p9 (qP p9 (qP p2 (qP p9 (qP p9 (qP p9 (qP p9 (qP p9 (qP p9 ?_)))))))))
     refine qP p9 (h_next ?_)
     refine h_one 4 rfl (by kernel_rfl) ?_
     refine o_load1 rfl rfl Try.underlying101 rfl (rd_mem 8 rfl rfl) ?_
     refine l_nil (h_next ?_)
     refine h_one 14 rfl (by kernel_rfl) ?_
     refine l_f7 (l_f9 ?_)
     refine o_call rfl cal75 rfl (insK_A (xs := kk) (x := x186) (i := 0) (by omega) (by omega)) ?_
     rintro _ _ ⟨a189, c189, rfl, rfl⟩
     refine l_nil (qP p8 (qP p1 (qP p8 (qP p8 (qP p8 (qP p8 (qP p8 (qP p8 (qP p8 ?_)))))))))
     refine h_next ?_
     refine h_take 15 rfl rfl (by kernel_rfl) (by kernel_rfl) (by kernel_rfl) (fun L0 => v_nil rfl rfl) ?_
     refine h_take 16 rfl rfl (by kernel_rfl) (by kernel_rfl) (by kernel_rfl) (fun L0 => v_fieldAddr (q := ⟨kb, 1, none⟩) rfl rfl Try.underlying103 rfl ti101 rfl) ?_
     refine h_one 17 rfl (by kernel_rfl) ?_
     refine l_f8 ?_
     refine o_store1 rfl rfl rfl ti101 rfl rfl ?_
     refine l_nil (qP p8 (qP p1 (qP p8 (qP p8 (qP p8 (qP p8 (qP p8 (qP p8 (qP p8 ?_)))))))))
     refine h_next ?_
     refine h_done (by kernel_rfl) ?_
     refine qP p6 (qP p6 (qP p6 (qP p6 (qP p6 (qP p6 (qP p6 (qP p8 (qP p8 ?_))))))))
     exact q_mid (a189, c189, a188, x186) (by exact hx186) ⟨vr, vr, vr, vr, vr, vr, vr, vr, vr, vr, vr, vr, vr, vr, vr, vr, vr, vr, vr, vr, vr, vr, vr, vr, vr, vr, vr, vr, vr, vr, vr, vr, vr, vr, vr, vr, vr, vr, vr, vr, vr, vr, vr, vr, vr, vr, vr, vr, vr, vr, vr, vr, vr, vr, vr, vr, (by first | rfl | (rw [List.length_set]; rfl)), vr, vr, vr, vr, vr, vr, vr, vr, vr, vr, (by first | rfl | (rw [List.length_set]; rfl)), vr, vr, vr, vr, vr, vr, vr, vr, vr, vr, vr, vr, vr, vr, vr, vr, vr, vr, vr, vr, vr, vr, vr, vr, vr, vr, vr, vr, vr, vr, vr, vr, vr, vr, vr, vr, vr, vr, vr, trivial⟩ (fun w S => S)
   · -- behind the cut
    rintro ⟨a189, c189, a188, x186⟩ hx186
    try dsimp only at *
    refine c_region (o_move rfl rfl (o_move rfl rfl (o_nil rfl rfl ?_)))
    refine o_fieldAddr (q := ⟨lb, 1, none⟩) rfl rfl Try.underlying103 rfl ti101 rfl ?_
    refine o_load1 rfl rfl Try.underlying101 rfl (rd_mem 2 rfl rfl) ?_
    refine o_move rfl rfl ?_
    refine o_bin rfl rfl rfl (b_add (show IntKind.i64.wrap (((li.length - 1 : Nat) : Int) + 1) = (li.length : Int) from by rw [wrap_i64 (by omega) (by omega)]; omega)) ?_
    refine o_cut (l' := 0) (h' := li.length) (m := lkc) rfl rfl Try.underlying101 ti99 (.inl ⟨rfl, rfl⟩) (.inr ⟨_, _, rfl, icast rfl (by omega), (by omega)⟩) (.inl ⟨rfl, rfl⟩) ?_
    obtain ⟨ys199, ay199, cut199, hys199, hlys199, eay199⟩ : ∃ ys_ ay_, (∀ {L : List Res}, RdS W L eN99 lka lk → RdS W L eN99 ay_ ys_) ∧ ys_ = sub lk 0 li.length ∧ ys_.length = li.length - 0 ∧ cutA lka lkc 0 1 = ay_ := ⟨_, _, fun h => rds_cut eN99_ok h _ _ _ (by omega), rfl, sub_len (by omega), rfl⟩
    refine l_eq (t := 199) (v' := .slice ay199 ys199.length (lkc - 0)) rfl (by rw [eay199, hlys199]) ?_
    refine o_nil rfl rfl ?_
    refine o_fieldAddr (q := ⟨lb, 1, none⟩) rfl rfl Try.underlying103 rfl ti101 rfl ?_
    refine l_f2 ?_
    refine o_store1 rfl rfl rfl ti101 rfl rfl ?_
    refine l_nil (q_block (qP p6 (qP p6 (qP p2 (qP p4 (qP p5 (qP p5 (qP p6 (qP p8 ?_)))))))))
    refine qP p8 ?_
    exact f_end (r_none rfl) (⟨x140, x157, a143, c143, (show its[j]? = some x140 from by have h9 := hx140; rw [show ((j : Int)).toNat = j from rfl] at h9; exact h9), (show li[li.length - 1]? = some x157 from by have h9 := hx157; rw [show (((li.length - 1 : Nat) : Int)).toNat = li.length - 1 from rfl] at h9; exact h9), .inr ⟨a189, c189, x186, (show lk[li.length]? = some x186 from by have h9 := hx186; rw [show (((li.length : Nat) : Int)).toNat = li.length from rfl] at h9; exact h9), rfl⟩⟩) (fun w S => by (rw [show ((j : Int)).toNat = j from rfl, List.length_set, hlys166, ← eay166, cutA_0, Nat.sub_zero, Nat.sub_zero, hlys199, ← eay199, cutA_0, Nat.sub_zero, Nat.sub_zero] at S); exact S)
  · -- h1F
   have h1b := h1
   try simp only [decide_eq_false_iff_not, Int.not_lt, Int.not_le] at h1
   refine c_skip (q_block (qP p6 (qP p6 (qP p2 (qP p6 (qP p5 (qP p5 (qP p6 (qP p8 ?_)))))))))
   refine qP p8 ?_
   exact f_end (r_none rfl) (⟨x140, x157, a143, c143, (show its[j]? = some x140 from by have h9 := hx140; rw [show ((j : Int)).toNat = j from rfl] at h9; exact h9), (show li[li.length - 1]? = some x157 from by have h9 := hx157; rw [show (((li.length - 1 : Nat) : Int)).toNat = li.length - 1 from rfl] at h9; exact h9), .inl ⟨by omega, rfl⟩⟩) (fun w S => by (rw [show ((j : Int)).toNat = j from rfl, List.length_set, hlys166, ← eay166, cutA_0, Nat.sub_zero, Nat.sub_zero] at S); exact S)
end
end Go.Proofs.Ytnfbjidpiglabaa
