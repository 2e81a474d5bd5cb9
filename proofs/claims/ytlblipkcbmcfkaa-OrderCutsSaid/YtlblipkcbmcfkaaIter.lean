/- A range over a function whose rounds leave the iterator's own memory alone, however it lies. -/
import Derived.Test.YtlblipkcbmcfkaaTree
set_option linter.unusedVariables false
set_option linter.unusedSimpArgs false
namespace Go.Proofs.Ytlblipkcbmcfkaa
open Go.RowKit
/-- An iterator: called with any yield that keeps 'I' (what has come: 'pre') and tells by 'J' that it wants no more, beside whatever else there is. -/
def IterG {X : Type} (P : Program) (gf : FuncId) (caps : Array Value) (encs : X → List Value) (W : World) (Li : List Res) (xs : List X) : Prop :=
  ∀ (y : Value) (I : List X → List Res → Prop) (J : List Res → Prop) (L0 : List Res), I [] L0 →
    (∀ (Lx : List Res) pre x L, I pre L → pre ++ [x] <+: xs → FV P y (encs x) W (Lx ++ L) (fun v L' => ∃ (bb : Bool) (L2 : List Res), v = .bool bb ∧ ((bb = true ∧ I (pre ++ [x]) L2) ∨ (bb = false ∧ J L2)) ∧ L' = Lx ++ L2)) →
    CS P gf (#[y] ++ caps) W (Li ++ L0) (fun _ L' => ∃ L2, (I xs L2 ∨ J L2) ∧ L' = Li ++ L2)
section
variable {P : Program} {N : FN} {l : Fr} {W : World} {L L' L0 : List Res} {Q : Exit → Act → World → Prop}
/-- The statement 'for .. := range g { .. }' that is in no other's round. -/
theorem c_rangeG {X : Type} {g : Operand} {ps : Array Tmp} {assign body : Code} {gf : FuncId} {caps : Array Value} {encs : X → List Value} {xs : List X} {Li : List Res} (I : List X → List Res → Prop) (J : Code → List Res → Prop)
    (hro : N.ro = none) (hx : opv l g = some (.func (.func gf) #[] caps)) (hcl : Callable P gf) (hps : ps.toList.all (fun t => Nat.ble (t + 1) N.n) = true) (hen : ∀ x, ps.toList.length = (encs x).length) (hit : IterG P gf caps encs W Li xs) (hL : ∀ w, Sat W w L → Sat W w (Li ++ L0)) (h0 : I [] L0)
    (hround : ∀ (Lx : List Res) (k : Nat) (r : Loop) (D : Res) pre x Lp, r.state = .ready → I pre Lp → pre ++ [x] <+: xs →
      WC P assign (postB P k body fun e w' => ∃ v L', e = .returned v ∧ ((v = .bool true ∧ ∃ L2, I (pre ++ [x]) L2 ∧ L' = blk k (.loop { r with state := .ready, pending := none }) :: D :: (Lx ++ L2)) ∨ (v = .bool false ∧ ∃ c L2, J c L2 ∧ L' = blk k (.loop { r with state := .done, pending := some c }) :: D :: (Lx ++ L2))) ∧ Sat W w' L')
        { n := N.n, ro := some k } (putArgs ps.toList (encs x) l) W (blk k (.loop r) :: D :: (Lx ++ Lp)))
    (hdone : ∀ (d : Nat) Lp, I xs Lp → WQ Q .normal { N with df := markD d :: N.df } l W (blk d (.deferred (some [])) :: (Li ++ Lp)))
    (hjump : ∀ (d : Nat) c Lp, J c Lp → WC P c Q { N with df := markD d :: N.df } l W (blk d (.deferred (some [])) :: (Li ++ Lp))) :
    WC P (.rangeFunc g ps assign body) Q N l W L := fun a w K S => by
  refine wpIn_rangeFunc fun fn _ => ?_
  have hfr : (fen N.ro).round = none := hro
  rw [hfr]
  let D : Res := blk w.heap.size (.deferred (some []))
  let r0 : Loop := { state := .ready, pending := none, fn, tmps := a.tmps, params := ps, assign, body, defers := w.heap.size }
  have S1 : Sat W (w.alloc (.deferred (some []))) (D :: (Li ++ L0)) := (hL w S).alloc _
  have S2 := S1.alloc (.loop r0)
  obtain ⟨k, hk⟩ : ∃ k, k = (w.alloc (.deferred (some []))).heap.size := ⟨_, rfl⟩
  rw [← hk] at S2
  have hks : k = w.heap.size + 1 := by rw [hk]; simp
  have pm : ∀ (A B : Res) (L : List Res), (A :: B :: (Li ++ L)).Perm (Li ++ (A :: B :: L)) := fun A B L =>
    ((List.Perm.cons A List.perm_middle.symm).trans List.perm_middle.symm)
  have pm' : ∀ (M : List Res) (A B : Res) (L : List Res), (A :: B :: (M ++ L)).Perm (M ++ (A :: B :: L)) := fun M A B L =>
    ((List.Perm.cons A List.perm_middle.symm).trans List.perm_middle.symm)
  have S3 : Sat W ((w.alloc (.deferred (some []))).alloc (.loop r0)) (Li ++ (blk k (.loop r0) :: D :: L0)) := S2.perm (pm _ _ _)
  have hcall := hit (.func (.yield k) #[] #[])
    (fun pre L => ∃ (r : Loop) (Lp : List Res), r.state = .ready ∧ r.pending = none ∧ r.fn = fn ∧ r.tmps = a.tmps ∧ r.params = ps ∧ r.assign = assign ∧ r.body = body ∧ I pre Lp ∧ L = blk k (.loop r) :: D :: Lp)
    (fun L => ∃ (r : Loop) (c : Code) (Lp : List Res), r.state = .done ∧ r.pending = some c ∧ J c Lp ∧ L = blk k (.loop r) :: D :: Lp)
    _ ⟨r0, L0, rfl, rfl, rfl, rfl, rfl, rfl, rfl, h0, rfl⟩ (by
      rintro Lx pre x L ⟨r, Lp, hr1, hr2, hr3, hr4, hr5, hr6, hr7, hI, rfl⟩ hpre w1 Sw ρ xo as_ tys dst ty pos af gd hxo has
      have Sk : Sat W w1 (blk k (.loop r) :: D :: (Lx ++ Lp)) := Sw.perm (pm' Lx _ _ _).symm
      have hy := run_yield (P := P) (args := (encs x).toArray) Sk.read.2 (by
        rw [hr5]; have := hen x; simpa using this.symm)
      refine ⟨.round k r.fn ((r.params.zip (encs x).toArray).foldl (fun tmps (p : Nat × Value) => tmps.setIfInBounds p.1 p.2) r.tmps) r.assign r.body, w1, ?_, .inr ⟨k, r.fn, _, r.assign, r.body, rfl, ?_⟩⟩
      · simp only [execOp, resolve, hxo, has, Deferred.ofValue, Sem.run_bind, Sem.run_pure, Result.andThen_ok, invoke]
        simpa using hy
      · rw [hr6, hr7, hr4, hr5]
        have K1 : Know { tmps := a.tmps, defers := [] } { n := N.n, ro := some k } l := ⟨K.size, rfl, K.val⟩
        have K2 := know_putArgs ps.toList (encs x) K1 hps (hen x)
        have h9 := hround Lx k r D pre x Lp hr1 hI hpre _ w1 K2 Sk
        have hz : (ps.zip (encs x).toArray).foldl (fun tmps (p : Nat × Value) => tmps.setIfInBounds p.1 p.2) a.tmps = (ps.toList.zip (encs x)).foldl (fun tmps (p : Nat × Value) => tmps.setIfInBounds p.1 p.2) a.tmps := by
          rw [← Array.foldl_toList, Array.toList_zip]
        have h8 : RoundIn (fen none) 0 P k r.fn _ assign body w1 _ := roundIn_of_wpIn (F := fen none) trivial h9
        have h7 : RoundIn Fence.wide 0 P k r.fn _ assign body w1 _ := h8
        have h6 : RoundIn Fence.wide 0 P k r.fn ((ps.zip (encs x).toArray).foldl (fun tmps (p : Nat × Value) => tmps.setIfInBounds p.1 p.2) a.tmps) assign body w1 _ := hz ▸ h7
        refine h6.mono ?_
        rintro e w2 ⟨v, L', rfl, hv, hs⟩
        rcases hv with ⟨rfl, L2, hI2, rfl⟩ | ⟨rfl, c, L2, hJ2, rfl⟩
        · exact ⟨_, _, rfl, ⟨true, _, rfl, .inl ⟨rfl, ⟨{ r with state := .ready, pending := none }, L2, rfl, rfl, hr3, hr4, hr5, hr6, hr7, hI2, rfl⟩⟩, rfl⟩, hs.perm (pm' Lx _ _ _)⟩
        · exact ⟨_, _, rfl, ⟨false, _, rfl, .inr ⟨rfl, ⟨{ r with state := .done, pending := some c }, c, L2, rfl, rfl, hJ2, rfl⟩⟩, rfl⟩, hs.perm (pm' Lx _ _ _)⟩)
  obtain ⟨gn, hf, hb, hn⟩ := hcl.is
  have hn' : ¬ gn.name = "runtime.NumGoroutine" := by simpa using hn
  have hb' : ¬ gn.body = none := by
    intro h0
    rw [h0] at hb
    cases hb
  obtain ⟨w3, hw3⟩ : ∃ w3, w3 = (w.alloc (.deferred (some []))).alloc (.loop r0) := ⟨_, rfl⟩
  rw [← hw3] at S3
  refine ⟨k, [markD w.heap.size], w3, { target := .fn (.func gf) caps, args := #[.func (.yield k) #[] #[]] }, w3, gf, #[.func (.yield k) #[] #[]] ++ caps, w3, ?_, ?_, fun _ _ => trivial, ?_, by simp [fen], ?_⟩
  · rw [hks, hw3]; exact run_enterLoop_outer _ _ _ _ _
  · simp only [resolve, K.eval hx, Deferred.ofValue]
    simp [Act.eval]
  · simp only [invoke, callFunc]
    simp [hf, hb', hn']
  · have h5 : CallsIn (fen none) 0 P gf (#[.func (.yield k) #[] #[]] ++ caps) _ _ := calls_in (hcall _ S3)
    refine h5.mono ?_
    rintro e w2 ⟨v, L', rfl, ⟨L2, hL2, rfl⟩, hs⟩
    rcases hL2 with ⟨r, Lp, hr1, hr2, _, _, _, _, _, hI, rfl⟩ | ⟨r, c, Lp, hr1, hr2, hJ, rfl⟩
    · have hs1 := hs.perm (pm _ _ _).symm
      refine ⟨none, w2.putObj k (.loop { r with state := .exhausted }), by rw [run_endLoop hs1.read.2 (by rw [hr1]; simp), hr2], ?_⟩
      exact hdone w.heap.size Lp hI _ _ ⟨K.size, by show [markD w.heap.size] ++ a.defers = _; rw [K.dfr]; rfl, K.val⟩ (hs1.putObj (o' := .loop { r with state := .exhausted })).tail
    · have hs1 := hs.perm (pm _ _ _).symm
      refine ⟨some c, w2.putObj k (.loop { r with state := .exhausted }), by rw [run_endLoop hs1.read.2 (by rw [hr1]; simp), hr2], ?_⟩
      have h4 := hjump w.heap.size c Lp hJ { tmps := a.tmps, defers := [markD w.heap.size] ++ a.defers } _ ⟨K.size, by show [markD w.heap.size] ++ a.defers = _; rw [K.dfr]; rfl, K.val⟩ (hs1.putObj (o' := .loop { r with state := .exhausted })).tail
      exact h4
end
theorem rgP {A B : Res} (Lx I F : List Res) : (A :: B :: (Lx ++ (I ++ F))).Perm (A :: B :: (I ++ (Lx ++ F))) := ((List.perm_append_comm_assoc Lx I F).cons B).cons A
/-! ### Going through a node -/
section
open Classical
variable {α κ : Type} {key : α → κ} {lt : κ → κ → Prop}
noncomputable def sel (key : α → κ) (lt : κ → κ → Prop) (fo : Option κ) (xs : List α) : List α := match fo with
  | none => xs
  | some k => xs.filter fun y => decide (¬ lt (key y) k)
def atK (kids : List (List α)) (i : Nat) : List α := (kids[i]?).getD []
noncomputable def restW (key : α → κ) (lt : κ → κ → Prop) (kids : List (List α)) (items : List α) (i : Nat) (fo : Option κ) : List α := sel key lt fo (atK kids i) ++ post (items.drop i) (kids.drop (i + 1))
theorem sel_append {fo : Option κ} {xs ys : List α} : sel key lt fo (xs ++ ys) = sel key lt fo xs ++ sel key lt fo ys := by cases fo <;> simp [sel]
theorem sel_ge {k : κ} {xs : List α} (h : ∀ y ∈ xs, ¬ lt (key y) k) : sel key lt (some k) xs = xs := by
  simp only [sel]; rw [List.filter_eq_self]; intro y hy; simpa using h y hy
theorem sel_lt {k : κ} {xs : List α} (h : ∀ y ∈ xs, lt (key y) k) : sel key lt (some k) xs = [] := by
  simp only [sel]; rw [List.filter_eq_nil_iff]; intro y hy; simpa using h y hy
theorem sel_nil {fo : Option κ} : sel key lt fo ([] : List α) = [] := by cases fo <;> rfl
theorem post_nil : ∀ (its : List α), post its [] = its
  | [] => rfl
  | i :: its => by rw [post, post_nil its]
theorem rest_0 {kids : List (List α)} {items : List α} : restW key lt kids items 0 none = weave kids items := by
  cases kids with
  | nil => simp [restW, weave, sel, atK, post_nil]
  | cons k ks => simp [restW, weave, sel, atK]
theorem rest_some (o : Sto lt) {kids : List (List α)} {items : List α} {i : Nat} {k : κ} (hl : kids = [] ∨ kids.length = items.length + 1) (hf : Found key lt k items i) (hs : Srt key lt (weave kids items)) : sel key lt (some k) (weave kids items) = restW key lt kids items i (some k) := by
  rcases hl with rfl | hl
  · show sel key lt (some k) items = sel key lt (some k) (atK [] i) ++ post (items.drop i) []
    rw [post_nil, show atK ([] : List (List α)) i = [] by simp [atK], sel_nil, List.nil_append]
    conv => lhs; rw [← List.take_append_drop i items]
    rw [sel_append, sel_lt hf.lo, sel_ge hf.hi, List.nil_append]
  · have hi := hf.le
    obtain ⟨kd, hkd⟩ : ∃ kd, kids[i]? = some kd := ⟨_, List.getElem?_eq_getElem (by omega)⟩
    have hw : weave kids items = preW (kids.take i) (items.take i) ++ (kd ++ post (items.drop i) (kids.drop (i + 1))) := by
      conv => lhs; rw [take_get hkd, ← List.take_append_drop i items]
      exact weave_at (by rw [List.length_take, List.length_take]; omega)
    rw [hw] at hs ⊢
    have hs' := List.pairwise_append.1 hs
    rw [sel_append, sel_append, sel_lt, sel_ge (xs := post _ _), List.nil_append]
    · simp [restW, atK, hkd]
    · intro s hsx
      obtain ⟨e, he, h9⟩ := mem_post (by rw [List.length_drop, List.length_drop]; omega) hsx (List.pairwise_append.1 hs'.2.1).2.1
      rcases h9 with rfl | h9
      · exact hf.hi s he
      · exact fun h8 => hf.hi e he (o.tr h9 h8)
    · intro p hp
      obtain ⟨c, hc, h9⟩ := mem_preW (by rw [List.length_take, List.length_take]; omega) hp hs'.1 o
      rcases h9 with rfl | h9
      · exact hf.lo p hc
      · exact o.tr h9 (hf.lo c hc)
theorem rest_item {kids : List (List α)} {items : List α} {i : Nat} {y : α} (hl : kids = [] ∨ kids.length = items.length + 1) (hy : items[i]? = some y) : post (items.drop i) (kids.drop (i + 1)) = y :: restW key lt kids items (i + 1) none := by
  obtain ⟨hi, rfl⟩ := List.getElem?_eq_some_iff.1 hy
  rw [List.drop_eq_getElem_cons hi]
  rcases hl with rfl | hl
  · simp [restW, atK, sel, post_nil]
  · rw [List.drop_eq_getElem_cons (show i + 1 < kids.length by omega)]
    simp [restW, atK, sel, post, List.getElem?_eq_getElem (show i + 1 < kids.length by omega)]
theorem rest_end {kids : List (List α)} {items : List α} {i : Nat} (hl : kids = [] ∨ kids.length = items.length + 1) (hi : items.length ≤ i) : post (items.drop i) (kids.drop (i + 1)) = restW key lt kids items (i + 1) none := by
  rw [List.drop_of_length_le hi]
  rcases hl with rfl | hl
  · simp [restW, atK, sel, post]; rw [List.drop_of_length_le (by omega), post]
  · simp only [restW]
    rw [List.drop_of_length_le (show items.length ≤ i + 1 by omega)]
    have h9 : kids[i + 1]? = none := List.getElem?_eq_none (by omega)
    simp [atK, sel, post, h9]
theorem rest_over {kids : List (List α)} {items : List α} {i : Nat} {fo : Option κ} (hl : kids = [] ∨ kids.length = items.length + 1) (hi : items.length < i) : restW key lt kids items i fo = [] := by
  unfold restW
  rw [List.drop_of_length_le (show items.length ≤ i by omega), post, List.append_nil]
  rcases hl with rfl | hl
  · simp [atK, sel_nil]
  · have h9 : kids[i]? = none := List.getElem?_eq_none (by omega)
    rw [show atK kids i = [] by simp [atK, h9], sel_nil]
theorem srt_kid {kids : List (List α)} {items ys : List α} {i : Nat} (hl : kids = [] ∨ kids.length = items.length + 1) (hk : kids[i]? = some ys) (hs : Srt key lt (weave kids items)) : Srt key lt ys := by
  have hi := (List.getElem?_eq_some_iff.1 hk).1
  rcases hl with rfl | hl
  · simp at hi
  · have hw : weave kids items = preW (kids.take i) (items.take i) ++ (ys ++ post (items.drop i) (kids.drop (i + 1))) := by
      conv => lhs; rw [take_get hk, ← List.take_append_drop i items]
      exact weave_at (by rw [List.length_take, List.length_take]; omega)
    rw [hw] at hs
    exact (List.pairwise_append.1 (List.pairwise_append.1 hs).2.1).1
theorem or_yes {p q : Prop} {bb : Bool} (h : (bb = true ∧ p) ∨ (bb = false ∧ q)) (hb : bb = true) : p := by
  rcases h with ⟨_, h⟩ | ⟨h, _⟩
  · exact h
  · rw [hb] at h; cases h
theorem or_no {p q : Prop} {bb : Bool} (h : (bb = true ∧ p) ∨ (bb = false ∧ q)) (hb : bb = false) : q := by
  rcases h with ⟨h, _⟩ | ⟨_, h⟩
  · rw [hb] at h; cases h
  · exact h
theorem prefix_snoc {A Z : List α} {x : α} : A ++ [x] <+: A ++ x :: Z := ⟨Z, by simp⟩
/-- Where a walk begins: at all, or at a key that lies in memory. -/
def FromOk (kv : κ → Value) (TK : Nat) (G : List Res) (fr : Option κ) (fp : Option Addr) : Prop := (fr = none ∧ fp = none) ∨ ∃ k kb, fr = some k ∧ fp = some ⟨kb, 0, none⟩ ∧ blk kb (.cells #[kv k] TK (0, 0)) ∈ G
theorem FromOk.some {kv : κ → Value} {TK : Nat} {G : List Res} {fr : Option κ} {fp : Option Addr} (h : FromOk kv TK G fr fp) (hn : fp ≠ none) : ∃ k kb, fr = Option.some k ∧ fp = Option.some ⟨kb, 0, none⟩ ∧ blk kb (.cells #[kv k] TK (0, 0)) ∈ G := by
  rcases h with ⟨_, h⟩ | h
  · exact absurd h hn
  · exact h
theorem FromOk.none {kv : κ → Value} {TK : Nat} {G : List Res} {fr : Option κ} {fp : Option Addr} (h : FromOk kv TK G fr fp) (hn : fp = none) : fr = Option.none := by
  rcases h with ⟨h, _⟩ | ⟨k, kb, _, h, _⟩
  · exact h
  · rw [hn] at h; cases h
theorem FromOk.more {kv : κ → Value} {TK : Nat} {G : List Res} {fr : Option κ} {fp : Option Addr} (h : FromOk kv TK G fr fp) (A : List Res) : FromOk kv TK (A ++ G) fr fp := by
  rcases h with h | ⟨k, kb, h1, h2, h3⟩
  · exact .inl h
  · exact .inr ⟨k, kb, h1, h2, List.mem_append_right _ h3⟩
theorem rd_in {W : World} {L : List Res} {kb T : Nat} {v : Value} (h : blk kb (.cells #[v] T (0, 0)) ∈ L) : Rd W L ⟨kb, 0, Option.none⟩ v := fun w S => by
  obtain ⟨L', S'⟩ := mem_front h S
  rw [S'.cell]; rfl
end
/-! ### Trees -/
section
open Classical
variable {α κ β : Type} {key : α → κ} {lt : κ → κ → Prop} {val : α → β} {zero : β} (eI : Enc α) (eK : Enc Nat) (TN TT : Nat)
def treeR (key : α → κ) (lt : κ → κ → Prop) (t : Nat) (xs : List α) : Res := obj (fun _ : Nat × Nat => Srt key lt xs) fun z => [blk t (.cells #[.pointer (some ⟨z.2, 0, none⟩), .int .i64 (xs.length : Int)] TT (0, 0)), nodeR eI eK TN z.1 0 z.2 xs]
variable {eI eK TN TT} {P : Program} {N : FN} {l : Fr} {W w : World} {L : List Res} {Q : Exit → Act → World → Prop} {ops : Array Oper} {rest : List Oper} {cd : Code} {t : Nat} {xs : List α}
theorem treeOpen (S : Sat W w (treeR eI eK TN TT key lt t xs :: L)) : ∃ d rb, Srt key lt xs ∧ Sat W w (blk t (.cells #[.pointer (some ⟨rb, 0, none⟩), .int .i64 (xs.length : Int)] TT (0, 0)) :: nodeR eI eK TN d 0 rb xs :: L) := by
  obtain ⟨⟨d, rb⟩, h, S'⟩ := Sat.obj_open S
  exact ⟨d, rb, h, S'⟩
theorem treeMk (d rb : Nat) (h : Srt key lt xs) (S : Sat W w (blk t (.cells #[.pointer (some ⟨rb, 0, none⟩), .int .i64 (xs.length : Int)] TT (0, 0)) :: nodeR eI eK TN d 0 rb xs :: L)) : Sat W w (treeR eI eK TN TT key lt t xs :: L) := Sat.obj_mk (d, rb) h S
theorem c_tree (h : ∀ d rb, Srt key lt xs → WC P cd Q N l W (blk t (.cells #[.pointer (some ⟨rb, 0, none⟩), .int .i64 (xs.length : Int)] TT (0, 0)) :: nodeR eI eK TN d 0 rb xs :: L)) : WC P cd Q N l W (treeR eI eK TN TT key lt t xs :: L) := fun a w K S =>
  let ⟨d, rb, hs, S'⟩ := treeOpen S; h d rb hs a w K S'
/-- A new tree. -/
theorem tree_new {nb : Nat} (S : Sat W w (blk t (.cells #[.pointer (some ⟨nb, 0, none⟩), .int .i64 0] TT (0, 0)) :: blk nb (.cells #[.slice none 0 0, .slice none 0 0] TN (0, 0)) :: L)) : Sat W w (treeR eI eK TN TT key lt t ([] : List α) :: L) := by
  refine treeMk 0 nb List.Pairwise.nil ?_
  refine (nodeMk (eI := eI) (eK := eK) (TN := TN) (d := 0) (mn := 0) ⟨none, 0, none, 0, [], []⟩ ⟨Nat.le_refl _, Nat.zero_le _, rfl, .inl ⟨rfl, rfl⟩⟩ ?_).perm (List.Perm.swap _ _ _)
  have S1 := S.perm (List.Perm.swap _ _ _)
  have S2 := Sat.own_nil (T := eI.T) (sz := eI.sz) (Sat.own_nil (T := eK.T) (sz := eK.sz) (Sat.stars_nil S1))
  -- rowI, rowK, kids, node, tree
  exact (S2.perm p3)
theorem Old.len (o : Sto lt) {x : α} {old : β} {had : Bool} (hs : Srt key lt xs) (h : Old key val zero x xs old had) : ((ins key lt x xs).length : Int) = (xs.length : Int) + (if had then 0 else 1) := by
  have hgen : ∀ {ys : List α}, Srt key lt ys → ((∃ y ∈ ys, key y = key x) → (ins key lt x ys).length = ys.length) ∧ ((¬ ∃ y ∈ ys, key y = key x) → (ins key lt x ys).length = ys.length + 1) := by
    intro ys
    induction ys with
    | nil => intro _; exact ⟨fun ⟨y, hy, _⟩ => by simp at hy, fun _ => rfl⟩
    | cons y ys ih =>
      intro hys
      have h' := List.pairwise_cons.1 hys
      have ih' := ih h'.2
      rw [ins]
      split
      · rename_i h1
        refine ⟨fun ⟨z, hz, he⟩ => ?_, fun _ => rfl⟩
        rcases List.mem_cons.1 hz with rfl | hz
        · exact absurd (he ▸ h1) (o.irr _)
        · exact absurd (he ▸ o.tr h1 (h'.1 z hz)) (o.irr _)
      · rename_i h1
        split
        · rename_i h2
          refine ⟨fun ⟨z, hz, he⟩ => ?_, fun hn => ?_⟩
          · rcases List.mem_cons.1 hz with rfl | hz
            · exact absurd (he ▸ h2) (o.irr _)
            · rw [List.length_cons, ih'.1 ⟨z, hz, he⟩]; rfl
          · rw [List.length_cons, ih'.2 (fun ⟨z, hz, he⟩ => hn ⟨z, List.mem_cons_of_mem _ hz, he⟩)]; rfl
        · rename_i h2
          exact ⟨fun _ => rfl, fun hn => absurd ⟨y, by simp, (o.tri h1 h2).symm⟩ hn⟩
  have hg := hgen hs
  cases had with
  | true => rw [hg.1 (h.hadI.1 rfl)]; simp
  | false => rw [hg.2 (fun h9 => by have := h.hadI.2 h9; cases this)]; simp
/-- Behind put: the root has a new one above it. -/
theorem root_new {d rb br nb : Nat} {ls rs : List α} {m : α} {a ak : Option Addr} {c ck : Nat} (S : Sat W w (blk nb (.cells #[.slice a 1 c, .slice ak 2 ck] TN (0, 0)) :: row eI.T eI.sz a 1 c (flat eI [m]) :: row eK.T eK.sz ak 2 ck (flat eK [rb, br]) :: nodeR eI eK TN d 2 rb ls :: nodeR eI eK TN d 2 br rs :: L)) : Sat W w (nodeR eI eK TN (d + 1) 0 nb (ls ++ m :: rs) :: L) := by
  refine nodeMk ⟨a, c, ak, ck, [m], [(rb, ls), (br, rs)]⟩ ⟨Nat.zero_le _, (show 1 ≤ 5 by decide), by simp [weave, post], .inr ⟨by omega, rfl, Nat.le_refl _⟩⟩ ?_
  have h := (((S.perm p3).perm p4) : Sat W w (nodeR eI eK TN d 2 br rs :: nodeR eI eK TN d 2 rb ls :: blk nb (.cells #[.slice a 1 c, .slice ak 2 ck] TN (0, 0)) :: row eI.T eI.sz a 1 c (flat eI [m]) :: row eK.T eK.sz ak 2 ck (flat eK [rb, br]) :: L))
  have h2 := Sat.unflat (Ls := [nodeR eI eK TN d 2 rb ls, nodeR eI eK TN d 2 br rs]) (h.perm (List.Perm.swap _ _ _))
  -- kids, node, rowI, rowK
  exact ((h2.perm p3).perm p3).perm p3
end
end Go.Proofs.Ytlblipkcbmcfkaa
