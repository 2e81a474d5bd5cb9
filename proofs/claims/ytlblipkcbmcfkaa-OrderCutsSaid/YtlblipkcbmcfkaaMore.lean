/- More steps: doors, splits, the order of resources, regions whose order is open. -/
import Derived.Test.YtlblipkcbmcfkaaMap
import Derived.Deep.QuietTactic
set_option linter.unusedVariables false
set_option linter.unusedSimpArgs false
namespace Go.Proofs.Ytlblipkcbmcfkaa
open Go.RowKit

theorem vint {k : IntKind} {a b : Int} (h : a = b) : some (Value.int k a) = some (Value.int k b) := by rw [h]
theorem wrap_i64 {x : Int} (h1 : -9223372036854775808 ≤ x) (h2 : x ≤ 9223372036854775807) : IntKind.i64.wrap x = x := by
  simp [IntKind.wrap, IntKind.signed, IntKind.bits]; omega
theorem wrap_u64 {x : Int} (h1 : 0 ≤ x) (h2 : x ≤ 18446744073709551615) : IntKind.u64.wrap x = x := by
  simp [IntKind.wrap, IntKind.signed, IntKind.bits]; omega
theorem wrap_u32 {x : Int} (h1 : 0 ≤ x) (h2 : x ≤ 4294967295) : IntKind.u32.wrap x = x := by
  simp [IntKind.wrap, IntKind.signed, IntKind.bits]; omega
theorem wrap_i32 {x : Int} (h1 : -2147483648 ≤ x) (h2 : x ≤ 2147483647) : IntKind.i32.wrap x = x := by
  simp [IntKind.wrap, IntKind.signed, IntKind.bits]; omega
theorem wrap_u8 {x : Int} (h1 : 0 ≤ x) (h2 : x ≤ 255) : IntKind.u8.wrap x = x := by
  simp [IntKind.wrap, IntKind.signed, IntKind.bits]; omega

def l0of : Nat → List Value → Fr
  | _, [] => []
  | i, v :: vs => (i, v) :: l0of (i + 1) vs
theorem lk_l0of : ∀ (vs : List Value) (i t : Nat) (v : Value), lk (l0of i vs) t = some v → i ≤ t ∧ vs[t - i]? = some v
  | [], i, t, v, h => by cases h
  | u :: vs, i, t, v, h => by
    simp only [l0of] at h
    rw [lk_cons] at h
    split at h
    · rename_i e
      subst e
      simpa using h
    · rename_i e
      obtain ⟨h1, h2⟩ := lk_l0of vs (i + 1) t v h
      refine ⟨by omega, ?_⟩
      rw [show t - i = (t - (i + 1)) + 1 by omega, List.getElem?_cons_succ]
      exact h2
section
variable {P : Program} {N : FN} {l : Fr} {W : World} {L L' F : List Res} {Q : Exit → Act → World → Prop} {ops : Array Oper} {rest : List Oper}
theorem f_door {f : FuncId} {fn : Func} {c : Code} {args : Array Value} {post : Value → List Res → Prop} {l0 : Fr} {n : Nat} (hf : P.funcs[f]? = some fn) (hN : fn.ntmps = n) (hb : fn.body = some c) (hs : Nat.ble args.size n = true) (hl : l0of 0 args.toList = l0)
    (h : WC P c (postC P fn W post) { n := n } l0 W L) : CS P f args W L post := by
  subst hN
  refine f_enter hf hb l0 (fun a ha hdf => ?_) h
  subst hl
  refine ⟨?_, hdf, fun t v ht => ?_⟩
  · have := Nat.le_of_ble_eq_true hs
    rw [ha]; simp; omega
  · obtain ⟨_, h2⟩ := lk_l0of _ _ _ _ ht
    simp only [Nat.sub_zero, Array.getElem?_toList] at h2
    rw [ha, Array.getD_eq_getD_getElem?, Array.getElem?_append_left (Array.getElem?_eq_some_iff.1 h2).1, h2]
    rfl
theorem l_split {t : Nat} {b : Bool} (hx : lk l t = some (.bool b)) (ht : b = true → WL P ops Q rest N ((t, .bool true) :: l) W L) (he : b = false → WL P ops Q rest N ((t, .bool false) :: l) W L) : WL P ops Q rest N l W L := by
  cases b with
  | true => exact l_eq hx rfl (ht rfl)
  | false => exact l_eq hx rfl (he rfl)
theorem l_perm (hp : L.Perm L') (h : WL P ops Q rest N l W L') : WL P ops Q rest N l W L := l_conv (fun w S => S.perm hp) h
theorem q_perm {e : Exit} (hp : L.Perm L') (h : WQ Q e N l W L') : WQ Q e N l W L := q_conv (fun w S => S.perm hp) h
section
variable {A B C D E G H I J : Res}
theorem p1 : (A :: B :: L).Perm (B :: A :: L) := List.Perm.swap _ _ _
theorem p2 : (A :: B :: C :: L).Perm (C :: A :: B :: L) := (List.Perm.cons A (List.Perm.swap _ _ _)).trans (List.Perm.swap _ _ _)
theorem p3 : (A :: B :: C :: D :: L).Perm (D :: A :: B :: C :: L) := (List.Perm.cons A p2).trans (List.Perm.swap _ _ _)
theorem p4 : (A :: B :: C :: D :: E :: L).Perm (E :: A :: B :: C :: D :: L) := (List.Perm.cons A p3).trans (List.Perm.swap _ _ _)
theorem p5 : (A :: B :: C :: D :: E :: G :: L).Perm (G :: A :: B :: C :: D :: E :: L) := (List.Perm.cons A p4).trans (List.Perm.swap _ _ _)
theorem p6 : (A :: B :: C :: D :: E :: G :: H :: L).Perm (H :: A :: B :: C :: D :: E :: G :: L) := (List.Perm.cons A p5).trans (List.Perm.swap _ _ _)
theorem p7 : (A :: B :: C :: D :: E :: G :: H :: I :: L).Perm (I :: A :: B :: C :: D :: E :: G :: H :: L) := (List.Perm.cons A p6).trans (List.Perm.swap _ _ _)
theorem p8 : (A :: B :: C :: D :: E :: G :: H :: I :: J :: L).Perm (J :: A :: B :: C :: D :: E :: G :: H :: I :: L) := (List.Perm.cons A p7).trans (List.Perm.swap _ _ _)
theorem l_f1 (h : WL P ops Q rest N l W (B :: A :: L)) : WL P ops Q rest N l W (A :: B :: L) := l_perm p1 h
theorem l_f2 (h : WL P ops Q rest N l W (C :: A :: B :: L)) : WL P ops Q rest N l W (A :: B :: C :: L) := l_perm p2 h
theorem l_f3 (h : WL P ops Q rest N l W (D :: A :: B :: C :: L)) : WL P ops Q rest N l W (A :: B :: C :: D :: L) := l_perm p3 h
theorem l_f4 (h : WL P ops Q rest N l W (E :: A :: B :: C :: D :: L)) : WL P ops Q rest N l W (A :: B :: C :: D :: E :: L) := l_perm p4 h
theorem l_f5 (h : WL P ops Q rest N l W (G :: A :: B :: C :: D :: E :: L)) : WL P ops Q rest N l W (A :: B :: C :: D :: E :: G :: L) := l_perm p5 h
theorem l_f6 (h : WL P ops Q rest N l W (H :: A :: B :: C :: D :: E :: G :: L)) : WL P ops Q rest N l W (A :: B :: C :: D :: E :: G :: H :: L) := l_perm p6 h
theorem l_f7 (h : WL P ops Q rest N l W (I :: A :: B :: C :: D :: E :: G :: H :: L)) : WL P ops Q rest N l W (A :: B :: C :: D :: E :: G :: H :: I :: L) := l_perm p7 h
theorem l_f8 (h : WL P ops Q rest N l W (J :: A :: B :: C :: D :: E :: G :: H :: I :: L)) : WL P ops Q rest N l W (A :: B :: C :: D :: E :: G :: H :: I :: J :: L) := l_perm p8 h
theorem l_drop (h : WL P ops Q rest N l W L) : WL P ops Q rest N l W (A :: L) := l_conv (fun w S => S.tail) h
end
theorem rdn_lit {k j T : Nat} {cs : Array Value} {m : Nat × Nat} {vs : List Value} (i : Nat) (h : L[i]? = some (blk k (.cells cs T m))) (hc : (cs.toList.drop j).take vs.length = vs) : RdN W L ⟨k, j, none⟩ vs :=
  rdn_mem i h fun o u ho => by
    rw [← hc, List.getElem?_take] at ho
    split at ho
    · simpa using ho
    · cases ho
theorem r_three {fn : Func} {t u x : Nat} {v1 v2 v3 : Value} (h : fn.results = #[.tmp t, .tmp u, .tmp x]) (h1 : lk l t = some v1) (h2 : lk l u = some v2) (h3 : lk l x = some v3) : ∀ a w, Know a N l → Sat W w L → (results fn a.tmps).run P w = .ok (.tuple #[v1, v2, v3]) w := fun a w K _ => by
  have e1 := K.val t v1 h1
  have e2 := K.val u v2 h2
  have e3 := K.val x v3 h3
  simp only [Array.getD_eq_getD_getElem?] at e1 e2 e3
  simp [results, h, e1, e2, e3]
/-- Ways meet: what holds behind a piece of code. -/
theorem c_mid {x y : Code} {α : Type} (l' : α → Fr) (L' : α → List Res) (p : α → Prop) (h1 : WC P x (Exit.then (fun a w => ∃ z, p z ∧ Know a N (l' z) ∧ Sat W w (L' z)) Q) N l W L)
    (h2 : ∀ z, p z → WC P y Q N (l' z) W (L' z)) : WC P x (Exit.then (y.wpIn (fen N.ro) 0 P Q) Q) N l W L := fun a w K S =>
  wpIn_mono (h1 a w K S) fun e a' w' hq => by
    cases e with
    | normal => obtain ⟨z, hz, Kz, Sz⟩ := hq; exact h2 z hz a' w' Kz Sz
    | exit _ => exact hq
    | goto _ => exact hq
    | ret => exact hq
    | panic _ => exact hq
    | outgrown => exact hq
theorem q_mid {α : Type} {l' : α → Fr} {L' : α → List Res} {p : α → Prop} (y : α) (hp : p y) (hl : subk (l' y) l) (hL : ∀ w, Sat W w L → Sat W w (L' y)) :
    WQ (Exit.then (fun a w => ∃ z, p z ∧ Know a N (l' z) ∧ Sat W w (L' z)) Q) .normal N l W L := fun _ w K S => ⟨y, hp, K.sub (subk_lk hl), hL w S⟩
/-- An operation yields a value and leaves the world alone. -/
def OV (P : Program) (N : FN) (l : Fr) (W : World) (L : List Res) (o : Oper) (v : Value) : Prop := ∀ a w, Know a N l → Sat W w L → (execOp a.eval o).run P w = .ok (.value v) w
/-! ### Regions whose order is open, all of whose operations leave the world alone -/
def WLQ (P : Program) (ops : Array Oper) (Q : Exit → Act → World → Prop) (rest : List Oper) (N : FN) (l : Fr) (W : World) (L : List Res) : Prop :=
  ∀ a, Know a N l → wpQuiet P ops (fun w => Sat W w L) (fun a' => ∀ w', Sat W w' L → Q .normal a' w') rest a
theorem c_quiet {id : Nat} {ops : List Oper} (hm : P.follows .mixedOrders = true) (hB : Region.lexB .any ops.toArray = true) (h : WLQ P ops.toArray Q ops N l W L) (hro : N.ro = none := by rfl) : WC P (.region id ops.toArray true) Q N l W L := fun a w K S => by
  rw [hro]
  exact wpIn_wide.2 (wp_region_quiet (C := fun w => Sat W w L) hm hB (S.drew) (by simpa using h a K))
namespace Qt
theorem l_nil (h : WQ Q .normal N l W L) : WLQ P ops Q [] N l W L := fun a K => wpQuiet_nil (fun w' S => h a w' K S)
theorem l_eq {t : Nat} {v v' : Value} (hx : lk l t = some v) (e : v = v') (h : WLQ P ops Q rest N ((t, v') :: l) W L) : WLQ P ops Q rest N l W L := fun a K =>
  h a (K.sub (l' := (t, v') :: l) (fun s u hs => by
    rw [lk_cons] at hs
    split at hs
    · rename_i hts; subst hts; subst e; rw [hx]; exact hs
    · exact hs))
theorem l_split {t : Nat} {b : Bool} (hx : lk l t = some (.bool b)) (ht : b = true → WLQ P ops Q rest N ((t, .bool true) :: l) W L) (he : b = false → WLQ P ops Q rest N ((t, .bool false) :: l) W L) : WLQ P ops Q rest N l W L := by
  cases b with
  | true => exact l_eq hx rfl (ht rfl)
  | false => exact l_eq hx rfl (he rfl)
theorem o_val {d : Nat} {op : Op} {ty : TypeId} {pos : String} {af : Array Edge} {v : Value} (hd : Nat.ble (d + 1) N = true)
    (hr : ∀ a w, Know a N l → Sat W w L → (execOp a.eval ⟨some d, op, ty, pos, af, none⟩).run P w = .ok (.value v) w)
    (h : WLQ P ops Q rest N ((d, v) :: l) W L) : WLQ P ops Q (⟨some d, op, ty, pos, af, none⟩ :: rest) N l W L := fun a K =>
  wpQuiet_step fun k hk => by
    rw [if_pos (by simp [Region.wanted])]
    refine ⟨v, fun w S => ?_, hk _ (h _ (K.put hd v))⟩
    unfold Oper.quietAt
    rw [hr a w K S]
    exact ⟨rfl, rfl⟩
theorem o_yes {dst : Option Tmp} {op : Op} {ty : TypeId} {pos : String} {af : Array Edge} {j d : Nat} {b : Bool} (hj : (ops[j]?).bind (·.dst) = some d) (hv : lk l d = some (.bool b)) (hd : Nat.ble (d + 1) N = true)
    (h : WLQ P ops Q (⟨dst, op, ty, pos, af, none⟩ :: rest) N l W L) : WLQ P ops Q (⟨dst, op, ty, pos, af, some (j, b)⟩ :: rest) N l W L := fun a K => by
  have hd' : d < a.tmps.size := by rw [K.size]; exact Nat.le_of_ble_eq_true hd
  have hy : yielded ops a.tmps j = some b := by
    have := K.val d _ hv
    simp only [yielded, hj, Option.bind_some]
    rw [Array.getD_eq_getD_getElem?, Array.getElem?_eq_getElem hd'] at this
    rw [Array.getElem?_eq_getElem hd']
    simp only [Option.getD_some] at this
    rw [this]
  have h1 := h a K
  unfold wpQuiet at h1 ⊢
  rw [if_pos (by simp [Region.wanted])] at h1
  rw [if_pos (by simp [Region.wanted, hy])]
  exact h1
theorem o_no {d0 : Nat} {op : Op} {ty : TypeId} {pos : String} {af : Array Edge} {j d : Nat} {b : Bool} {v : Value} (hj : (ops[j]?).bind (·.dst) = some d) (hv : lk l d = some v) (hb : (match v with | .bool c => c == b | _ => false) = false) (hd : Nat.ble (d0 + 1) N = true)
    (h : WLQ P ops Q rest N ((d0, undef) :: l) W L) : WLQ P ops Q (⟨some d0, op, ty, pos, af, some (j, b)⟩ :: rest) N l W L := fun a K => by
  have hy : yielded ops a.tmps j ≠ some b := by
    have := K.val d _ hv
    simp only [yielded, hj, Option.bind_some]
    rw [Array.getD_eq_getD_getElem?] at this
    cases hg : a.tmps[d]? with
    | none => simp
    | some u =>
      rw [hg] at this
      simp only [Option.getD_some] at this
      subst this
      cases u <;> simp
      intro e
      subst e
      simp at hb
  unfold wpQuiet
  rw [if_neg (by simp [Region.wanted, hy])]
  exact h _ (K.put hd _)
end Qt
end
end Go.Proofs.Ytlblipkcbmcfkaa
