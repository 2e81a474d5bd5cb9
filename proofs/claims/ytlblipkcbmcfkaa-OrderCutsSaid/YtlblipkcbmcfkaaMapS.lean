/- Maps whose keys are structs; m[k]++ : an entry is fetched, then stored. -/
import Derived.Test.YtlblipkcbmcfkaaMem2
set_option linter.unusedVariables false
set_option linter.unusedSimpArgs false
namespace Go.Proofs.Ytlblipkcbmcfkaa
open Go.RowKit
theorem sameBits_self : ∀ (vs : List Value), (∀ v ∈ vs, Instr.sameBits 9999 v v = true) → Instr.sameBits 10000 (.agg vs.toArray) (.agg vs.toArray) = true := fun vs h => by
  have h1 : ∀ (us : List Value), (∀ v ∈ us, Instr.sameBits 9999 v v = true) → (us.zip us).all (fun p => Instr.sameBits 9999 p.1 p.2) = true := by
    intro us
    induction us with
    | nil => intro _; rfl
    | cons u us ih =>
      intro hu
      simp only [List.zip_cons_cons, List.all_cons, Bool.and_eq_true]
      exact ⟨hu u (by simp), ih fun v hv => hu v (by simp [hv])⟩
  have h2 := h1 vs h
  simp only [Instr.sameBits, beq_self_eq_true, Bool.true_and]
  exact h2
theorem keyOk_struct {α : Type} [DecidableEq α] {P : Program} {T : TypeId} {fs : Array Field} {e : Enc α} (hu : P.underlying T = some (.struct fs)) (hc : ∀ b x w, (Instr.checkKey b 10000 T (.agg (e.cells x).toArray)).run P w = .ok () w)
    (heq : ∀ x y w, (Op.equalIn 10000 T (.agg (e.cells x).toArray) (.agg (e.cells y).toArray)).run P w = .ok (decide (x = y)) w) (hb : ∀ x, ∀ v ∈ e.cells x, Instr.sameBits 9999 v v = true) : KeyOk P T (fun x : α => Value.agg (e.cells x).toArray) where
  check := fun b k w => hc b k w
  find := fun vv D es k w hes => by
    have ask : ∀ (D : List (α × _)) (es : List MapEntry) (i : Nat), es.map (fun e => (e.key, e.val)) = D.map (fun p => (Value.agg (e.cells p.1).toArray, vv p.2)) →
        (Instr.findAsking T (.agg (e.cells k).toArray) es i).run P w = .ok ((mat D k).map fun p => (p.1 + i, vv p.2)) w := by
      intro D
      induction D with
      | nil =>
        intro es i h
        cases es with
        | nil => simp [Instr.findAsking, mat]
        | cons e es => cases h
      | cons p D ih =>
        intro es i h
        cases es with
        | nil => cases h
        | cons e1 es =>
          obtain ⟨j, b⟩ := p
          simp only [List.map_cons, List.cons.injEq, Prod.mk.injEq] at h
          obtain ⟨⟨h1, h2⟩, h3⟩ := h
          have he := heq k j w
          simp only [Instr.findAsking, h1, Op.equal, Op.maxDepth, Sem.run_bind, he, Result.andThen_ok, mat]
          by_cases ekj : k = j
          · subst ekj
            simp [h2]
          · have e' : ¬ j = k := fun h => ekj h.symm
            rw [if_neg e']
            simp only [ekj, decide_false]
            have := ih es (i + 1) h3
            simp only [Bool.false_eq_true, if_false]
            rw [this, Option.map_map]
            congr 2
            funext p
            simp [Nat.add_comm, Nat.add_left_comm]
    simp only [Instr.findKey, Sem.run_bind, run_underlying hu, Result.andThen_ok]
    cases es with
    | nil =>
      cases D with
      | nil => simp [Instr.findNow, mat]
      | cons p D => cases hes
    | cons e1 es =>
      have hn : Instr.findNow (.struct fs) (.agg (e.cells k).toArray) (e1 :: es) 0 = none := by simp [Instr.findNow, Instr.sameNow]
      rw [hn]
      have := ask D (e1 :: es) 0 hes
      simpa using this
  bits := fun k => sameBits_self _ (hb k)
/-! ### An entry that is fetched -/
section
variable {κ β : Type} [DecidableEq κ]
/-- A map, one of whose entries (q's) was born at s. -/
def mapE (kv : κ → Value) (vv : β → Value) (k : Nat) (D : List (κ × β)) (q : κ) (s : Nat) : Res := fun h => ∃ es clock, Ents kv vv D es clock ∧ (∃ (i : Nat) (b : β) (x : MapEntry), mat D q = some (i, b) ∧ es[i]? = some x ∧ x.born = s) ∧ blk k (.map es clock) h
variable {P : Program} {N : FN} {l : Fr} {W : World} {L L0 : List Res} {Q : Exit → Act → World → Prop} {ops : Array Oper} {rest : List Oper}
variable {d : Nat} {ty : TypeId} {pos : String} {af : Array Edge} {kv : κ → Value} {vv : β → Value} {k : Nat} {D : List (κ × β)}
theorem Sat.mapE_mk {w : World} {es : Array MapEntry} {clock : Nat} {q : κ} {s i : Nat} {b : β} {x : MapEntry} (h : Ents kv vv D es clock) (h1 : mat D q = some (i, b)) (h2 : es[i]? = some x) (h3 : x.born = s) (S : Sat W w (blk k (.map es clock) :: L)) : Sat W w (mapE kv vv k D q s :: L) :=
  S.imp fun y hy => ⟨es, clock, h, ⟨i, b, x, h1, h2, h3⟩, hy⟩
theorem Sat.mapE_read {w : World} {q : κ} {s : Nat} (S : Sat W w (mapE kv vv k D q s :: L)) : ∃ es clock, Ents kv vv D es clock ∧ (∃ (i : Nat) (b : β) (x : MapEntry), mat D q = some (i, b) ∧ es[i]? = some x ∧ x.born = s) ∧ Sat W w (blk k (.map es clock) :: L) := by
  obtain ⟨y, ⟨x, b, hd, he, ⟨es, clock, h1, h2, h3⟩, hb⟩, hy⟩ := S.own
  exact ⟨es, clock, h1, h2, S.below, y, ⟨x, b, hd, he, h3, hb⟩, hy⟩
theorem mat_set_self {q : κ} {i : Nat} {b0 b : β} (h : mat D q = some (i, b0)) : mat (D.set i (q, b)) q = some (i, b) := by
  induction D generalizing i with
  | nil => cases h
  | cons p D ih =>
    obtain ⟨j, c⟩ := p
    simp only [mat] at h
    split at h
    · rename_i e
      simp only [Option.some.injEq, Prod.mk.injEq] at h
      obtain ⟨rfl, rfl⟩ := h
      simp [mat]
    · rename_i e
      simp only [Option.map_eq_some_iff] at h
      obtain ⟨⟨i', b'⟩, h1, h2⟩ := h
      simp only [Prod.mk.injEq] at h2
      obtain ⟨rfl, rfl⟩ := h2
      rw [List.set_cons_succ]
      simp only [mat, e, if_false, ih h1, Option.map_some]
theorem mset_mset {q : κ} {b b' : β} : mset (mset D q b) q b' = mset D q b' := by
  cases hm : mat D q with
  | none =>
    have e1 : mset D q b = D ++ [(q, b)] := by unfold mset; rw [hm]
    have h2 : mat (D ++ [(q, b)]) q = some (D.length, b) := by rw [mat_append_none hm]; simp [mat]
    rw [e1]
    unfold mset
    rw [h2, hm]
    simp
  | some p =>
    obtain ⟨i, c⟩ := p
    have e1 : mset D q b = D.set i (q, b) := by unfold mset; rw [hm]
    rw [e1]
    unfold mset
    rw [mat_set_self hm, hm]
    simp
/-- 'm[q]' that is to be stored anew: the entry is there behind it. -/
theorem o_mapEntry {t Tk Te : TypeId} {x y : Operand} {q : κ} {b0 : β} {s b : Nat} (ko : KeyOk P Tk kv) (hd : Nat.ble (d + 1) N = true) (hx : opv l x = some (.map (some k))) (hy : opv l y = some (kv q)) (ht : P.underlying t = some (.map Tk Te)) (hz : TI P Te (vv b0) s b)
    (h : ∀ s : Nat, WL P ops Q rest N ((d, .tuple #[vv ((mget D q).getD b0), .int .i64 (s : Int)]) :: l) W (mapE kv vv k (mset D q ((mget D q).getD b0)) q s :: L)) :
    WL P ops Q (⟨some d, .mapEntry t x y, ty, pos, af, none⟩ :: rest) N l W (mapR kv vv k D :: L) :=
  o_runx (α := Nat) hd (vv := fun s => .tuple #[vv ((mget D q).getD b0), .int .i64 (s : Int)]) (LL := fun s => mapE kv vv k (mset D q ((mget D q).getD b0)) q s :: L) (fun a w K S => by
    obtain ⟨es, clock, he, S'⟩ := S.map_read
    have hr := S'.read.2
    have hf := ko.find vv D es.toList q w he.same
    have hc := ko.check false q w
    have hg : (getObj k).run P w = .ok (.map es clock) w := by simp [getObj, Sem.run, hr]
    cases hm : mat D q with
    | none =>
      have hmg : mget D q = none := by simp [mget, hm]
      rw [hm] at hf
      have hl : es.size = D.length := by
        have := congrArg List.length he.same
        simpa using this
      refine ⟨clock, _, ?_, (S'.put (o' := .map (es.push { key := kv q, val := vv b0, born := clock }) (clock + 1))).mapE_mk (by rw [hmg]; unfold mset; rw [hm]; exact ents_push he q b0) (i := D.length) (b := b0) (x := { key := kv q, val := vv b0, born := clock }) (by rw [hmg]; unfold mset; rw [hm]; simp only [Option.getD_none]; rw [mat_append_none hm]; simp [mat]) (by rw [← hl]; simp) rfl⟩
      simp only [execOp, K.eval hx, K.eval hy, Instr.mapEntry, Sem.run_bind, run_underlying ht, Result.andThen_ok, hg, hc, hf, Option.map_none, run_zeroValue' hz]
      rw [run_setObj_put hr rfl]
      simp [hmg, goInt]
    | some p =>
      obtain ⟨i, c⟩ := p
      have hmg : mget D q = some c := by simp [mget, hm]
      rw [hm] at hf
      have hD := mat_some hm
      have hj := congrArg (·[i]?) he.same
      simp only [List.getElem?_map, hD, Option.map_some] at hj
      obtain ⟨e0, hgi⟩ : ∃ e0, es[i]? = some e0 := by
        cases hgi : es.toList[i]? with
        | none => rw [hgi] at hj; cases hj
        | some e0 => rw [Array.getElem?_toList] at hgi; exact ⟨e0, hgi⟩
      have hkv : e0.key = kv q ∧ e0.val = vv c := by
        rw [← Array.getElem?_toList] at hgi
        rw [hgi] at hj
        simpa using hj
      have hset : D.set i (q, c) = D := by
        apply List.ext_getElem?
        intro j
        rw [List.getElem?_set]
        split
        · rename_i e; subst e; rw [hD, if_pos (List.getElem?_eq_some_iff.1 hD).1]
        · rfl
      have hes := ents_set he hm c
      refine ⟨e0.born, _, ?_, (S'.put (o' := .map (es.modify i fun e => { e with key := kv q }) clock)).mapE_mk (D := mset D q ((mget D q).getD b0)) (i := i) (b := c) (x := { e0 with key := kv q }) ?_ ?_ ?_ rfl⟩
      · have hk : ((es[i]?).map (·.key)).getD (kv q) = kv q := by rw [hgi]; simp [hkv.1]
        simp only [execOp, K.eval hx, K.eval hy, Instr.mapEntry, Sem.run_bind, run_underlying ht, Result.andThen_ok, hg, hc, hf, Option.map_some, hk, Instr.keyThatStays, ko.bits, if_true, Sem.run_pure]
        rw [run_setObj_put hr rfl]
        simp [hmg, goInt, hgi]
      · rw [hmg]; unfold mset; rw [hm]
        have e9 : (es.modify i fun e => { e with key := kv q }) = (es.modify i fun e => { e with key := kv q, val := vv c }) := by
          apply Array.ext_getElem?
          intro j
          rw [Array.getElem?_modify, Array.getElem?_modify]
          split
          · rename_i e; subst e
            rw [hgi]; simp [hkv.2]
          · rfl
        rw [e9]; exact hes
      · rw [hmg]; unfold mset; rw [hm]; simp only [Option.getD_some]; rw [hset]; exact hm
      · rw [Array.getElem?_modify, if_pos rfl, hgi]; rfl) h
theorem o_lookupE {t Tk Te : TypeId} {x y : Operand} {q q' : κ} {b0 : β} {s s' b : Nat} (i : Nat) (hL : L[i]? = some (mapE kv vv k D q' s')) (ko : KeyOk P Tk kv) (hd : Nat.ble (d + 1) N = true) (hx : opv l x = some (.map (some k))) (hy : opv l y = some (kv q)) (ht : P.underlying t = some (.map Tk Te)) (hz : TI P Te (vv b0) s b)
    (h : WL P ops Q rest N ((d, vv ((mget D q).getD b0)) :: l) W L) : WL P ops Q (⟨some d, .lookup t x y false, ty, pos, af, none⟩ :: rest) N l W L :=
  o_val hd (fun a w K S => by
    obtain ⟨L', S'⟩ := mem_idx i hL S
    obtain ⟨es, clock, he, _, S2⟩ := S'.mapE_read
    have := run_lookup ko ht hz q false (S2.map_mk he)
    have h9 : ((mget D q).map vv).getD (vv b0) = vv ((mget D q).getD b0) := by cases mget D q <;> rfl
    rw [h9] at this
    simp [execOp, K.eval hx, K.eval hy, this]) h
theorem o_entryStore {t : TypeId} {x y v : Operand} {q : κ} {s : Nat} {b : β} {b1 : β} (hx : opv l x = some (.map (some k))) (hy : opv l y = some (.int .i64 (s : Int))) (hv : opv l v = some (vv b))
    (h : WL P ops Q rest N l W (mapR kv vv k (mset D q b) :: L)) : WL P ops Q (⟨none, .entryStore t x y v, ty, pos, af, none⟩ :: rest) N l W (mapE kv vv k (mset D q b1) q s :: L) :=
  o_skip (fun a w K S => by
    obtain ⟨es, clock, he, ⟨i, c, e0, h1, h2, h3⟩, S'⟩ := S.mapE_read
    have hr := S'.read.2
    have hg : (getObj k).run P w = .ok (.map es clock) w := by simp [getObj, Sem.run, hr]
    have hes := ents_set he h1 b
    have hms : mset D q b = (mset D q b1).set i (q, b) := by
      rw [← mset_mset (b := b1)]
      show (match mat (mset D q b1) q with | some (i, _) => _ | none => _) = _
      rw [h1]
    have hkey : e0.key = kv q := by
      have hj := congrArg (·[i]?) he.same
      rw [← Array.getElem?_toList] at h2
      simp only [List.getElem?_map, mat_some h1, h2, Option.map_some, Option.some.injEq, Prod.mk.injEq] at hj
      exact hj.1
    have hfind : es.findIdx? (fun e => ((e.born : Int) == (s : Int))) = some i := by
      rw [Array.findIdx?_eq_some_iff_getElem]
      obtain ⟨hlt, he0⟩ := Array.getElem?_eq_some_iff.1 h2
      refine ⟨hlt, by rw [he0, h3]; simp, fun j hj => ?_⟩
      have hb := he.born
      rw [List.pairwise_iff_getElem] at hb
      have := hb j i (by simp; omega) (by simpa using hlt) hj
      simp only [List.getElem_map, Array.getElem_toList] at this
      rw [he0, h3] at this
      simp only [beq_iff_eq]
      omega
    refine ⟨_, ?_, (S'.put (o' := .map (es.modify i fun e => { e with val := vv b }) clock)).map_mk (D := mset D q b) ?_⟩
    · simp only [execOp, K.eval hx, K.eval hy, K.eval hv, Instr.entryStore, Sem.run_bind, Result.andThen_ok, hg, asInt, asIntOf, Sem.run_pure]
      rw [hfind]
      simp only []
      rw [run_setObj_put hr rfl]
      simp
    · rw [hms]
      have e9 : (es.modify i fun e => { e with val := vv b }) = (es.modify i fun e => { e with key := kv q, val := vv b }) := by
        apply Array.ext_getElem?
        intro j
        rw [Array.getElem?_modify, Array.getElem?_modify]
        split
        · rename_i e; subst e
          rw [h2]; simp [hkey]
        · rfl
      rw [e9]; exact hes) h
end
end Go.Proofs.Ytlblipkcbmcfkaa
