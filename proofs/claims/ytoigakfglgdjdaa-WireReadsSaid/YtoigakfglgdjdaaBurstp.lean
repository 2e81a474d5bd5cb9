/- Check sums of messages that differ: the plain law. -/
import Derived.Test.YtoigakfglgdjdaaFramep
set_option linter.unusedVariables false
set_option linter.unusedSimpArgs false
namespace Go.Proofs.Ytoigakfglgdjdaa
open Go.RowKit
/-- One step of the division, in a register without end. -/
def cr (t : Nat) : Nat := if t % 2 = 1 then (t >>> 1) ^^^ 2197175160 else t >>> 1
def crK : Nat → Nat → Nat
  | 0, t => t
  | n + 1, t => crK n (cr t)
theorem crK_add : ∀ (m n t : Nat), crK (m + n) t = crK n (crK m t)
  | 0, n, t => by simp [crK]
  | m + 1, n, t => by rw [show m + 1 + n = (m + n) + 1 by omega, crK, crK_add m n, crK]
theorem xor_odd (a b : Nat) : (a ^^^ b) % 2 = (a % 2 + b % 2) % 2 := by
  have h := Nat.testBit_xor a b 0
  simp only [Nat.testBit_zero] at h
  rcases Nat.mod_two_eq_zero_or_one a with ha | ha <;> rcases Nat.mod_two_eq_zero_or_one b with hb | hb <;> rcases Nat.mod_two_eq_zero_or_one (a ^^^ b) with hc | hc <;> simp [ha, hb, hc] at h ⊢
theorem shl_even (h : Nat) : (h <<< 1) % 2 = 0 := by rw [Nat.shiftLeft_eq]; omega
theorem shl_shr (h : Nat) : (h <<< 1) >>> 1 = h := by rw [Nat.shiftLeft_eq, Nat.shiftRight_eq_div_pow]; omega
/-- What stands higher in the register does not interfere. -/
theorem cr_high (t h : Nat) : cr (t ^^^ (h <<< 1)) = cr t ^^^ h := by
  have h1 : (t ^^^ (h <<< 1)) % 2 = t % 2 := by rw [xor_odd, shl_even]; omega
  have h2 : (t ^^^ (h <<< 1)) >>> 1 = (t >>> 1) ^^^ h := by rw [Nat.shiftRight_xor_distrib, shl_shr]
  unfold cr
  rw [h1, h2]
  split
  · rw [Nat.xor_assoc, Nat.xor_comm h, ← Nat.xor_assoc]
  · rfl
theorem crK_high : ∀ (n t h : Nat), crK n (t ^^^ (h <<< n)) = crK n t ^^^ h
  | 0, t, h => by simp [crK]
  | n + 1, t, h => by
    have : h <<< (n + 1) = (h <<< n) <<< 1 := by rw [← Nat.shiftLeft_add]
    rw [crK, crK, this, cr_high, crK_high n]
theorem cr_lin (a b : Nat) : cr (a ^^^ b) = cr a ^^^ cr b := by
  unfold cr
  rw [xor_odd, Nat.shiftRight_xor_distrib]
  rcases Nat.mod_two_eq_zero_or_one a with ha | ha <;> rcases Nat.mod_two_eq_zero_or_one b with hb | hb <;> simp [ha, hb]
  · rw [Nat.xor_assoc]
  · rw [Nat.xor_assoc, Nat.xor_assoc, Nat.xor_comm 2197175160]
  · rw [Nat.xor_assoc, ← Nat.xor_assoc 2197175160, Nat.xor_comm 2197175160, Nat.xor_assoc, Nat.xor_self, Nat.xor_zero]
theorem crK_lin : ∀ (n a b : Nat), crK n (a ^^^ b) = crK n a ^^^ crK n b
  | 0, _, _ => rfl
  | n + 1, a, b => by rw [crK, cr_lin, crK_lin n]; rfl
theorem crK_zero : ∀ n : Nat, crK n 0 = 0
  | 0 => rfl
  | n + 1 => by rw [crK, show cr 0 = 0 by rfl, crK_zero n]
theorem cr_bv (s : BitVec 32) : (crc1 s).toNat = cr s.toNat := by
  have h : s &&& 1 = 1 ↔ s.toNat % 2 = 1 := by
    constructor
    · intro h
      have := congrArg BitVec.toNat h
      rw [BitVec.toNat_and] at this
      have h1 : (1 : BitVec 32).toNat = 1 := rfl
      rw [h1, Nat.and_one_is_mod] at this
      exact this
    · intro h
      apply BitVec.eq_of_toNat_eq
      rw [BitVec.toNat_and]
      have h1 : (1 : BitVec 32).toNat = 1 := rfl
      rw [h1, Nat.and_one_is_mod, h]
  unfold crc1 cr
  by_cases h1 : s &&& 1 = 1
  · rw [if_pos h1, if_pos (h.1 h1), BitVec.toNat_xor, BitVec.toNat_ushiftRight]; rfl
  · rw [if_neg h1, if_neg (fun h2 => h1 (h.2 h2)), BitVec.toNat_ushiftRight]
theorem crK_last : ∀ (n t : Nat), crK (n + 1) t = cr (crK n t)
  | 0, t => rfl
  | n + 1, t => by rw [crK, crK_last n, crK]
theorem crN_bv : ∀ (n : Nat) (s : BitVec 32), (crcN n s).toNat = crK n s.toNat
  | 0, s => rfl
  | n + 1, s => by rw [crcN, cr_bv, crN_bv n, crK_last]
/-- Bytes as one number, the first byte lowest. -/
def bN : List UInt8 → Nat
  | [] => 0
  | x :: xs => x.toNat ^^^ (bN xs <<< 8)
theorem fold_bN : ∀ (bs : List UInt8) (s : BitVec 32), (bs.foldl crcB s).toNat = crK (8 * bs.length) (s.toNat ^^^ bN bs)
  | [], s => by simp [bN, crK]
  | x :: xs, s => by
    rw [List.foldl_cons, fold_bN xs]
    have h1 : (crcB s x).toNat = crK 8 (s.toNat ^^^ x.toNat) := by
      unfold crcB
      rw [crN_bv, BitVec.toNat_xor]
      congr 2
    rw [h1, bN, List.length_cons, show 8 * (xs.length + 1) = 8 + 8 * xs.length by omega, crK_add, ← Nat.xor_assoc, crK_high]
theorem bN_app : ∀ (a b : List UInt8), bN (a ++ b) = bN a ^^^ (bN b <<< (8 * a.length))
  | [], b => by simp [bN]
  | x :: a, b => by
    rw [List.cons_append, bN, bN_app a b, bN, List.length_cons, Nat.shiftLeft_xor_distrib, ← Nat.shiftLeft_add, Nat.xor_assoc]
    congr 3
/-- Two messages of one length have one sum just if the division of their difference leaves nothing. -/
theorem fold_eq {xs ys : List UInt8} (h : xs.length = ys.length) (s : BitVec 32) : xs.foldl crcB s = ys.foldl crcB s ↔ crK (8 * xs.length) (bN xs ^^^ bN ys) = 0 := by
  have hx := fold_bN xs s
  have hy := fold_bN ys s
  rw [← h] at hy
  rw [crK_lin] at hx hy
  constructor
  · intro he
    rw [he, hy] at hx
    have h1 := congrArg (crK (8 * xs.length) s.toNat ^^^ ·) hx
    simp only [← Nat.xor_assoc, Nat.xor_self, Nat.zero_xor] at h1
    rw [crK_lin, h1, Nat.xor_self]
  · intro he
    apply BitVec.eq_of_toNat_eq
    rw [crK_lin] at he
    rw [hx, hy]
    have h1 := congrArg (· ^^^ crK (8 * xs.length) (bN ys)) he
    simp only [Nat.xor_assoc, Nat.xor_self, Nat.xor_zero, Nat.zero_xor] at h1
    rw [h1]
theorem cr_pos {t : Nat} (h : t < 4294967296) (h0 : t ≠ 0) : cr t < 4294967296 ∧ cr t ≠ 0 := by
  unfold cr
  have h1 : t >>> 1 < 2 ^ 31 := by rw [Nat.shiftRight_eq_div_pow]; omega
  split
  · refine ⟨Nat.xor_lt_two_pow (n := 32) (by omega) (by omega), fun he => ?_⟩
    have h2 := congrArg (· ^^^ 2197175160) he
    simp only [Nat.xor_assoc, Nat.xor_self, Nat.xor_zero, Nat.zero_xor] at h2
    omega
  · rw [Nat.shiftRight_eq_div_pow] at h1 ⊢
    constructor <;> omega
theorem crK_pos : ∀ (n t : Nat), t < 4294967296 → t ≠ 0 → crK n t ≠ 0
  | 0, t, _, h0 => h0
  | n + 1, t, h, h0 => crK_pos n (cr t) (cr_pos h h0).1 (cr_pos h h0).2
/-- A burst of at most 32 bits is told. -/
theorem crK_burst {m f n : Nat} (hm : m < 4294967296) (h0 : m ≠ 0) (hf : f ≤ n) : crK n (m <<< f) ≠ 0 := by
  obtain ⟨r, rfl⟩ : ∃ r, n = f + r := ⟨n - f, by omega⟩
  have := crK_high f 0 m
  rw [Nat.zero_xor, crK_zero, Nat.zero_xor] at this
  rw [crK_add, this]
  exact crK_pos r m hm h0
theorem xor_nat8 (a b : UInt8) : (a ^^^ b).toNat = a.toNat ^^^ b.toNat := by simp
theorem bN_set : ∀ {ys : List UInt8} {i : Nat} {y : UInt8} (v : UInt8), ys[i]? = some y → bN (ys.set i (y ^^^ v)) = bN ys ^^^ (v.toNat <<< (8 * i))
  | [], i, y, v, h => by cases h
  | x :: ys, 0, y, v, h => by
    simp only [List.getElem?_cons_zero, Option.some.injEq] at h
    subst h
    simp only [List.set_cons_zero, bN, xor_nat8, Nat.mul_zero, Nat.shiftLeft_zero]
    rw [Nat.xor_assoc, Nat.xor_comm v.toNat, ← Nat.xor_assoc]
  | x :: ys, i + 1, y, v, h => by
    simp only [List.set_cons_succ, bN]
    rw [bN_set v (by simpa using h), Nat.shiftLeft_xor_distrib, ← Nat.shiftLeft_add, Nat.xor_assoc, show 8 * i + 8 = 8 * (i + 1) by omega]
theorem sum4_inj {s t : BitVec 32} (h : sum4 s = sum4 t) : s = t := by
  simp only [sum4, List.cons.injEq, and_true] at h
  obtain ⟨h1, h2, h3, h4⟩ := h
  have g := fun (a b : Nat) (e : UInt8.ofNat a = UInt8.ofNat b) => congrArg UInt8.toNat e
  have a1 := g _ _ h1
  have a2 := g _ _ h2
  have a3 := g _ _ h3
  have a4 := g _ _ h4
  simp only [UInt8.toNat_ofNat'] at a1 a2 a3 a4
  have := s.isLt
  have := t.isLt
  apply BitVec.eq_of_toNat_eq
  omega
theorem sealB_eq {xs ys : List UInt8} (h : xs.length = ys.length) : sealB xs = sealB ys ↔ crK (8 * xs.length) (bN xs ^^^ bN ys) = 0 := by
  rw [← fold_eq h ((headB xs.length).foldl crcB (BitVec.allOnes 32))]
  unfold sealB sumB crcL
  rw [List.foldl_append, List.foldl_append, h]
  constructor
  · intro he
    have := congrArg (~~~ ·) he
    simpa using this
  · intro he; rw [he]
/-- A frame whose body was changed. -/
def frameG (xs ys : List UInt8) : List UInt8 := headB xs.length ++ sum4 (sealB xs) ++ ys
theorem frameG_self (xs : List UInt8) : frameG xs xs = frameB xs := rfl
theorem unR_frameG {xs ys : List UInt8} (h : xs.length ≤ 4096) (hl : ys.length = xs.length) : unR (frameG xs ys) = if crK (8 * xs.length) (bN xs ^^^ bN ys) = 0 then (ys, 6 + xs.length, 0) else ([], 0, 33) := by
  have h0 : (frameG xs ys).length = xs.length + 6 := by simp [frameG, headB, sum4, hl]
  have h1 : lenB (frameG xs ys) = xs.length := by unfold frameG; rw [List.append_assoc]; exact headB_len h _
  have h2 : sub (frameG xs ys) 6 (6 + xs.length) = ys := by
    unfold sub frameG
    rw [List.take_of_length_le (by simp [headB, sum4, hl]; omega)]
    rfl
  have h3 : sub (frameG xs ys) 0 (6 + xs.length) = frameG xs ys := by
    unfold sub
    rw [List.drop_zero, List.take_of_length_le (by omega)]
  have h4 : frameB ys = frameG xs ys ↔ crK (8 * xs.length) (bN xs ^^^ bN ys) = 0 := by
    rw [← sealB_eq hl.symm]
    unfold frameB frameG
    rw [hl]
    constructor
    · intro he
      have := List.append_cancel_right he
      exact (sum4_inj (List.append_cancel_left this)).symm
    · intro he; rw [he]
  by_cases hz : crK (8 * xs.length) (bN xs ^^^ bN ys) = 0
  · rw [if_pos hz, unR_ok (by omega) (by omega) (by omega) (by rw [h1, h2, h3]; exact h4.2 hz), h1, h2]
  · rw [if_neg hz, unR_sum (by omega) (by omega) (by omega) (by rw [h1, h2, h3]; exact fun he => hz (h4.1 he))]
theorem frameG_len {xs ys : List UInt8} (h : ys.length = xs.length) : (frameG xs ys).length = xs.length + 6 := by simp [frameG, headB, sum4, h]
theorem frameG_get {xs ys : List UInt8} {i : Nat} : (frameG xs ys)[6 + i]? = ys[i]? := by
  unfold frameG
  rw [List.getElem?_append_right (by simp [headB, sum4])]
  congr 1
  simp [headB, sum4]
theorem frameG_set {xs ys : List UInt8} {i : Nat} {v : UInt8} : (frameG xs ys).set (6 + i) v = frameG xs (ys.set i v) := by
  unfold frameG
  rw [List.set_append_right _ _ (by simp [headB, sum4])]
  congr 2
  simp [headB, sum4]
theorem burst_end {xs ys : List UInt8} {m f : Nat} (h : xs.length ≤ 4096) (hl : ys.length = xs.length) (hb : bN ys = bN xs ^^^ (m <<< f)) (hz : m = 0 → ys = xs) (hm : m < 4294967296) (hf : f ≤ 8 * xs.length) :
    unR (frameG xs ys) = if m = 0 then (xs, 6 + xs.length, 0) else ([], 0, 33) := by
  have hd : bN xs ^^^ bN ys = m <<< f := by rw [hb, ← Nat.xor_assoc, Nat.xor_self, Nat.zero_xor]
  rw [unR_frameG h hl, hd]
  by_cases h0 : m = 0
  · rw [hz h0, h0, Nat.zero_shiftLeft, crK_zero]
  · rw [if_neg (crK_burst hm h0 hf), if_neg h0]
/-! ### The machine's words -/
theorem shrk {m k : Nat} (hk : k < 32) : (m : Int).fdiv (2 ^ (min ((k : Int)).toNat IntKind.u32.bits)) = ((m / 2 ^ k : Nat) : Int) := by
  have h1 : min ((k : Int)).toNat IntKind.u32.bits = k := by simp [IntKind.bits]; omega
  rw [h1]
  have h2 : (2 : Int) ^ k = ((2 ^ k : Nat) : Int) := by simp
  rw [h2]
  exact fdivK
theorem and1u32 {q : Nat} (h : q < 4294967296) : ibits .and .u32 (q : Int) 1 = ((q % 2 : Nat) : Int) := by
  have h1 := and32 (BitVec.ofNat 32 q)
  have h2 : v32 (BitVec.ofNat 32 q) = (q : Int) := by unfold v32; rw [BitVec.toNat_ofNat, Nat.mod_eq_of_lt (by omega)]
  rw [h2] at h1
  rw [h1]
  unfold v32
  rw [BitVec.toNat_and]
  have h3 : (1 : BitVec 32).toNat = 1 := rfl
  rw [h3, Nat.and_one_is_mod, BitVec.toNat_ofNat, Nat.mod_eq_of_lt (show q < 2 ^ 32 by omega)]
theorem shlu8 {b : Nat} (hb : b < 8) : IntKind.u8.wrap (1 * 2 ^ (min ((b : Int)).toNat IntKind.u8.bits)) = ((UInt8.ofNat (2 ^ b)).toNat : Int) := by
  have : ∀ b : Fin 8, IntKind.u8.wrap (1 * 2 ^ (min (((b.val : Nat) : Int)).toNat IntKind.u8.bits)) = ((UInt8.ofNat (2 ^ b.val)).toNat : Int) := by decide +kernel
  exact this ⟨b, hb⟩
theorem xoru8 (x v : UInt8) : ibits .xor .u8 (x.toNat : Int) (v.toNat : Int) = ((x ^^^ v).toNat : Int) := by
  show IntKind.u8.wrap ((BitVec.ofInt 8 (x.toNat : Int) ^^^ BitVec.ofInt 8 (v.toNat : Int)).toNat : Int) = _
  have h : ∀ y : UInt8, BitVec.ofInt 8 (y.toNat : Int) = y.toBitVec := fun y => by
    apply BitVec.eq_of_toNat_eq
    have := y.toNat_lt
    simp
  rw [h, h, ← UInt8.toBitVec_xor]
  have := (x ^^^ v).toNat_lt
  exact wrap_u8 (Int.natCast_nonneg _) (by show (((x ^^^ v).toNat : Nat) : Int) ≤ 255; omega)
theorem tdiv8 {n : Nat} (h : n < 1000000000) : IntKind.i64.wrap ((n : Int).tdiv 8) = ((n / 8 : Nat) : Int) := by
  rw [Int.tdiv_eq_ediv_of_nonneg (by omega), wrap_i64 (by omega) (by omega)]
  omega
theorem tmod8 {n : Nat} : (n : Int).tmod 8 = ((n % 8 : Nat) : Int) := by rw [Int.tmod_eq_emod_of_nonneg (by omega)]; omega
theorem mask_on {m k : Nat} (h : m / 2 ^ k % 2 = 1) : m % 2 ^ (k + 1) = (m % 2 ^ k) ^^^ (1 <<< k) := by
  have h1 : m % 2 ^ (k + 1) = 2 ^ k * (m / 2 ^ k % 2) + m % 2 ^ k := by rw [Nat.pow_succ, Nat.mod_mul]; omega
  rw [h1, h, Nat.shiftLeft_eq, Nat.one_mul, Nat.mul_one, Nat.xor_comm]
  have h2 : m % 2 ^ k < 2 ^ k := Nat.mod_lt _ (Nat.two_pow_pos k)
  have h3 := Nat.two_pow_add_eq_or_of_lt h2 1
  rw [Nat.mul_one] at h3
  rw [h3]
  apply Nat.eq_of_testBit_eq
  intro i
  rw [Nat.testBit_or, Nat.testBit_xor, Nat.testBit_two_pow]
  by_cases hi : k = i
  · subst hi; rw [Nat.testBit_lt_two_pow h2]; simp
  · simp [hi]
theorem mask_nz {m k : Nat} (h : m / 2 ^ k % 2 = 1) : m % 2 ^ (k + 1) ≠ 0 := by
  have h1 : m % 2 ^ (k + 1) = 2 ^ k * (m / 2 ^ k % 2) + m % 2 ^ k := by rw [Nat.pow_succ, Nat.mod_mul]; omega
  have := Nat.two_pow_pos k
  rw [h1, h]; omega
theorem mask_off {m k : Nat} (h : ¬ m / 2 ^ k % 2 = 1) : m % 2 ^ (k + 1) = m % 2 ^ k := by
  have h1 : m % 2 ^ (k + 1) = 2 ^ k * (m / 2 ^ k % 2) + m % 2 ^ k := by rw [Nat.pow_succ, Nat.mod_mul]; omega
  have h2 : m / 2 ^ k % 2 = 0 := by omega
  rw [h1, h2]; omega
theorem bit_set {p : Nat} : (UInt8.ofNat (2 ^ (p % 8))).toNat <<< (8 * (p / 8)) = 1 <<< p := by
  have h : ∀ b : Fin 8, (UInt8.ofNat (2 ^ b.val)).toNat = 2 ^ b.val := by decide +kernel
  have h1 := h ⟨p % 8, by omega⟩
  dsimp only at h1
  rw [h1, Nat.shiftLeft_eq, Nat.shiftLeft_eq, ← Nat.pow_add, Nat.one_mul]
  congr 1
  omega
theorem burst_step {m k f : Nat} {xs ys : List UInt8} {y : UInt8} (hb : bN ys = bN xs ^^^ ((m % 2 ^ k) <<< f)) (h : m / 2 ^ k % 2 = 1) (hy : ys[(f + k) / 8]? = some y) :
    bN (ys.set ((f + k) / 8) (y ^^^ UInt8.ofNat (2 ^ ((f + k) % 8)))) = bN xs ^^^ ((m % 2 ^ (k + 1)) <<< f) := by
  rw [bN_set _ hy, bit_set, hb, mask_on h, Nat.shiftLeft_xor_distrib, ← Nat.shiftLeft_add, Nat.add_comm k f, Nat.xor_assoc]
end Go.Proofs.Ytoigakfglgdjdaa
