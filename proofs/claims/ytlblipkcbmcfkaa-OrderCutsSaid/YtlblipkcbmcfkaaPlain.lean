/- Numbers as bytes, check sums: the plain law. -/
import Derived.Test.YtlblipkcbmcfkaaHeld
set_option linter.unusedVariables false
set_option linter.unusedSimpArgs false
namespace Go.Proofs.Ytlblipkcbmcfkaa
open Go.RowKit

/-! ### Bytes in the machine's words -/
theorem cv8 (n : Nat) : IntKind.u8.wrap (n : Int) = ((UInt8.ofNat n).toNat : Int) := by
  simp [IntKind.wrap, IntKind.signed, IntKind.bits]
theorem or128 (a : UInt8) : ibits .or .u8 (a.toNat : Int) 128 = ((a ||| 128).toNat : Int) := by
  have : ∀ b : BitVec 8, ibits .or .u8 ((UInt8.ofBitVec b).toNat : Int) 128 = ((UInt8.ofBitVec b ||| 128).toNat : Int) := by decide
  exact this a.toBitVec
theorem u8_lt (a : UInt8) : (0 : Int) ≤ (a.toNat : Int) ∧ (a.toNat : Int) < 256 := by have := a.toNat_lt; omega
theorem fdiv128 (n : Nat) : (n : Int).fdiv 128 = ((n / 128 : Nat) : Int) := by rw [Int.fdiv_eq_ediv_of_nonneg _ (by omega)]; omega
/-- A number's bytes. -/
def numB (n : Nat) : List UInt8 := if h : n < 128 then [UInt8.ofNat n] else (UInt8.ofNat n ||| 128) :: numB (n / 128)
theorem numB_lt {n : Nat} (h : n < 128) : numB n = [UInt8.ofNat n] := by rw [numB]; simp [h]
theorem numB_ge {n : Nat} (h : 128 ≤ n) : numB n = (UInt8.ofNat n ||| 128) :: numB (n / 128) := by rw [numB]; simp [show ¬ n < 128 by omega]
theorem numB_len_le : ∀ (k n : Nat), n < 128 ^ k → 0 < k → (numB n).length ≤ k
  | 0, n, h, hk => absurd hk (by omega)
  | k + 1, n, h, _ => by
    by_cases hn : n < 128
    · rw [numB_lt hn]; simp
    · rw [numB_ge (by omega)]
      have hk : 0 < k := by
        rcases Nat.eq_zero_or_pos k with h0 | h0
        · subst h0; simp at h; omega
        · exact h0
      have := numB_len_le k (n / 128) (by rw [Nat.pow_succ] at h; exact Nat.div_lt_of_lt_mul (by rw [Nat.mul_comm]; exact h)) hk
      simp; omega
theorem numB_pos (n : Nat) : 0 < (numB n).length := by
  by_cases hn : n < 128
  · rw [numB_lt hn]; simp
  · rw [numB_ge (by omega)]; simp

theorem or_low (n : Nat) : (UInt8.ofNat n ||| 128).toNat = n % 128 + 128 := by
  have h : ∀ k : Fin 256, (UInt8.ofNat k.val ||| 128).toNat = k.val % 128 + 128 := by decide +kernel
  have h2 : UInt8.ofNat n = UInt8.ofNat (n % 256) := by apply UInt8.toNat_inj.1; simp
  rw [h2, h ⟨n % 256, Nat.mod_lt _ (by omega)⟩]
  show n % 256 % 128 + 128 = _
  omega
theorem of_low {n : Nat} (h : n < 128) : (UInt8.ofNat n).toNat = n := by simp; omega
theorem add_low (n : Nat) : UInt8.ofNat (n % 128 + 128) = UInt8.ofNat n ||| 128 := by
  apply UInt8.toNat_inj.1
  rw [or_low]
  simp
  omega
theorem tmod128 (n : Nat) : (n : Int).tmod 128 = ((n % 128 : Nat) : Int) := by rw [Int.tmod_eq_emod_of_nonneg (by omega)]; omega
theorem tdiv128 {n : Nat} (h : n < 18446744073709551616) : IntKind.u64.wrap ((n : Int).tdiv 128) = ((n / 128 : Nat) : Int) := by
  rw [Int.tdiv_eq_ediv_of_nonneg (by omega)]
  rw [wrap_u64 (by omega) (by omega)]
  omega
theorem addlow (n : Nat) : IntKind.u64.wrap (((n % 128 : Nat) : Int) + 128) = ((n % 128 + 128 : Nat) : Int) := by
  rw [wrap_u64 (by omega) (by omega)]
  omega
/-- A number ahead of other bytes is read back. -/
theorem numB_app : ∀ {m n : Nat} {s t : List UInt8}, numB m ++ s = numB n ++ t → m = n ∧ s = t := by
  intro m
  induction m using Nat.strongRecOn with
  | _ m ih =>
    intro n s t h
    by_cases hm : m < 128 <;> by_cases hn : n < 128
    · rw [numB_lt hm, numB_lt hn] at h
      simp only [List.cons_append, List.nil_append, List.cons.injEq] at h
      have := congrArg UInt8.toNat h.1
      rw [of_low hm, of_low hn] at this
      exact ⟨this, h.2⟩
    · rw [numB_lt hm, numB_ge (n := n) (by omega)] at h
      simp only [List.cons_append, List.nil_append, List.cons.injEq] at h
      have := congrArg UInt8.toNat h.1
      rw [of_low hm, or_low] at this
      omega
    · rw [numB_ge (n := m) (by omega), numB_lt hn] at h
      simp only [List.cons_append, List.nil_append, List.cons.injEq] at h
      have := congrArg UInt8.toNat h.1
      rw [of_low hn, or_low] at this
      omega
    · rw [numB_ge (n := m) (by omega), numB_ge (n := n) (by omega)] at h
      simp only [List.cons_append, List.cons.injEq] at h
      have h1 := congrArg UInt8.toNat h.1
      rw [or_low, or_low] at h1
      obtain ⟨h2, h3⟩ := ih (m / 128) (by omega) h.2
      exact ⟨by omega, h3⟩
theorem numB_eq {m n : Nat} : numB m = numB n ↔ m = n := ⟨fun h => (numB_app (s := []) (t := []) (by rw [h])).1, fun h => by rw [h]⟩
theorem numB_mono : ∀ {m n : Nat}, m ≤ n → (numB m).length ≤ (numB n).length := by
  intro m
  induction m using Nat.strongRecOn with
  | _ m ih =>
    intro n h
    by_cases hm : m < 128
    · rw [numB_lt hm]; exact numB_pos n
    · rw [numB_ge (n := m) (by omega), numB_ge (n := n) (by omega)]
      have := ih (m / 128) (by omega) (n := n / 128) (by omega)
      simp; omega

/-! ### The check sum -/
def poly : BitVec 32 := 0x82f63b78
def crc1 (s : BitVec 32) : BitVec 32 := if s &&& 1 = 1 then (s >>> 1) ^^^ poly else s >>> 1
def crcN : Nat → BitVec 32 → BitVec 32
  | 0, s => s
  | n + 1, s => crc1 (crcN n s)
def crcB (s : BitVec 32) (x : UInt8) : BitVec 32 := crcN 8 (s ^^^ x.toBitVec.zeroExtend 32)
def crcL (bs : List UInt8) : BitVec 32 := bs.foldl crcB (BitVec.allOnes 32)
def sumB (bs : List UInt8) : BitVec 32 := ~~~ crcL bs
def v32 (s : BitVec 32) : Int := (s.toNat : Int)
theorem v32_lt (s : BitVec 32) : 0 ≤ v32 s ∧ v32 s < 4294967296 := by unfold v32; have := s.isLt; omega
theorem ofInt_v32 (s : BitVec 32) : BitVec.ofInt 32 (v32 s) = s := by unfold v32; simp
theorem wrap_v32 (s : BitVec 32) : IntKind.u32.wrap (s.toNat : Int) = v32 s := by
  have := s.isLt
  unfold v32
  exact wrap_u32 (by omega) (by omega)
theorem xor32 (s t : BitVec 32) : ibits .xor .u32 (v32 s) (v32 t) = v32 (s ^^^ t) := by
  show IntKind.u32.wrap ((BitVec.ofInt 32 (v32 s) ^^^ BitVec.ofInt 32 (v32 t)).toNat : Int) = _
  rw [ofInt_v32, ofInt_v32, wrap_v32]
theorem and32 (s : BitVec 32) : ibits .and .u32 (v32 s) 1 = v32 (s &&& 1) := by
  show IntKind.u32.wrap ((BitVec.ofInt 32 (v32 s) &&& BitVec.ofInt 32 1).toNat : Int) = _
  rw [ofInt_v32, show BitVec.ofInt 32 1 = 1#32 by rfl, wrap_v32]
  rfl
theorem xorPoly (s : BitVec 32) : ibits .xor .u32 (v32 s) 2197175160 = v32 (s ^^^ poly) := xor32 s poly
theorem not32 (s : BitVec 32) : ibits .xor .u32 (if IntKind.u32.signed = true then -1 else IntKind.u32.max) (v32 s) = v32 (~~~ s) := by
  show IntKind.u32.wrap ((BitVec.ofInt 32 IntKind.u32.max ^^^ BitVec.ofInt 32 (v32 s)).toNat : Int) = _
  rw [ofInt_v32, show BitVec.ofInt 32 IntKind.u32.max = BitVec.allOnes 32 by rfl, BitVec.allOnes_xor, wrap_v32]
theorem shr1_32 (s : BitVec 32) : (v32 s).fdiv 2 = v32 (s >>> 1) := by
  unfold v32
  rw [BitVec.toNat_ushiftRight, Nat.shiftRight_eq_div_pow, Int.fdiv_eq_ediv_of_nonneg _ (by omega)]
  omega
theorem cv32 (x : UInt8) : IntKind.u32.wrap (x.toNat : Int) = v32 (x.toBitVec.zeroExtend 32) := by
  have := x.toNat_lt
  rw [wrap_u32 (by omega) (by omega)]
  unfold v32
  simp
theorem bit_one (s : BitVec 32) : v32 (s &&& 1) = 1 ↔ s &&& 1 = 1 := by
  constructor
  · intro h
    unfold v32 at h
    apply BitVec.eq_of_toNat_eq
    have : (1 : BitVec 32).toNat = 1 := rfl
    omega
  · intro h; rw [h]; rfl
theorem crc1_T {s : BitVec 32} (h : v32 (s &&& 1) = 1) : v32 ((s >>> 1) ^^^ poly) = v32 (crc1 s) := by rw [crc1, if_pos ((bit_one s).1 h)]
theorem crc1_F {s : BitVec 32} (h : ¬ v32 (s &&& 1) = 1) : v32 (s >>> 1) = v32 (crc1 s) := by rw [crc1, if_neg (fun h2 => h ((bit_one s).2 h2))]
theorem crcL_succ {xs : List UInt8} {i : Nat} {x : UInt8} (h : xs[i]? = some x) : crcL (xs.take (i + 1)) = crcN 8 (crcL (xs.take i) ^^^ x.toBitVec.zeroExtend 32) := by
  rw [List.take_add_one, h]
  simp [crcL, List.foldl_append, crcB]
theorem sum_example : v32 (sumB [49, 50, 51, 52, 53, 54, 55, 56, 57]) = 3808858755 := by decide +kernel
theorem num_example : numB 300 = [0xac, 2] := by rw [numB_ge (by omega), numB_lt (by omega)]; decide
end Go.Proofs.Ytlblipkcbmcfkaa
