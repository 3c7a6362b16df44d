/- Parts of this proof in one text: Fld. -/
import Derived.Laws.Entries
import Derived.RowKit
import Derived.Below
import Derived.Test.YtcjidibdidijaaaDoorQV0
import Derived.Test.YtcjidibdidijaaaDoorQV2
import Derived.Test.YtcjidibdidijaaaDoorQV5
namespace Go.Proofs.YtcjidibdidijaaaDoor
open Go.RowKit Go.Proofs.YtcjidibdidijaaaDoorW.PrintWords Go.Proofs.YtcjidibdidijaaaDoorW.PrintMore
set_option linter.unusedVariables false
set_option linter.unusedSimpArgs false
theorem u32_wrap_eq (x : Int) : IntKind.u32.wrap x = x % 4294967296 := by simp [IntKind.wrap, IntKind.bits, IntKind.signed]
theorem u64w (x : Int) : IntKind.u64.wrap x = x % 18446744073709551616 := by simp [IntKind.wrap, IntKind.bits, IntKind.signed]
theorem i64w (x : Int) : IntKind.i64.wrap x = wrap64 x := by
  unfold wrap64
  simp [IntKind.wrap, IntKind.bits, IntKind.signed]
  split <;> omega
def U32 (x : Int) : Nat := (x % 4294967296).toNat
theorem U32_lt (x : Int) : U32 x < 2 ^ 32 := by
  unfold U32
  show _ < 4294967296
  omega
theorem wrap_nat {n : Nat} (h : n < 2 ^ 32) : IntKind.u32.wrap (n : Int) = n := by
  rw [u32_wrap_eq]
  have : n < 4294967296 := h
  omega
theorem and32 (x y : Int) : Go.bits .and .u32 x y = ((U32 x &&& U32 y : Nat) : Int) := by
  show IntKind.u32.wrap ((BitVec.ofInt 32 x &&& BitVec.ofInt 32 y).toNat : Int) = _
  rw [wrap_nat (BitVec.isLt _), BitVec.toNat_and, BitVec.toNat_ofInt, BitVec.toNat_ofInt]
  rfl
theorem or32 (x y : Int) : Go.bits .or .u32 x y = ((U32 x ||| U32 y : Nat) : Int) := by
  show IntKind.u32.wrap ((BitVec.ofInt 32 x ||| BitVec.ofInt 32 y).toNat : Int) = _
  rw [wrap_nat (BitVec.isLt _), BitVec.toNat_or, BitVec.toNat_ofInt, BitVec.toNat_ofInt]
  rfl
theorem xor32 (x y : Int) : Go.bits .xor .u32 x y = ((U32 x ^^^ U32 y : Nat) : Int) := by
  show IntKind.u32.wrap ((BitVec.ofInt 32 x ^^^ BitVec.ofInt 32 y).toNat : Int) = _
  rw [wrap_nat (BitVec.isLt _), BitVec.toNat_xor, BitVec.toNat_ofInt, BitVec.toNat_ofInt]
  rfl
theorem U32_nat (n : Nat) (h : n < 4294967296) : U32 (n : Int) = n := by unfold U32; omega
theorem and32_mask (x : Int) (k : Nat) (hk : k < 32) (h0 : 0 ≤ x) (h1 : x < 4294967296) : Go.bits .and .u32 x ((2 ^ k - 1 : Nat) : Int) = x % ((2 ^ k : Nat) : Int) := by
  have hp : 2 ^ k < 2 ^ 32 := Nat.pow_lt_pow_right (by omega) hk
  have hp' : 2 ^ k < 4294967296 := hp
  obtain ⟨n, rfl⟩ := Int.eq_ofNat_of_zero_le h0
  rw [and32, U32_nat _ (by omega), U32_nat _ (by omega), Nat.and_two_pow_sub_one_eq_mod]
  rfl
theorem and7 (x : Int) (h0 : 0 ≤ x) (h1 : x < 4294967296) : Go.bits .and .u32 x 7 = x % 8 := and32_mask x 3 (by omega) h0 h1
theorem and63 (x : Int) (h0 : 0 ≤ x) (h1 : x < 4294967296) : Go.bits .and .u32 x 63 = x % 64 := and32_mask x 6 (by omega) h0 h1
theorem or32_add (k : Nat) (x y : Int) (h0 : 0 ≤ x) (hx : x < ((2 ^ k : Nat) : Int)) (hy0 : 0 ≤ y) (hy1 : y * ((2 ^ k : Nat) : Int) < 4294967296) (hk : k ≤ 32) :
    Go.bits .or .u32 x (y * ((2 ^ k : Nat) : Int)) = x + y * ((2 ^ k : Nat) : Int) := by
  obtain ⟨a, rfl⟩ := Int.eq_ofNat_of_zero_le h0
  obtain ⟨b, rfl⟩ := Int.eq_ofNat_of_zero_le hy0
  have ha : a < 2 ^ k := by omega
  have hp : 2 ^ k ≤ 2 ^ 32 := Nat.pow_le_pow_right (by omega) hk
  have hp' : 2 ^ k ≤ 4294967296 := hp
  rw [← Int.natCast_mul] at hy1 ⊢
  rw [or32, U32_nat _ (by omega), U32_nat _ (by omega), Nat.or_comm, Nat.mul_comm, ← Nat.two_pow_add_eq_or_of_lt ha]
  omega
def U64 (x : Int) : Nat := (x % 18446744073709551616).toNat
theorem or64 (x y : Int) : Go.bits .or .u64 x y = ((U64 x ||| U64 y : Nat) : Int) := by
  show IntKind.u64.wrap ((BitVec.ofInt 64 x ||| BitVec.ofInt 64 y).toNat : Int) = _
  have h := (BitVec.ofInt 64 x ||| BitVec.ofInt 64 y).isLt
  have h' : (BitVec.ofInt 64 x ||| BitVec.ofInt 64 y).toNat < 18446744073709551616 := h
  rw [u64w, Int.emod_eq_of_lt (by omega) (by omega), BitVec.toNat_or, BitVec.toNat_ofInt, BitVec.toNat_ofInt]
  rfl
theorem or64_add (x y : Int) (h0 : 0 ≤ x) (hx : x < 4294967296) (hy0 : 0 ≤ y) (hy1 : y < 4294967296) : Go.bits .or .u64 x (y * 4294967296) = x + y * 4294967296 := by
  obtain ⟨a, rfl⟩ := Int.eq_ofNat_of_zero_le h0
  obtain ⟨b, rfl⟩ := Int.eq_ofNat_of_zero_le hy0
  have ha : a < 2 ^ 32 := by show a < 4294967296; omega
  have e1 : U64 (a : Int) = a := by unfold U64; omega
  have e2 : U64 ((b : Int) * 4294967296) = b * 2 ^ 32 := by unfold U64; show _ = b * 4294967296; omega
  rw [or64, e1, e2, Nat.or_comm, Nat.mul_comm, ← Nat.two_pow_add_eq_or_of_lt ha]
  show (((4294967296 * b + a : Nat)) : Int) = _
  omega
theorem and64_mask (x : Int) (k : Nat) (hk : k < 64) (h0 : 0 ≤ x) (h1 : x < 18446744073709551616) : Go.bits .and .u64 x ((2 ^ k - 1 : Nat) : Int) = x % ((2 ^ k : Nat) : Int) := by
  have hp : 2 ^ k < 2 ^ 64 := Nat.pow_lt_pow_right (by omega) hk
  have hp' : 2 ^ k < 18446744073709551616 := hp
  obtain ⟨n, rfl⟩ := Int.eq_ofNat_of_zero_le h0
  show IntKind.u64.wrap ((BitVec.ofInt 64 n &&& BitVec.ofInt 64 ((2 ^ k - 1 : Nat) : Int)).toNat : Int) = _
  have h := (BitVec.ofInt 64 n &&& BitVec.ofInt 64 ((2 ^ k - 1 : Nat) : Int)).isLt
  have h' : (BitVec.ofInt 64 n &&& BitVec.ofInt 64 ((2 ^ k - 1 : Nat) : Int)).toNat < 18446744073709551616 := h
  rw [u64w, Int.emod_eq_of_lt (by omega) (by omega), BitVec.toNat_and, BitVec.toNat_ofInt, BitVec.toNat_ofInt]
  have e1 : ((n : Int) % ((2 ^ 64 : Nat) : Int)).toNat = n := by show ((n : Int) % 18446744073709551616).toNat = n; omega
  have e2 : (((2 ^ k - 1 : Nat) : Int) % ((2 ^ 64 : Nat) : Int)).toNat = 2 ^ k - 1 := by show (((2 ^ k - 1 : Nat) : Int) % 18446744073709551616).toNat = _; omega
  rw [e1, e2, Nat.and_two_pow_sub_one_eq_mod]
  rfl
theorem xor32_range (x y : Int) : 0 ≤ Go.bits .xor .u32 x y ∧ Go.bits .xor .u32 x y < 4294967296 := by
  rw [xor32]
  have := Nat.xor_lt_two_pow (U32_lt x) (U32_lt y)
  have h : U32 x ^^^ U32 y < 4294967296 := this
  omega
theorem fo_1 : formOf 1 = 1 := by decide +kernel
theorem fo_2 : formOf 2 = 1 := by decide +kernel
theorem fo_3 : formOf 3 = 1 := by decide +kernel
theorem fo_4 : formOf 4 = 8 := by decide +kernel
theorem fo_5 : formOf 5 = 8 := by decide +kernel
theorem fo_6 : formOf 6 = 5 := by decide +kernel
theorem fo_7 : formOf 7 = 5 := by decide +kernel
theorem fo_8 : formOf 8 = 5 := by decide +kernel
theorem fo_9 : formOf 9 = 2 := by decide +kernel
theorem fo_10 : formOf 10 = 3 := by decide +kernel
theorem fo_11 : formOf 11 = 4 := by decide +kernel
theorem fo_12 : formOf 12 = 4 := by decide +kernel
theorem fo_13 : formOf 13 = 5 := by decide +kernel
theorem fo_14 : formOf 14 = 6 := by decide +kernel
theorem fo_15 : formOf 15 = 2 := by decide +kernel
theorem fo_16 : formOf 16 = 2 := by decide +kernel
theorem fo_17 : formOf 17 = 3 := by decide +kernel
theorem fo_18 : formOf 18 = 3 := by decide +kernel
theorem fo_19 : formOf 19 = 3 := by decide +kernel
theorem fo_20 : formOf 20 = 3 := by decide +kernel
theorem fo_21 : formOf 21 = 3 := by decide +kernel
theorem fo_22 : formOf 22 = 3 := by decide +kernel
theorem fo_23 : formOf 23 = 3 := by decide +kernel
theorem fo_24 : formOf 24 = 3 := by decide +kernel
theorem fo_25 : formOf 25 = 3 := by decide +kernel
theorem fo_26 : formOf 26 = 3 := by decide +kernel
theorem fo_27 : formOf 27 = 3 := by decide +kernel
theorem fo_28 : formOf 28 = 3 := by decide +kernel
theorem fo_29 : formOf 29 = 3 := by decide +kernel
theorem fo_30 : formOf 30 = 3 := by decide +kernel
theorem fo_31 : formOf 31 = 3 := by decide +kernel
theorem fo_32 : formOf 32 = 3 := by decide +kernel
theorem fo_33 : formOf 33 = 5 := by decide +kernel
theorem fo_34 : formOf 34 = 7 := by decide +kernel
theorem fo_35 : formOf 35 = 7 := by decide +kernel
theorem fo_36 : formOf 36 = 5 := by decide +kernel
theorem fo_37 : formOf 37 = 5 := by decide +kernel
theorem formOf_iff6 (op : Int) : formOf op = 6 ↔ op = 14 := by
  by_cases h : op < 1 ∨ op > 37
  · rw [formOf_out op h]; omega
  · have h : op = 1 ∨ op = 2 ∨ op = 3 ∨ op = 4 ∨ op = 5 ∨ op = 6 ∨ op = 7 ∨ op = 8 ∨ op = 9 ∨ op = 10 ∨ op = 11 ∨ op = 12 ∨ op = 13 ∨ op = 14 ∨ op = 15 ∨ op = 16 ∨ op = 17 ∨ op = 18 ∨ op = 19 ∨ op = 20 ∨ op = 21 ∨ op = 22 ∨ op = 23 ∨ op = 24 ∨ op = 25 ∨ op = 26 ∨ op = 27 ∨ op = 28 ∨ op = 29 ∨ op = 30 ∨ op = 31 ∨ op = 32 ∨ op = 33 ∨ op = 34 ∨ op = 35 ∨ op = 36 ∨ op = 37 := by omega
    rcases h with rfl | rfl | rfl | rfl | rfl | rfl | rfl | rfl | rfl | rfl | rfl | rfl | rfl | rfl | rfl | rfl | rfl | rfl | rfl | rfl | rfl | rfl | rfl | rfl | rfl | rfl | rfl | rfl | rfl | rfl | rfl | rfl | rfl | rfl | rfl | rfl | rfl <;> simp only [fo_1, fo_2, fo_3, fo_4, fo_5, fo_6, fo_7, fo_8, fo_9, fo_10, fo_11, fo_12, fo_13, fo_14, fo_15, fo_16, fo_17, fo_18, fo_19, fo_20, fo_21, fo_22, fo_23, fo_24, fo_25, fo_26, fo_27, fo_28, fo_29, fo_30, fo_31, fo_32, fo_33, fo_34, fo_35, fo_36, fo_37] <;> omega
theorem formOf_iff0 (op : Int) : formOf op = 0 ↔ op < 1 ∨ op > 37 := by
  by_cases h : op < 1 ∨ op > 37
  · rw [formOf_out op h]; simp [h]
  · have h' : op = 1 ∨ op = 2 ∨ op = 3 ∨ op = 4 ∨ op = 5 ∨ op = 6 ∨ op = 7 ∨ op = 8 ∨ op = 9 ∨ op = 10 ∨ op = 11 ∨ op = 12 ∨ op = 13 ∨ op = 14 ∨ op = 15 ∨ op = 16 ∨ op = 17 ∨ op = 18 ∨ op = 19 ∨ op = 20 ∨ op = 21 ∨ op = 22 ∨ op = 23 ∨ op = 24 ∨ op = 25 ∨ op = 26 ∨ op = 27 ∨ op = 28 ∨ op = 29 ∨ op = 30 ∨ op = 31 ∨ op = 32 ∨ op = 33 ∨ op = 34 ∨ op = 35 ∨ op = 36 ∨ op = 37 := by omega
    rcases h' with rfl | rfl | rfl | rfl | rfl | rfl | rfl | rfl | rfl | rfl | rfl | rfl | rfl | rfl | rfl | rfl | rfl | rfl | rfl | rfl | rfl | rfl | rfl | rfl | rfl | rfl | rfl | rfl | rfl | rfl | rfl | rfl | rfl | rfl | rfl | rfl | rfl <;> simp only [fo_1, fo_2, fo_3, fo_4, fo_5, fo_6, fo_7, fo_8, fo_9, fo_10, fo_11, fo_12, fo_13, fo_14, fo_15, fo_16, fo_17, fo_18, fo_19, fo_20, fo_21, fo_22, fo_23, fo_24, fo_25, fo_26, fo_27, fo_28, fo_29, fo_30, fo_31, fo_32, fo_33, fo_34, fo_35, fo_36, fo_37] <;> omega
theorem val_cases {op a b c n : Int} (h : Val op a b c n) : 1 ≤ op ∧ op ≤ 37 ∧ 0 ≤ a ∧ a < 8 ∧ 0 ≤ b ∧ b < 8 ∧ 0 ≤ c ∧ c < 8 ∧ -9223372036854775808 ≤ n ∧ n ≤ 9223372036854775807 ∧
    ((formOf op = 1 ∧ a = 0 ∧ b = 0 ∧ c = 0 ∧ n = 0) ∨ (formOf op = 2 ∧ b = 0 ∧ c = 0 ∧ n = 0) ∨ (formOf op = 3 ∧ c = 0 ∧ n = 0) ∨ (formOf op = 4 ∧ n = 0) ∨ (formOf op = 5 ∧ b = 0 ∧ c = 0 ∧ -4194304 ≤ n ∧ n < 4194304) ∨
     (formOf op = 6 ∧ b = 0 ∧ c = 0) ∨ (formOf op = 7 ∧ c = 0 ∧ 0 ≤ n ∧ n < 524288) ∨ (formOf op = 8 ∧ a = 0 ∧ b = 0 ∧ c = 0 ∧ -33554432 ≤ n ∧ n < 33554432)) := by
  obtain ⟨h1, h2, ha, hb, hc, hn, a0, a1, b0, b1, c0, c1, hN⟩ := h
  have h : op = 1 ∨ op = 2 ∨ op = 3 ∨ op = 4 ∨ op = 5 ∨ op = 6 ∨ op = 7 ∨ op = 8 ∨ op = 9 ∨ op = 10 ∨ op = 11 ∨ op = 12 ∨ op = 13 ∨ op = 14 ∨ op = 15 ∨ op = 16 ∨ op = 17 ∨ op = 18 ∨ op = 19 ∨ op = 20 ∨ op = 21 ∨ op = 22 ∨ op = 23 ∨ op = 24 ∨ op = 25 ∨ op = 26 ∨ op = 27 ∨ op = 28 ∨ op = 29 ∨ op = 30 ∨ op = 31 ∨ op = 32 ∨ op = 33 ∨ op = 34 ∨ op = 35 ∨ op = 36 ∨ op = 37 := by omega
  rcases h with rfl | rfl | rfl | rfl | rfl | rfl | rfl | rfl | rfl | rfl | rfl | rfl | rfl | rfl | rfl | rfl | rfl | rfl | rfl | rfl | rfl | rfl | rfl | rfl | rfl | rfl | rfl | rfl | rfl | rfl | rfl | rfl | rfl | rfl | rfl | rfl | rfl <;> simp only [fo_1, fo_2, fo_3, fo_4, fo_5, fo_6, fo_7, fo_8, fo_9, fo_10, fo_11, fo_12, fo_13, fo_14, fo_15, fo_16, fo_17, fo_18, fo_19, fo_20, fo_21, fo_22, fo_23, fo_24, fo_25, fo_26, fo_27, fo_28, fo_29, fo_30, fo_31, fo_32, fo_33, fo_34, fo_35, fo_36, fo_37, hasA, hasB, hasC, hasN, loN, hiN] at * <;> simp at * <;> omega
theorem or6 (x y : Int) (h0 : 0 ≤ x) (hx : x < 64) (hy0 : 0 ≤ y) (hy1 : y * 64 < 4294967296) : bits .or .u32 x (y * 64) = x + y * 64 := or32_add 6 x y h0 hx hy0 hy1 (by omega)
theorem or9 (x y : Int) (h0 : 0 ≤ x) (hx : x < 512) (hy0 : 0 ≤ y) (hy1 : y * 512 < 4294967296) : bits .or .u32 x (y * 512) = x + y * 512 := or32_add 9 x y h0 hx hy0 hy1 (by omega)
theorem or12 (x y : Int) (h0 : 0 ≤ x) (hx : x < 4096) (hy0 : 0 ≤ y) (hy1 : y * 4096 < 4294967296) : bits .or .u32 x (y * 4096) = x + y * 4096 := or32_add 12 x y h0 hx hy0 hy1 (by omega)
theorem or_zero32 (x : Int) (h0 : 0 ≤ x) (hx : x < 4294967296) : bits .or .u32 x 0 = x := by
  have := or32_add 32 x 0 h0 hx (by omega) (by rw [Int.zero_mul]; omega) (by omega)
  rwa [Int.zero_mul, Int.add_zero] at this
theorem word_sum (a0 a1 a2 a3 : Int) (h0 : 0 ≤ a0) (h0' : a0 < 64) (h1 : 0 ≤ a1) (h1' : a1 < 8) (h2 : 0 ≤ a2) (h2' : a2 < 8) (h3 : 0 ≤ a3) (h3' : a3 < 8) : wordOf a0 a1 a2 a3 = a0 + a1 * 64 + a2 * 512 + a3 * 4096 := by
  unfold wordOf
  rw [show a0 % 4294967296 = a0 by omega, show a1 % 4294967296 * 64 % 4294967296 = a1 * 64 by omega, show a2 % 4294967296 * 512 % 4294967296 = a2 * 512 by omega, show a3 % 4294967296 * 4096 % 4294967296 = a3 * 4096 by omega]
  rw [or6 _ _ h0 h0' h1 (by omega), or9 _ _ (by omega) (by omega) h2 (by omega), or12 _ _ (by omega) (by omega) h3 (by omega)]
theorem shl32 (x y : Int) (k : Nat) (hy : y = k) (hk : k ≤ 32) : shl .u32 x y = x * ((2 ^ k : Nat) : Int) % 4294967296 := by
  subst hy
  unfold shl
  rw [u32_wrap_eq, Int.toNat_natCast, show IntKind.u32.bits = 32 from rfl, Nat.min_eq_left hk]
  rw [Int.natCast_pow]
  rfl
def word1 (op a b c n : Int) : Int := op + a * 64 + b * 512 + c * 4096 + (if formOf op = 8 then n % 67108864 * 64 else if formOf op = 5 then n % 8388608 * 512 else if formOf op = 7 then n % 1048576 * 4096 else 0)
theorem word1_range {op a b c n : Int} (h : Val op a b c n) : 0 ≤ word1 op a b c n ∧ word1 op a b c n < 4294967296 := by
  have h := val_cases h
  unfold word1
  split
  · omega
  · split
    · omega
    · split <;> omega
theorem appW_eq {op a b c n : Int} (h : Val op a b c n) : appW op a b c n = if formOf op = 6 then [word1 op a b c n, n % 4294967296, n % 18446744073709551616 / 4294967296] else [word1 op a b c n] := by
  have h := val_cases h
  obtain ⟨h1, h2, a0, a1, b0, b1, c0, c1, n0, n1, h⟩ := h
  unfold appW word1
  rw [word_sum op a b c (by omega) (by omega) a0 a1 b0 b1 c0 c1]
  by_cases h6 : formOf op = 6
  · rw [if_pos h6, if_pos h6, if_neg (by omega), if_neg (by omega), if_neg (by omega), u64w]
    congr 1
    · omega
    · congr 2
      omega
  · rw [if_neg h6, if_neg h6]
    congr 1
    by_cases h8 : formOf op = 8
    · rw [if_pos h8, shl32 _ _ 6 (by unfold shf; rw [if_pos h8]; rfl) (by omega)]
      have e : n % 4294967296 * ((2 ^ 6 : Nat) : Int) % 4294967296 = n % 67108864 * 64 := by
        show n % 4294967296 * 64 % 4294967296 = _
        omega
      rw [e, or6 _ _ (by omega) (by omega) (by omega) (by omega)]
    · rw [if_neg h8]
      by_cases h5 : formOf op = 5
      · rw [if_pos h5, shl32 _ _ 9 (by unfold shf; rw [if_neg h8, if_pos h5]; rfl) (by omega)]
        have e : n % 4294967296 * ((2 ^ 9 : Nat) : Int) % 4294967296 = n % 8388608 * 512 := by
          show n % 4294967296 * 512 % 4294967296 = _
          omega
        rw [e, or9 _ _ (by omega) (by omega) (by omega) (by omega)]
      · rw [if_neg h5]
        by_cases h7 : formOf op = 7
        · rw [if_pos h7, shl32 _ _ 12 (by unfold shf; rw [if_neg h8, if_neg h5, if_pos h7]; rfl) (by omega)]
          have e : n % 4294967296 * ((2 ^ 12 : Nat) : Int) % 4294967296 = n % 1048576 * 4096 := by
            show n % 4294967296 * 4096 % 4294967296 = _
            omega
          rw [e, or12 _ _ (by omega) (by omega) (by omega) (by omega)]
        · rw [if_neg h7, shl32 _ _ 32 (by unfold shf; rw [if_neg h8, if_neg h5, if_neg h7]; rfl) (by omega)]
          have e : n % 4294967296 * ((2 ^ 32 : Nat) : Int) % 4294967296 = 0 := by
            show n % 4294967296 * 4294967296 % 4294967296 = _
            omega
          rw [e, or_zero32 _ (by omega) (by omega)]
          omega
theorem appW_len {op a b c n : Int} (h : Val op a b c n) : (appW op a b c n).length = if formOf op = 6 then 3 else 1 := by
  rw [appW_eq h]
  split <;> rfl
theorem appW_u32 {op a b c n : Int} (h : Val op a b c n) : ∀ x ∈ appW op a b c n, 0 ≤ x ∧ x < 4294967296 := by
  have hr := word1_range h
  rw [appW_eq h]
  intro x hx
  split at hx
  · simp only [List.mem_cons, List.not_mem_nil, or_false] at hx
    rcases hx with rfl | rfl | rfl <;> omega
  · simp only [List.mem_cons, List.not_mem_nil, or_false] at hx
    subst hx
    exact hr
def cA (x : Int) : Int := if hasA (formOf (x % 64)) = true then x / 64 % 8 else 0
def cB (x : Int) : Int := if hasB (formOf (x % 64)) = true then x / 512 % 8 else 0
def cC (x : Int) : Int := if hasC (formOf (x % 64)) = true then x / 4096 % 8 else 0
def cN (x y z : Int) : Int :=
  if formOf (x % 64) = 8 then (if x / 64 < 33554432 then x / 64 else x / 64 - 67108864)
  else if formOf (x % 64) = 5 then (if x / 512 < 4194304 then x / 512 else x / 512 - 8388608)
  else if formOf (x % 64) = 7 then (if x / 4096 < 524288 then x / 4096 else x / 4096 - 1048576)
  else if formOf (x % 64) = 6 then wrap64 (y + z * 4294967296) else 0
theorem word1_mod {op a b c n : Int} (h : Val op a b c n) : word1 op a b c n % 64 = op := by
  have h := val_cases h
  unfold word1
  split
  · omega
  · split
    · omega
    · split <;> omega
theorem fields_back {op a b c n : Int} (h : Val op a b c n) (y z : Int) (hy : formOf op = 6 → y = n % 4294967296) (hz : formOf op = 6 → z = n % 18446744073709551616 / 4294967296) :
    cA (word1 op a b c n) = a ∧ cB (word1 op a b c n) = b ∧ cC (word1 op a b c n) = c ∧ cN (word1 op a b c n) y z = n := by
  have hm := word1_mod h
  unfold cA cB cC cN
  rw [hm]
  obtain ⟨h1, h2, a0, a1, b0, b1, c0, c1, n0, n1, h⟩ := val_cases h
  unfold word1
  rcases h with ⟨hf, h⟩ | ⟨hf, h⟩ | ⟨hf, h⟩ | ⟨hf, h⟩ | ⟨hf, h⟩ | ⟨hf, h⟩ | ⟨hf, h⟩ | ⟨hf, h⟩ <;> rw [hf] at hy hz ⊢ <;> simp [hasA, hasB, hasC] at hy hz ⊢ <;> (try subst hy hz) <;> (try unfold wrap64) <;> omega
end Go.Proofs.YtcjidibdidijaaaDoor
