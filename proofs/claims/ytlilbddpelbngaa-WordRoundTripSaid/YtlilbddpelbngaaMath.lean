/- Plain arithmetic of 64-bit words over Int: wraps, bit operations and shifts as numbers. -/
import Derived.Laws.Entries
import Derived.RowKit
import Derived.Below
import Derived.Test.YtlilbddpelbngaaWWords
import Derived.Test.YtlilbddpelbngaaWMore
namespace Go.Proofs.Ytlilbddpelbngaa.M
set_option linter.unusedVariables false
set_option linter.unusedSimpArgs false
open Go.RowKit Go.Proofs.YtlilbddpelbngaaW.PrintWords Go.Proofs.YtlilbddpelbngaaW.PrintMore

def I64 (x : Int) : Prop := -9223372036854775808 ≤ x ∧ x ≤ 9223372036854775807

theorem i64_of_wf {x : Int} (h : (Lit.int .i64 x).wf = true) : I64 x := by
  simp only [Lit.wf, Bool.and_eq_true, decide_eq_true_eq] at h
  have h1 : IntKind.i64.min = -9223372036854775808 := rfl
  have h2 : IntKind.i64.max = 9223372036854775807 := rfl
  unfold I64
  omega

theorem wrap_i64 (x : Int) : I64 (wrap64 x) := by unfold I64 wrap64; omega
theorem wrap_id {x : Int} (h : I64 x) : wrap64 x = x := by unfold I64 at h; unfold wrap64; omega
theorem wrap_bmod (x : Int) : wrap64 x = Int.bmod x 18446744073709551616 := by
  unfold wrap64 Int.bmod
  simp only
  split <;> omega
theorem i64_wrap_eq (x : Int) : IntKind.i64.wrap x = wrap64 x := by
  unfold wrap64
  simp [IntKind.wrap, IntKind.bits, IntKind.signed]
  split <;> omega
theorem u64_wrap_eq (x : Int) : IntKind.u64.wrap x = x % 18446744073709551616 := by simp [IntKind.wrap, IntKind.bits, IntKind.signed]

theorem wrap_add_l (a b : Int) : wrap64 (wrap64 a + b) = wrap64 (a + b) := by unfold wrap64; omega
theorem wrap_add_r (a b : Int) : wrap64 (a + wrap64 b) = wrap64 (a + b) := by unfold wrap64; omega
theorem wrap_sub_l (a b : Int) : wrap64 (wrap64 a - b) = wrap64 (a - b) := by unfold wrap64; omega
theorem wrap_sub_r (a b : Int) : wrap64 (a - wrap64 b) = wrap64 (a - b) := by unfold wrap64; omega
theorem wrap_mul_l (a b : Int) : wrap64 (wrap64 a * b) = wrap64 (a * b) := by
  simp only [wrap_bmod]
  exact Int.bmod_mul_bmod
theorem wrap_mul_r (a b : Int) : wrap64 (a * wrap64 b) = wrap64 (a * b) := by rw [Int.mul_comm, wrap_mul_l, Int.mul_comm]

/-- The unsigned reading. -/
def U (x : Int) : Nat := (x % 18446744073709551616).toNat
theorem U_lt (x : Int) : U x < 18446744073709551616 := by unfold U; omega
theorem U_cast (x : Int) : (U x : Int) = x % 18446744073709551616 := by unfold U; omega
theorem wrap_U {x : Int} (h : I64 x) : wrap64 (U x) = x := by unfold I64 at h; unfold wrap64 U; omega
theorem U_wrap (n : Nat) (h : n < 18446744073709551616) : U (wrap64 n) = n := by unfold U wrap64; omega

theorem and_eq (x y : Int) : Go.bits .and .i64 x y = wrap64 ((U x &&& U y : Nat) : Int) := by
  show IntKind.i64.wrap ((BitVec.ofInt 64 x &&& BitVec.ofInt 64 y).toNat : Int) = _
  rw [i64_wrap_eq, BitVec.toNat_and, BitVec.toNat_ofInt, BitVec.toNat_ofInt]
  rfl
theorem or_eq (x y : Int) : Go.bits .or .i64 x y = wrap64 ((U x ||| U y : Nat) : Int) := by
  show IntKind.i64.wrap ((BitVec.ofInt 64 x ||| BitVec.ofInt 64 y).toNat : Int) = _
  rw [i64_wrap_eq, BitVec.toNat_or, BitVec.toNat_ofInt, BitVec.toNat_ofInt]
  rfl
theorem xor_eq (x y : Int) : Go.bits .xor .i64 x y = wrap64 ((U x ^^^ U y : Nat) : Int) := by
  show IntKind.i64.wrap ((BitVec.ofInt 64 x ^^^ BitVec.ofInt 64 y).toNat : Int) = _
  rw [i64_wrap_eq, BitVec.toNat_xor, BitVec.toNat_ofInt, BitVec.toNat_ofInt]
  rfl

theorem not_eq {x : Int} (h : I64 x) : Go.bits .xor .i64 (-1) x = wrap64 (-1 - x) := by
  show IntKind.i64.wrap ((BitVec.ofInt 64 (-1) ^^^ BitVec.ofInt 64 x).toNat : Int) = _
  have e : BitVec.ofInt 64 (-1) = BitVec.allOnes 64 := by decide
  rw [i64_wrap_eq, e, BitVec.allOnes_xor, BitVec.toNat_not, BitVec.toNat_ofInt]
  unfold I64 at h
  unfold wrap64
  omega

theorem bit_xor (a b : Nat) : (a ^^^ b) % 2 = (a + b) % 2 := by
  have h := @Nat.xor_mod_two_pow a b 1
  simp only [Nat.pow_one] at h
  rw [h]
  rcases Nat.mod_two_eq_zero_or_one a with e | e <;> rcases Nat.mod_two_eq_zero_or_one b with f | f <;> rw [e, f] <;> simp <;> omega
theorem bit_and (a b : Nat) : (a &&& b) % 2 = (a % 2) * (b % 2) := by
  have h := @Nat.and_mod_two_pow a b 1
  simp only [Nat.pow_one] at h
  rw [h]
  rcases Nat.mod_two_eq_zero_or_one a with e | e <;> rcases Nat.mod_two_eq_zero_or_one b with f | f <;> rw [e, f] <;> simp
theorem bit_or (a b : Nat) : (a ||| b) % 2 = (a % 2) + (b % 2) - (a % 2) * (b % 2) := by
  have h := @Nat.or_mod_two_pow a b 1
  simp only [Nat.pow_one] at h
  rw [h]
  rcases Nat.mod_two_eq_zero_or_one a with e | e <;> rcases Nat.mod_two_eq_zero_or_one b with f | f <;> rw [e, f] <;> simp

/-- Adding without and with carry. -/
theorem nat_add_xor : ∀ (n a b : Nat), a < 2 ^ n → b < 2 ^ n → a + b = (a ^^^ b) + 2 * (a &&& b)
  | 0, a, b, h, h' => by
    have : a = 0 := by simp at h; exact h
    have : b = 0 := by simp at h'; exact h'
    subst a b
    simp
  | n + 1, a, b, h, h' => by
    have ih := nat_add_xor n (a / 2) (b / 2) (by rw [Nat.pow_succ] at h; omega) (by rw [Nat.pow_succ] at h'; omega)
    have h1 : (a ^^^ b) / 2 = (a / 2) ^^^ (b / 2) := Nat.xor_div_two
    have h2 : (a &&& b) / 2 = (a / 2) &&& (b / 2) := Nat.and_div_two
    have h3 := bit_xor a b
    have h4 := bit_and a b
    rw [← h1, ← h2] at ih
    rcases Nat.mod_two_eq_zero_or_one a with e | e <;> rcases Nat.mod_two_eq_zero_or_one b with f | f <;> rw [e, f] at h4 <;> omega
theorem nat_or_xor : ∀ (n a b : Nat), a < 2 ^ n → b < 2 ^ n → (a ||| b) = (a ^^^ b) + (a &&& b)
  | 0, a, b, h, h' => by
    have : a = 0 := by simp at h; exact h
    have : b = 0 := by simp at h'; exact h'
    subst a b
    simp
  | n + 1, a, b, h, h' => by
    have ih := nat_or_xor n (a / 2) (b / 2) (by rw [Nat.pow_succ] at h; omega) (by rw [Nat.pow_succ] at h'; omega)
    have h1 : (a ^^^ b) / 2 = (a / 2) ^^^ (b / 2) := Nat.xor_div_two
    have h2 : (a &&& b) / 2 = (a / 2) &&& (b / 2) := Nat.and_div_two
    have h0 : (a ||| b) / 2 = (a / 2) ||| (b / 2) := Nat.or_div_two
    have h3 := bit_xor a b
    have h4 := bit_and a b
    have h5 := bit_or a b
    rw [← h1, ← h2, ← h0] at ih
    rcases Nat.mod_two_eq_zero_or_one a with e | e <;> rcases Nat.mod_two_eq_zero_or_one b with f | f <;> rw [e, f] at h4 h5 <;> omega

/-- The count of a shift. -/
theorem by_eq (k : Int) : IntKind.u64.wrap (Go.bits .and .i64 k 63) = ((U k % 64 : Nat) : Int) := by
  rw [and_eq, u64_wrap_eq]
  have h : U 63 = 2 ^ 6 - 1 := by decide
  rw [h, Nat.and_two_pow_sub_one_eq_mod]
  unfold wrap64
  omega
theorem shl_eq (a : Int) (k : Nat) (h : k < 64) : shl .i64 a k = wrap64 (a * 2 ^ k) := by
  show IntKind.i64.wrap (a * 2 ^ min (k : Int).toNat 64) = _
  rw [i64_wrap_eq, Int.toNat_natCast, Nat.min_eq_left (by omega)]
theorem sar_eq (a : Int) (k : Nat) (h : k < 64) : shr .i64 a k = a / 2 ^ k := by
  show a / 2 ^ min (k : Int).toNat 64 = _
  rw [Int.toNat_natCast, Nat.min_eq_left (by omega)]
theorem shr_eq (a : Int) (k : Nat) (h : k < 64) : wrap64 (shr .u64 (IntKind.u64.wrap a) k) = wrap64 ((U a / 2 ^ k : Nat) : Int) := by
  show wrap64 (IntKind.u64.wrap a / 2 ^ min (k : Int).toNat 64) = _
  rw [Int.toNat_natCast, Nat.min_eq_left (by omega), u64_wrap_eq, ← U_cast]
  simp
end Go.Proofs.Ytlilbddpelbngaa.M
