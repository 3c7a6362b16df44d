/- Sums by XOR and AND, OR by XOR and AND, shifts by the lowest six bits: the law returns true for every three words. -/
import Derived.Test.YtlilbddpelbngaaPAllx
import Derived.Test.YtlilbddpelbngaaOps
namespace Go.Proofs.Ytlilbddpelbngaa.Pure
set_option linter.unusedVariables false
set_option linter.unusedSimpArgs false
open Go.RowKit Go.Proofs.Ytlilbddpelbngaa.PAll Go.Proofs.Ytlilbddpelbngaa.M Go.Proofs.YtlilbddpelbngaaW.PrintWords Go.Proofs.YtlilbddpelbngaaW.PrintLast Go.Proofs.YtlilbddpelbngaaW.PrintMore

theorem U_mul (a : Int) (K : Nat) : U (wrap64 (a * 2 ^ K)) = (U a * 2 ^ K) % 18446744073709551616 := by
  have h : ((U (wrap64 (a * 2 ^ K)) : Nat) : Int) = (((U a * 2 ^ K) % 18446744073709551616 : Nat) : Int) := by
    rw [U_cast, Int.natCast_emod, Int.natCast_mul, U_cast]
    have e : wrap64 (a * 2 ^ K) % 18446744073709551616 = (a * 2 ^ K) % 18446744073709551616 := by
      generalize a * 2 ^ K = z
      unfold wrap64
      omega
    rw [e, Int.natCast_pow]
    show _ = a % 18446744073709551616 * 2 ^ K % 18446744073709551616
    have h1 := Int.mul_emod a (2 ^ K) 18446744073709551616
    have h2 := Int.mul_emod (a % 18446744073709551616) (2 ^ K) 18446744073709551616
    rw [Int.emod_emod] at h2
    rw [h1, h2]
  exact Int.ofNat.inj h
theorem back_eq (a : Int) (K : Nat) (h : K < 64) : U (wrap64 (a * 2 ^ K)) / 2 ^ K = U a % 2 ^ (64 - K) := by
  rw [U_mul, show 18446744073709551616 = 2 ^ (64 - K) * 2 ^ K by rw [← Nat.pow_add, show 64 - K + K = 64 by omega], Nat.mul_mod_mul_right,
    Nat.mul_div_cancel _ (Nat.two_pow_pos K)]
theorem mask_eq (K : Nat) (h : K < 64) : U (wrap64 ((U (-1) / 2 ^ K : Nat) : Int)) = 2 ^ (64 - K) - 1 := by
  have e : U (-1) = 2 ^ 64 - 1 := by decide
  rw [e]
  have d : (2 ^ 64 - 1) / 2 ^ K = 2 ^ (64 - K) - 1 := by
    have p : 2 ^ 64 = 2 ^ (64 - K) * 2 ^ K := by rw [← Nat.pow_add, show 64 - K + K = 64 by omega]
    have q := Nat.two_pow_pos K
    have q' := Nat.two_pow_pos (64 - K)
    rw [Nat.div_eq_iff q, p]
    constructor
    · rw [Nat.sub_mul]; omega
    · rw [Nat.sub_mul]; omega
  rw [d, U_wrap]
  have : 2 ^ (64 - K) ≤ 2 ^ 64 := Nat.pow_le_pow_right (by omega) (by omega)
  have q' := Nat.two_pow_pos (64 - K)
  omega
theorem sum_eq (a b : Int) : wrap64 (Go.bits .xor .i64 a b + wrap64 (Go.bits .and .i64 a b * 2 ^ (U 1 % 64))) = wrap64 (a + b) := by
  have x1 := nat_add_xor 64 (U a) (U b) (U_lt a) (U_lt b)
  have u1 : U 1 % 64 = 1 := by decide
  have s1 : wrap64 (((U a + U b : Nat)) : Int) = wrap64 (a + b) := by
    rw [Int.natCast_add, U_cast, U_cast]
    unfold wrap64
    omega
  rw [u1, xor_eq, and_eq, wrap_add_l, ← s1, x1]
  have e2 : wrap64 (((U a &&& U b : Nat) : Int)) * 2 ^ 1 = wrap64 (((U a &&& U b : Nat) : Int)) * 2 := by simp
  rw [e2, wrap_mul_l, wrap_add_r]
  congr 1
  omega
theorem or_sum (a b : Int) : Go.bits .or .i64 a b = wrap64 (Go.bits .xor .i64 a b + Go.bits .and .i64 a b) := by
  have x2 := nat_or_xor 64 (U a) (U b) (U_lt a) (U_lt b)
  rw [or_eq, xor_eq, and_eq, wrap_add_l, wrap_add_r, x2, Int.natCast_add]
theorem six_eq (k : Int) : U (Go.bits .and .i64 k 63) % 64 = U k % 64 := by
  have h : U 63 = 2 ^ 6 - 1 := by decide
  rw [and_eq, h, Nat.and_two_pow_sub_one_eq_mod, U_wrap _ (by omega)]
  omega
theorem clear_eq (a k : Int) : wrap64 ((U (wrap64 (a * 2 ^ (U k % 64))) / 2 ^ (U k % 64) : Nat) : Int) =
    Go.bits .and .i64 a (wrap64 ((U (-1) / 2 ^ (U k % 64) : Nat) : Int)) := by
  have hK : U k % 64 < 64 := by omega
  rw [and_eq, mask_eq _ hK, Nat.and_two_pow_sub_one_eq_mod, back_eq _ _ hK]
theorem sar_neg (a : Int) (K : Nat) : ((decide (a / 2 ^ K < 0)) == (decide (a < 0))) = true := by
  have hp : (0 : Int) < 2 ^ K := by exact_mod_cast Nat.two_pow_pos _
  rw [beq_iff_eq, decide_eq_decide]
  constructor
  · intro h
    apply Classical.byContradiction
    intro h'
    have := Int.ediv_nonneg (Int.not_lt.1 h') (Int.le_of_lt hp)
    omega
  · intro h
    exact Int.ediv_neg_of_neg_of_pos h hp
theorem shr_sar (a : Int) (K : Nat) : wrap64 ((U (Go.bits .and .i64 a 9223372036854775807) / 2 ^ K : Nat) : Int) = Go.bits .and .i64 a 9223372036854775807 / 2 ^ K := by
  have e63 : U 9223372036854775807 = 2 ^ 63 - 1 := by decide
  rw [and_eq, e63, Nat.and_two_pow_sub_one_eq_mod]
  have hm : U a % 2 ^ 63 < 2 ^ 63 := Nat.mod_lt _ (Nat.two_pow_pos _)
  rw [show (2 ^ 63 : Nat) = 9223372036854775808 from rfl] at hm ⊢
  generalize U a % 9223372036854775808 = m at hm ⊢
  rw [U_wrap _ (by omega), wrap_id (x := (m : Int)) (by unfold I64; omega), wrap_id]
  · simp
  · have h1 : m / 2 ^ K ≤ m := Nat.div_le_self _ _
    generalize m / 2 ^ K = q at h1 ⊢
    unfold I64
    omega
theorem WordBitwise : fullinglaw1_WordBitwise.Pure := by
  intro a b k _ _ _
  refine ⟨40, ?_⟩
  unfold fullinglaw1_WordBitwise.f
  repeat (first | rw [Option.bind_some] | rw [bin_and] | rw [bin_or] | rw [bin_xor] | rw [bin_add] | rw [bin_shl] | rw [bin_shr] | rw [bin_sar])
  rw [if_pos (sum_eq a b)]
  repeat (first | rw [Option.bind_some] | rw [bin_add])
  rw [if_pos (or_sum a b)]
  repeat (first | rw [Option.bind_some] | rw [bin_shl])
  rw [if_pos (by rw [six_eq])]
  repeat (first | rw [Option.bind_some] | rw [bin_and])
  rw [if_pos (clear_eq a k), if_pos (sar_neg _ _)]
  repeat (first | rw [Option.bind_some] | rw [bin_and] | rw [bin_shr] | rw [bin_sar])
  rw [if_pos (shr_sar _ _), examples_k, Option.bind_some]
end Go.Proofs.Ytlilbddpelbngaa.Pure
