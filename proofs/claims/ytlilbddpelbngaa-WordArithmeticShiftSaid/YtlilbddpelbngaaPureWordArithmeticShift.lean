/- An arithmetic shift right by k is the quotient by 2^k rounded down: the law returns true for every word and every k up to 62. -/
import Derived.Test.YtlilbddpelbngaaPAllx
import Derived.Test.YtlilbddpelbngaaOps
namespace Go.Proofs.Ytlilbddpelbngaa.Pure
set_option linter.unusedVariables false
set_option linter.unusedSimpArgs false
open Go.RowKit Go.Proofs.Ytlilbddpelbngaa.PAll Go.Proofs.Ytlilbddpelbngaa.M Go.Proofs.YtlilbddpelbngaaW.PrintWords Go.Proofs.YtlilbddpelbngaaW.PrintLast Go.Proofs.YtlilbddpelbngaaW.PrintMore

theorem U_small' (p : Int) (h : 0 ≤ p) (h' : p < 64) : U p % 64 = p.toNat := by unfold U; omega
theorem pow_bd (n : Nat) (h : n < 63) : (1 : Int) ≤ 2 ^ n ∧ (2 : Int) ^ n ≤ 4611686018427387904 := by
  have h1 := Nat.two_pow_pos n
  have h2 : 2 ^ n ≤ 2 ^ 62 := Nat.pow_le_pow_right (by omega) (by omega)
  have h3 : (2 : Int) ^ n = ((2 ^ n : Nat) : Int) := by simp
  rw [h3]
  rw [show (2 ^ 62 : Nat) = 4611686018427387904 from rfl] at h2
  omega
theorem tdiv_bd (a p : Int) (h : I64 a) : -9223372036854775808 ≤ Int.tdiv a p ∧ Int.tdiv a p ≤ 9223372036854775808 := by
  have := Int.natAbs_tdiv_le_natAbs a p
  unfold I64 at h
  omega
/-- Rounding down and rounding toward zero. -/
theorem floor_eq (a p : Int) (hp : 1 ≤ p) (ha : I64 a) :
    (Int.tdiv a p * p = a - Int.tmod a p) ∧ (Int.tmod a p < 0 → a / p = Int.tdiv a p - 1) ∧ (¬ Int.tmod a p < 0 → a / p = Int.tdiv a p) ∧ -9223372036854775808 ≤ a / p ∧ I64 (Int.tdiv a p) := by
  have h1 := Int.mul_tdiv_add_tmod a p
  have h2 := Int.tdiv_eq_ediv (a := a) (b := p)
  have h3 := Int.tmod_eq_emod (a := a) (b := p)
  have h4 := Int.emod_nonneg a (show p ≠ 0 by omega)
  have h5 := Int.emod_lt_of_pos a (show 0 < p by omega)
  have h6 := tdiv_bd a p ha
  have h7 : p.sign = 1 := Int.sign_eq_one_of_pos (by omega)
  have h8 : (p.natAbs : Int) = p := by omega
  have h9 : 0 ≤ a → a / p ≤ a := fun h => Int.ediv_le_self p h
  have h10 : 0 ≤ a → 0 ≤ a / p := fun h => Int.ediv_nonneg h (by omega)
  have h11 : a < 0 → a / p < 0 := fun h => Int.ediv_neg_of_neg_of_pos h (by omega)
  have h12 : -9223372036854775808 ≤ a / p := by
    rw [Int.le_ediv_iff_mul_le (by omega)]
    unfold I64 at ha
    omega
  refine ⟨by rw [Int.mul_comm]; omega, ?_⟩
  unfold I64 at ha ⊢
  by_cases c : 0 ≤ a ∨ p ∣ a
  · rw [if_pos c] at h2 h3
    refine ⟨fun h => by omega, fun h => by omega, h12, by omega, by omega⟩
  · rw [if_neg c, h7] at h2
    rw [if_neg c, h8] at h3
    refine ⟨fun h => by omega, fun h => by omega, h12, by omega, by omega⟩
theorem WordArithmeticShift : fullinglaw1_WordArithmeticShift.Pure := by
  intro a k ha hk
  have ia := i64_of_wf ha
  obtain ⟨n, hn, n0, n1⟩ := tmod_wrap k 63 (i64_of_wf hk) (by omega) (by omega)
  refine ⟨40, ?_⟩
  unfold fullinglaw1_WordArithmeticShift.f
  rw [hn, Option.bind_some, bin_shl, Option.bind_some, bin_sar, Option.bind_some, U_small' n n0 (by omega), Int.one_mul]
  obtain ⟨p1, p2⟩ := pow_bd n.toNat (by omega)
  generalize (2 : Int) ^ n.toNat = p at p1 p2 ⊢
  rw [wrap_id (x := p) (by unfold I64; omega), bin_div, Option.bind_some, bin_rem, Option.bind_some, if_neg (show ¬ p = 0 by omega)]
  obtain ⟨f1, f2, f3, f4, f5⟩ := floor_eq a p p1 ia
  have hq : quo a p = Int.tdiv a p := by
    unfold quo
    rw [if_neg (by omega), if_neg (by omega), wrap_id f5]
  rw [hq, f1, wrap_sub_r, show a - (a - Int.tmod a p) = Int.tmod a p by omega]
  have hr : wrap64 (Int.tmod a p) = Int.tmod a p := by
    apply wrap_id
    have h5 := Int.tmod_lt_of_pos a (show 0 < p by omega)
    have h6 := Int.tmod_lt_of_pos (-a) (show 0 < p by omega)
    rw [Int.neg_tmod] at h6
    unfold I64
    omega
  rw [hr]
  by_cases c : Int.tmod a p < 0
  · have e := f2 c
    rw [if_pos c, bin_sub, Option.bind_some, e, wrap_id (x := Int.tdiv a p - 1) (by unfold I64 at *; omega), if_pos rfl, examples_k]
    rfl
  · rw [if_neg c, if_pos (f3 c), examples_k]
    rfl
end Go.Proofs.Ytlilbddpelbngaa.Pure
