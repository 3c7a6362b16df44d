/- Two shifts left are one by the sum of the counts, and a shift left is a multiplication by a power of two: the law returns true for every word and counts. -/
import Derived.Test.YtlilbddpelbngaaPAllx
import Derived.Test.YtlilbddpelbngaaOps
namespace Go.Proofs.Ytlilbddpelbngaa.Pure
set_option linter.unusedVariables false
set_option linter.unusedSimpArgs false
open Go.RowKit Go.Proofs.Ytlilbddpelbngaa.PAll Go.Proofs.Ytlilbddpelbngaa.M Go.Proofs.YtlilbddpelbngaaW.PrintWords Go.Proofs.YtlilbddpelbngaaW.PrintLast Go.Proofs.YtlilbddpelbngaaW.PrintMore

theorem U_small (p : Int) (h : 0 ≤ p) (h' : p < 64) : U p % 64 = p.toNat := by unfold U; omega
theorem two_shifts (a : Int) (P Q : Nat) : wrap64 (wrap64 (a * 2 ^ P) * 2 ^ Q) = wrap64 (a * 2 ^ (P + Q)) := by
  rw [wrap_mul_l, Int.mul_assoc, Int.pow_add]
theorem far_shift (a : Int) (n : Nat) (h : 64 ≤ n) : wrap64 (a * 2 ^ n) = 0 := by
  obtain ⟨m, rfl⟩ : ∃ m, n = m + 64 := ⟨n - 64, by omega⟩
  rw [Int.pow_add, ← Int.mul_assoc]
  generalize a * 2 ^ m = z
  have : (2 : Int) ^ 64 = 18446744073709551616 := by decide
  rw [this]
  unfold wrap64
  omega
theorem shifts_j (k : Nat) (a p c d : Int) (h0 : 0 ≤ p) (h1 : p < 64) (e : c = d) (hk : 41 ≤ k) : fullinglaw1_WordShiftsCompose.j0 k a p c d = some true := by
  obtain ⟨k, rfl⟩ : ∃ m, k = m + 1 := ⟨k - 1, by omega⟩
  simp only [fullinglaw1_WordShiftsCompose.j0]
  rw [bin_shl, Option.bind_some, if_pos e, bin_shl, Option.bind_some, bin_mul, Option.bind_some, if_pos, examples_ge (by omega), Option.bind_some]
  rw [wrap_mul_r, Int.one_mul]
theorem WordShiftsCompose : fullinglaw1_WordShiftsCompose.Pure := by
  intro a j k _ hj hk
  obtain ⟨p, hp, p0, p1⟩ := tmod_wrap j 64 (i64_of_wf hj) (by omega) (by omega)
  obtain ⟨q, hq, q0, q1⟩ := tmod_wrap k 64 (i64_of_wf hk) (by omega) (by omega)
  refine ⟨42, ?_⟩
  unfold fullinglaw1_WordShiftsCompose.f
  rw [hp, Option.bind_some, hq, Option.bind_some, bin_shl, Option.bind_some, bin_shl, Option.bind_some, wrap_id (x := p + q) (by unfold I64; omega)]
  rw [U_small p p0 p1, U_small q q0 q1, two_shifts]
  by_cases h : p + q < 64
  · rw [if_pos h, bin_shl, Option.bind_some, U_small _ (by omega) h]
    refine shifts_j _ _ _ _ _ p0 p1 ?_ (by omega)
    rw [show (p + q).toNat = p.toNat + q.toNat by omega]
  · rw [if_neg h]
    exact shifts_j _ _ _ _ _ p0 p1 (far_shift _ _ (by omega)) (by omega)
end Go.Proofs.Ytlilbddpelbngaa.Pure
