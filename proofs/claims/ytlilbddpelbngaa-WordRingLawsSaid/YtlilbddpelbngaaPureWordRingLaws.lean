/- Addition and multiplication of words form a commutative ring, and negation and complement are as stated: the law returns true for every three words. -/
import Derived.Test.YtlilbddpelbngaaPAllx
import Derived.Test.YtlilbddpelbngaaOps
namespace Go.Proofs.Ytlilbddpelbngaa.Pure
set_option linter.unusedVariables false
set_option linter.unusedSimpArgs false
open Go.RowKit Go.Proofs.Ytlilbddpelbngaa.PAll Go.Proofs.Ytlilbddpelbngaa.M Go.Proofs.YtlilbddpelbngaaW.PrintWords Go.Proofs.YtlilbddpelbngaaW.PrintLast Go.Proofs.YtlilbddpelbngaaW.PrintMore

theorem un_neg (a : Int) : word_Unary.f 20 a = some (wrap64 (-a)) := by simp [word_Unary.f]
theorem un_not (a : Int) : word_Unary.f 21 a = some (Go.bits .xor .i64 (-1) a) := by simp [word_Unary.f]
theorem WordRingLaws : fullinglaw1_WordRingLaws.Pure := by
  intro a b c ha hb hc
  have ia := i64_of_wf ha
  refine ⟨40, ?_⟩
  unfold fullinglaw1_WordRingLaws.f
  simp only [bin_add, bin_sub, bin_mul, un_neg, un_not, Option.bind_some]
  rw [if_pos (by rw [Int.add_comm]), if_pos (by rw [Int.mul_comm]), if_pos (by rw [wrap_mul_r, wrap_add_l, wrap_add_r, Int.mul_add]),
    if_pos (by rw [wrap_sub_l, show a + b - b = a by omega, wrap_id ia]), if_pos (by rw [wrap_add_r, show a + -a = 0 by omega, wrap_id (by unfold I64; omega)]),
    if_pos (not_eq ia), if_pos (by rw [wrap_mul_l, wrap_mul_r, Int.mul_assoc]), examples_k]
  rfl
end Go.Proofs.Ytlilbddpelbngaa.Pure
