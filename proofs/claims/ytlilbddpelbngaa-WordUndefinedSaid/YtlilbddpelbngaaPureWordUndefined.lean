/- Operations other than the unary and binary ones give 0: the law returns true for every operation and all words. -/
import Derived.Test.YtlilbddpelbngaaPAllx
import Derived.Test.YtlilbddpelbngaaOps
namespace Go.Proofs.Ytlilbddpelbngaa.Pure
set_option linter.unusedVariables false
set_option linter.unusedSimpArgs false
open Go.RowKit Go.Proofs.Ytlilbddpelbngaa.PAll Go.Proofs.Ytlilbddpelbngaa.M Go.Proofs.YtlilbddpelbngaaW.PrintWords Go.Proofs.YtlilbddpelbngaaW.PrintLast Go.Proofs.YtlilbddpelbngaaW.PrintMore

theorem un_other (op a : Int) (h : op ≠ 20) (h' : op ≠ 21) : word_Unary.f op a = some 0 := by
  unfold word_Unary.f
  rw [if_neg h, if_neg h']
theorem WordUndefined : fullinglaw1_WordUndefined.Pure := by
  intro op a b _ _ _
  refine ⟨40, ?_⟩
  unfold fullinglaw1_WordUndefined.f
  simp only [examples_k, Option.bind_some]
  by_cases h0 : op = 20
  · subst h0
    rw [if_pos rfl, if_pos (by omega), if_neg (by omega), bin_other _ _ _ (by omega)]
    rfl
  · rw [if_neg h0]
    by_cases h1 : op = 21
    · subst h1
      rw [if_pos (by omega), if_pos rfl, if_neg (by omega), bin_other _ _ _ (by omega)]
      rfl
    · rw [un_other _ _ h0 h1]
      by_cases h2 : op ≥ 4
      · rw [if_pos h2, if_neg h1]
        by_cases h3 : op ≤ 19
        · simp [h3]
        · rw [if_neg h3, bin_other _ _ _ (by omega)]
          rfl
      · rw [if_neg h2, if_neg h1, bin_other _ _ _ (by omega)]
        rfl
end Go.Proofs.Ytlilbddpelbngaa.Pure
