/- Parsing a word's text gives the word back, and different words have different texts: the law returns true for all arguments. -/
import Derived.Test.YtlilbddpelbngaaTxt
namespace Go.Proofs.Ytlilbddpelbngaa.Pure
set_option linter.unusedVariables false
set_option linter.unusedSimpArgs false
open Go.RowKit Go.Proofs.Ytlilbddpelbngaa.PAll Go.Proofs.Ytlilbddpelbngaa.M Go.Proofs.YtlilbddpelbngaaW.PrintWords Go.Proofs.YtlilbddpelbngaaW.PrintLast Go.Proofs.YtlilbddpelbngaaW.PrintMore

theorem WordRoundTrip : fullinglaw1_WordRoundTrip.Pure := by
  intro a b p q ha hb hp hq
  obtain ⟨x, hx, ix⟩ := word_some a p (i64_of_wf ha) (i64_of_wf hp)
  obtain ⟨y, hy, iy⟩ := word_some b q (i64_of_wf hb) (i64_of_wf hq)
  refine ⟨60, ?_⟩
  have lx := T_len x ix
  unfold fullinglaw1_WordRoundTrip.f
  rw [hx, Option.bind_some, hy, Option.bind_some, text_is x ix, Option.bind_some, parse_is (T x) 60 (by omega), Option.bind_some, parse_text x ix, if_pos rfl, if_pos rfl,
    Option.bind_some, text_is y iy, Option.bind_some, mkS_toList, mkS_toList]
  rw [if_pos, examples_ge (by omega), Option.bind_some]
  by_cases c : x = y
  · subst c
    simp
  · have e1 : (x == y) = false := beq_eq_false_iff_ne.2 c
    have e2 : (T x == T y) = false := beq_eq_false_iff_ne.2 (fun e => c (T_inj x y ix iy e))
    rw [e1, e2]
    rfl
end Go.Proofs.Ytlilbddpelbngaa.Pure
