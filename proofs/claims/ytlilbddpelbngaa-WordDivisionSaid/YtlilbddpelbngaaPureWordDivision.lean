/- Quotient and remainder of words: the law returns true for every dividend and divisor. -/
import Derived.Test.YtlilbddpelbngaaPDivx
import Derived.Test.YtlilbddpelbngaaOpsDiv
namespace Go.Proofs.Ytlilbddpelbngaa.Pure
set_option linter.unusedVariables false
set_option linter.unusedSimpArgs false
open Go.RowKit Go.Proofs.Ytlilbddpelbngaa.PDiv Go.Proofs.Ytlilbddpelbngaa.M Go.Proofs.Ytlilbddpelbngaa.MDiv Go.Proofs.YtlilbddpelbngaaW.PrintWords Go.Proofs.YtlilbddpelbngaaW.PrintLast Go.Proofs.YtlilbddpelbngaaW.PrintMore

theorem rem_sum (x y d : Int) (hx : I64 x) : wrap64 (wrap64 (d * y) + wrap64 (x - wrap64 (d * y))) = x := by
  rw [wrap_add_r, show wrap64 (d * y) + (x - wrap64 (d * y)) = x by omega, wrap_id hx]
theorem tmod_lt (x y : Int) (h : y ≠ 0) : (Int.tmod x y).natAbs < y.natAbs := by
  rw [Int.natAbs_tmod]
  exact Nat.mod_lt _ (by omega)
theorem tdiv_in (x y : Int) (hx : I64 x) (h0 : y ≠ 0) (h1 : y ≠ -1) : I64 (Int.tdiv x y) := by
  have h := Int.natAbs_tdiv_le_natAbs x y
  unfold I64 at *
  by_cases c : Int.tdiv x y = 9223372036854775808
  · exfalso
    have hm : x = -9223372036854775808 := by omega
    have e := Int.mul_tdiv_add_tmod x y
    rw [c] at e
    have b1 := tmod_lt x y h0
    omega
  · omega
theorem tmod_facts (x y : Int) (h0 : y ≠ 0) : (0 ≤ x → 0 ≤ Int.tmod x y) ∧ (x < 0 → Int.tmod x y ≤ 0) ∧ (Int.tmod x y).natAbs < y.natAbs := by
  refine ⟨fun h => Int.tmod_nonneg y h, fun h => ?_, tmod_lt x y h0⟩
  have := Int.tmod_nonneg y (show 0 ≤ -x by omega)
  rw [Int.neg_tmod] at this
  omega
theorem rem_val (x y : Int) (hx : I64 x) (hy : I64 y) (h0 : y ≠ 0) : ∃ r, wrap64 (x - wrap64 (quo x y * y)) = r ∧
    (r = 0 ∨ (r < 0 ↔ x < 0)) ∧ (y = -9223372036854775808 ∨ (y < 0 ∧ r > y ∧ r < wrap64 (-y)) ∨ (y > 0 ∧ r > wrap64 (-y) ∧ r < y)) := by
  by_cases h1 : y = -1
  · subst h1
    refine ⟨0, ?_, .inl rfl, .inr (.inl ⟨by omega, by omega, by rw [wrap_id (x := - -1) (by unfold I64; omega)]; omega⟩)⟩
    have e : quo x (-1) = wrap64 (-x) := rfl
    rw [e, wrap_mul_l, show -x * -1 = x by omega, wrap_id hx]
    exact wrap_id (x := x - x) (by unfold I64; omega) |>.trans (by omega)
  · refine ⟨Int.tmod x y, ?_, ?_⟩
    · have e : quo x y = Int.tdiv x y := by
        unfold quo
        rw [if_neg h0, if_neg h1, wrap_id (tdiv_in x y hx h0 h1)]
      have f := Int.mul_tdiv_add_tmod x y
      have g := (tmod_facts x y h0).2.2
      rw [e, wrap_sub_r, show x - Int.tdiv x y * y = Int.tmod x y by rw [Int.mul_comm]; omega, wrap_id]
      unfold I64 at *
      omega
    · obtain ⟨a, b, c⟩ := tmod_facts x y h0
      unfold I64 at *
      refine ⟨by omega, ?_⟩
      by_cases hm : y = -9223372036854775808
      · exact .inl hm
      · rw [wrap_id (x := -y) (by unfold I64; omega)]
        omega
theorem WordDivision : fullinglaw1_WordDivision.Pure := by
  intro a b p q ha hb hp hq
  obtain ⟨x, hx, ix⟩ := word_some a p (i64_of_wf ha) (i64_of_wf hp)
  obtain ⟨y, hy, iy⟩ := word_some b q (i64_of_wf hb) (i64_of_wf hq)
  refine ⟨40, ?_⟩
  unfold fullinglaw1_WordDivision.f
  rw [hx, Option.bind_some, hy, Option.bind_some, bin_div, Option.bind_some, bin_rem, Option.bind_some]
  by_cases h0 : y = 0
  · subst h0
    rw [if_pos rfl, if_pos (show quo x 0 = 0 from rfl), if_pos (by simp), examples_k, Option.bind_some]
  · have s := rem_sum x y (quo x y) ix
    obtain ⟨r, hr, f2, f3⟩ := rem_val x y ix iy h0
    rw [if_neg h0, if_neg h0, hr]
    rw [hr] at s
    clear hr ix iy hx hy
    have m6 : ∀ z, word_Binary.f 6 (quo x y) y = some z ↔ wrap64 (quo x y * y) = z := fun z => by rw [bin_mul]; exact ⟨fun h => Option.some.inj h, fun h => by rw [h]⟩
    have g : ∀ {t : Int → Option Bool}, ((word_Binary.f 6 (quo x y) y).bind fun u => (word_Binary.f 4 u r).bind t) = t x := fun {t} => by
      rw [bin_mul, Option.bind_some, bin_add, Option.bind_some, s]
    simp only [g, examples_k, ↓reduceIte, Option.bind_some]
    clear g m6 s
    generalize wrap64 (-y) = M at f3 ⊢
    by_cases r0 : r = 0
    · subst r0
      rcases f3 with m | ⟨m1, m2, m3⟩ | ⟨m1, m2, m3⟩
      · rw [if_pos rfl, if_pos m]
      · by_cases m : y = -9223372036854775808
        · rw [if_pos rfl, if_pos m]
        · rw [if_pos rfl, if_neg m, if_pos m1, if_pos m2, if_pos m3]
      · by_cases m : y = -9223372036854775808
        · rw [if_pos rfl, if_pos m]
        · rw [if_pos rfl, if_neg m, if_neg (by omega), if_pos m1, if_pos m2, if_pos m3]
    · have sg : ((decide (r < 0)) == (decide (x < 0))) = true := by
        rw [beq_iff_eq, decide_eq_decide]
        omega
      rcases f3 with m | ⟨m1, m2, m3⟩ | ⟨m1, m2, m3⟩
      · rw [if_neg r0, if_pos sg, if_pos m]
      · by_cases m : y = -9223372036854775808
        · rw [if_neg r0, if_pos sg, if_pos m]
        · rw [if_neg r0, if_pos sg, if_neg m, if_pos m1, if_pos m2, if_pos m3]
      · by_cases m : y = -9223372036854775808
        · rw [if_neg r0, if_pos sg, if_pos m]
        · rw [if_neg r0, if_pos sg, if_neg m, if_neg (by omega), if_pos m1, if_pos m2, if_pos m3, if_pos sg]
end Go.Proofs.Ytlilbddpelbngaa.Pure
