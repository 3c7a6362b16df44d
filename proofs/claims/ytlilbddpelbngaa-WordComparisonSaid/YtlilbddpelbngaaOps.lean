/- What the printed word functions come to, operation by operation. -/
import Derived.Test.YtlilbddpelbngaaMath
import Derived.Test.YtlilbddpelbngaaPAllx1
import Derived.Test.YtlilbddpelbngaaPAllx2
namespace Go.Proofs.Ytlilbddpelbngaa.M
set_option linter.unusedVariables false
set_option linter.unusedSimpArgs false
open Go.RowKit Go.Proofs.Ytlilbddpelbngaa.PAll Go.Proofs.YtlilbddpelbngaaW.PrintWords Go.Proofs.YtlilbddpelbngaaW.PrintLast Go.Proofs.YtlilbddpelbngaaW.PrintMore

theorem truth_eq (b : Bool) : word_truth.f b = some (if b = true then 1 else 0) := by cases b <;> rfl
theorem bin_add (a b : Int) : word_Binary.f 4 a b = some (wrap64 (a + b)) := by
  unfold word_Binary.f
  simp
theorem bin_sub (a b : Int) : word_Binary.f 5 a b = some (wrap64 (a - b)) := by
  unfold word_Binary.f
  simp
theorem bin_mul (a b : Int) : word_Binary.f 6 a b = some (wrap64 (a * b)) := by
  unfold word_Binary.f
  simp
def quo (a b : Int) : Int := if b = 0 then 0 else if b = -1 then wrap64 (-a) else wrap64 (Int.tdiv a b)
theorem quo_eq (a b : Int) : word_quotient.f a b = some (quo a b) := by
  unfold word_quotient.f quo
  split
  · rfl
  · split <;> rfl
theorem bin_div (a b : Int) : word_Binary.f 7 a b = some (quo a b) := by
  show (word_quotient.f a b).bind (fun t => some t) = _
  rw [quo_eq]
  rfl
theorem bin_rem (a b : Int) : word_Binary.f 8 a b = some (if b = 0 then 0 else wrap64 (a - wrap64 (quo a b * b))) := by
  show (if b = 0 then some 0 else (word_quotient.f a b).bind (fun t => some (wrap64 (a - wrap64 (t * b))))) = _
  rw [quo_eq]
  split <;> rfl
theorem bin_and (a b : Int) : word_Binary.f 9 a b = some (Go.bits .and .i64 a b) := by
  unfold word_Binary.f
  simp
theorem bin_or (a b : Int) : word_Binary.f 10 a b = some (Go.bits .or .i64 a b) := by
  unfold word_Binary.f
  simp
theorem bin_xor (a b : Int) : word_Binary.f 11 a b = some (Go.bits .xor .i64 a b) := by
  unfold word_Binary.f
  simp
theorem bin_shl (a b : Int) : word_Binary.f 12 a b = some (wrap64 (a * 2 ^ (U b % 64))) := by
  show (if 0 ≤ (IntKind.u64.wrap (Go.bits .and .i64 b 63)) then (some (shl .i64 a (IntKind.u64.wrap (Go.bits .and .i64 b 63)))) else (none)).bind (fun t => some t) = _
  rw [by_eq, if_pos (by omega), shl_eq _ _ (by omega)]
  rfl
theorem bin_shr (a b : Int) : word_Binary.f 13 a b = some (wrap64 ((U a / 2 ^ (U b % 64) : Nat) : Int)) := by
  show (if 0 ≤ (IntKind.u64.wrap (Go.bits .and .i64 b 63)) then (some (wrap64 (shr .u64 (IntKind.u64.wrap a) (IntKind.u64.wrap (Go.bits .and .i64 b 63))))) else (none)).bind (fun t => some t) = _
  rw [by_eq, if_pos (by omega), shr_eq _ _ (by omega)]
  rfl
theorem bin_sar (a b : Int) : word_Binary.f 14 a b = some (a / 2 ^ (U b % 64)) := by
  show (if 0 ≤ (IntKind.u64.wrap (Go.bits .and .i64 b 63)) then (some (shr .i64 a (IntKind.u64.wrap (Go.bits .and .i64 b 63)))) else (none)).bind (fun t => some t) = _
  rw [by_eq, if_pos (by omega), sar_eq _ _ (by omega)]
  rfl
theorem bin_eq (a b : Int) : word_Binary.f 15 a b = some (if a = b then 1 else 0) := by
  show ((word_truth.f (a == b)).bind fun t => some t).bind (fun t => some t) = _
  rw [truth_eq]
  simp
theorem bin_ne (a b : Int) : word_Binary.f 16 a b = some (if a ≠ b then 1 else 0) := by
  show ((word_truth.f (a != b)).bind fun t => some t).bind (fun t => some t) = _
  rw [truth_eq]
  simp
theorem bin_lt (a b : Int) : word_Binary.f 17 a b = some (if a < b then 1 else 0) := by
  show ((word_truth.f (decide (a < b))).bind fun t => some t).bind (fun t => some t) = _
  rw [truth_eq]
  simp
theorem bin_le (a b : Int) : word_Binary.f 18 a b = some (if a ≤ b then 1 else 0) := by
  show ((word_truth.f (decide (a ≤ b))).bind fun t => some t).bind (fun t => some t) = _
  rw [truth_eq]
  simp
theorem bin_ltu (a b : Int) : word_Binary.f 19 a b = some (if a % 18446744073709551616 < b % 18446744073709551616 then 1 else 0) := by
  show ((word_truth.f (decide (IntKind.u64.wrap a < IntKind.u64.wrap b))).bind fun t => some t).bind (fun t => some t) = _
  rw [truth_eq, u64_wrap_eq, u64_wrap_eq]
  simp
theorem bin_other (op a b : Int) (h : op < 4 ∨ 19 < op) : word_Binary.f op a b = some 0 := by
  unfold word_Binary.f word_shiftOrCompare.f
  repeat (first | rw [if_neg (by omega)])
  rfl

/-- The examples of the chapter. -/
theorem examples_k : fullinglaw1_WordExamples.f 40 = some true := by decide +kernel

theorem LeO_le {α : Type} {f : Nat → Option α} (hm : ∀ k, LeO (f k) (f (k + 1))) {j k : Nat} {r : α} (h : f j = some r) (hk : j ≤ k) : f k = some r := by
  induction hk with
  | refl => exact h
  | step _ ih => exact hm _ _ ih
theorem examples_ge {k : Nat} (h : 40 ≤ k) : fullinglaw1_WordExamples.f k = some true := LeO_le (fun k => fullinglaw1_WordExamples.mono k) examples_k h

theorem tmod_wrap (n : Int) (m : Int) (hn : I64 n) (h0 : 0 < m) (h1 : m ≤ 4294967296) : ∃ k, fullingkeep_Pick.f n m = some k ∧ 0 ≤ k ∧ k < m := by
  unfold fullingkeep_Pick.f
  rw [if_neg (by omega)]
  have hlt := Int.tmod_lt_of_pos n h0
  have hgt : -m < Int.tmod n m := by
    have := Int.tmod_lt_of_pos (-n) h0
    rw [Int.neg_tmod] at this
    omega
  split
  · refine ⟨_, rfl, ?_⟩
    rw [wrap_id (by unfold I64; omega)]
    omega
  · exact ⟨_, rfl, by omega, by omega⟩
theorem word_some (n p : Int) (hn : I64 n) (hp : I64 p) : ∃ x, fullingkeep_Word.f n p = some x ∧ I64 x := by
  unfold fullingkeep_Word.f
  simp only [Option.bind_some]
  obtain ⟨k, hk, h0, h1⟩ := tmod_wrap n 24 hn (by omega) (by omega)
  rw [hk]
  simp only [Option.bind_some]
  split
  · rw [if_pos (by simp; omega)]
    refine ⟨_, rfl, ?_⟩
    obtain ⟨j, rfl⟩ := Int.eq_ofNat_of_zero_le h0
    have hj : j < 10 := by omega
    have : ∀ j : Nat, j < 10 → I64 (rd [0, 1, (-1), 2, (-9223372036854775808), 9223372036854775807, 4294967296, (-2147483648), 63, 64] (j : Int)) := by
      unfold I64
      decide
    exact this j hj
  · split
    · obtain ⟨q, hq, h2, h3⟩ := tmod_wrap (wrap64 (Int.tdiv n 24)) 17 (wrap_i64 _) (by omega) (by omega)
      rw [hq]
      exact ⟨_, rfl, wrap_i64 _⟩
    · exact ⟨_, rfl, hp⟩
end Go.Proofs.Ytlilbddpelbngaa.M
