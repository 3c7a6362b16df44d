/- The program's words do what the reference's do, for every operation, all words and every string: the law returns true. -/
import Derived.Test.YtlilbddpelbngaaTxt
namespace Go.Proofs.Ytlilbddpelbngaa.Pure
set_option linter.unusedVariables false
set_option linter.unusedSimpArgs false
open Go.RowKit Go.Proofs.Ytlilbddpelbngaa.PAll Go.Proofs.Ytlilbddpelbngaa.M Go.Proofs.YtlilbddpelbngaaW.PrintWords Go.Proofs.YtlilbddpelbngaaW.PrintLast Go.Proofs.YtlilbddpelbngaaW.PrintMore

theorem bin_same (op a b : Int) : word_Binary.f op a b = fullingref1_Binary.f op a b := by
  unfold word_Binary.f word_shiftOrCompare.f fullingref1_Binary.f
  have e1 : fullingref1_boolWord.f = word_truth.f := rfl
  have e2 : fullingref1_Div.f = word_quotient.f := rfl
  simp only [Option.bind_fun_some, e1, e2]
theorem bin_total (op a b : Int) : ∃ z, word_Binary.f op a b = some z := by
  by_cases h : op < 4 ∨ 19 < op
  · exact ⟨_, bin_other op a b h⟩
  · have : op = 4 ∨ op = 5 ∨ op = 6 ∨ op = 7 ∨ op = 8 ∨ op = 9 ∨ op = 10 ∨ op = 11 ∨ op = 12 ∨ op = 13 ∨ op = 14 ∨ op = 15 ∨ op = 16 ∨ op = 17 ∨ op = 18 ∨ op = 19 := by omega
    rcases this with rfl | rfl | rfl | rfl | rfl | rfl | rfl | rfl | rfl | rfl | rfl | rfl | rfl | rfl | rfl | rfl
    · exact ⟨_, bin_add a b⟩
    · exact ⟨_, bin_sub a b⟩
    · exact ⟨_, bin_mul a b⟩
    · exact ⟨_, bin_div a b⟩
    · exact ⟨_, bin_rem a b⟩
    · exact ⟨_, bin_and a b⟩
    · exact ⟨_, bin_or a b⟩
    · exact ⟨_, bin_xor a b⟩
    · exact ⟨_, bin_shl a b⟩
    · exact ⟨_, bin_shr a b⟩
    · exact ⟨_, bin_sar a b⟩
    · exact ⟨_, bin_eq a b⟩
    · exact ⟨_, bin_ne a b⟩
    · exact ⟨_, bin_lt a b⟩
    · exact ⟨_, bin_le a b⟩
    · exact ⟨_, bin_ltu a b⟩
theorem un_total (op a : Int) : ∃ z, word_Unary.f op a = some z := by
  unfold word_Unary.f
  split
  · exact ⟨_, rfl⟩
  · split <;> exact ⟨_, rfl⟩
theorem un_same (op a : Int) : word_Unary.f op a = fullingref1_Unary.f op a := rfl

theorem l0_step (k : Nat) (raw : ByteArray) (x y : Int) (xs : List Int) (i : Nat) (h : i < xs.length) (hm : xs.length ≤ 100) :
    fullinglaw1_WordReference.l0 (k + 1) raw x y xs (xs.length : Int) i = fullinglaw1_WordReference.l0 k raw x y xs (xs.length : Int) ((i + 1 : Nat) : Int) := by
  rw [fullinglaw1_WordReference.l0, if_pos (by omega), if_pos (by omega), if_pos (by omega)]
  obtain ⟨u, hu⟩ := un_total (rd xs i) x
  obtain ⟨b, hb⟩ := bin_total (rd xs i) x y
  rw [← un_same, hu, Option.bind_some, Option.bind_some, if_pos rfl, ← bin_same, hb, Option.bind_some, Option.bind_some, if_pos rfl, wrap_id (x := (i : Int) + 1) (by unfold I64; omega)]
  rfl
theorem l1_step (k : Nat) (x : Int) (xs : List ByteArray) (i : Nat) (h : i < xs.length) (hm : xs.length ≤ 100) (hs : ∀ s ∈ xs, s.size + 30 < k) :
    fullinglaw1_WordReference.l1 (k + 1) x xs (xs.length : Int) i = fullinglaw1_WordReference.l1 k x xs (xs.length : Int) ((i + 1 : Nat) : Int) := by
  rw [fullinglaw1_WordReference.l1, if_pos (by omega), if_pos (by omega), if_pos (by omega)]
  have hmem : rdOf ByteArray.empty xs (i : Int) ∈ xs := by
    unfold rdOf
    rw [Int.toNat_natCast, List.getD_eq_getElem?_getD, List.getElem?_eq_getElem h]
    exact List.getElem_mem h
  generalize rdOf ByteArray.empty xs (i : Int) = s at hmem
  have hk := hs s hmem
  have hl : s.data.toList.length = s.size := Array.length_toList
  rw [← mkS_self s, parse_is s.data.toList k (by omega), Option.bind_some, ref_parse_is s.data.toList k (by omega), Option.bind_some, if_pos rfl, if_neg (by simp), wrap_id (x := (i : Int) + 1) (by unfold I64; omega)]
  rfl
theorem l1_all (x : Int) (ix : I64 x) (xs : List ByteArray) (hm : xs.length ≤ 100) : ∀ (d i k : Nat), xs.length - i = d → i ≤ xs.length → (∀ s ∈ xs, s.size + 30 + d < k) → 50 + d < k →
    fullinglaw1_WordReference.l1 k x xs (xs.length : Int) i = some true := by
  intro d
  induction d with
  | zero =>
    intro i k hd hi hs hk
    obtain ⟨k, rfl⟩ : ∃ m, k = m + 1 := ⟨k - 1, by omega⟩
    rw [fullinglaw1_WordReference.l1, if_neg (by omega), text_is x ix, Option.bind_some, ref_text_is x ix k (by omega), Option.bind_some, if_pos rfl, examples_ge (by omega), Option.bind_some]
  | succ d ih =>
    intro i k hd hi hs hk
    obtain ⟨k, rfl⟩ : ∃ m, k = m + 1 := ⟨k - 1, by omega⟩
    rw [l1_step k x xs i (by omega) hm (fun s h => by have := hs s h; omega)]
    exact ih (i + 1) k (by omega) (by omega) (fun s h => by have := hs s h; omega) (by omega)
theorem WordReference : fullinglaw1_WordReference.Pure := by
  intro op a b p q raw ho ha hb hp hq hr
  obtain ⟨x, hx, ix⟩ := word_some a p (i64_of_wf ha) (i64_of_wf hp)
  obtain ⟨y, hy, iy⟩ := word_some b q (i64_of_wf hb) (i64_of_wf hq)
  obtain ⟨c, hc, c0, c1⟩ := tmod_wrap op 36 (i64_of_wf ho) (by omega) (by omega)
  obtain ⟨d, hd, d0, d1⟩ := tmod_wrap op 18 (i64_of_wf ho) (by omega) (by omega)
  refine ⟨raw.size + 104, ?_⟩
  have lx := T_len x ix
  have ly := T_len y iy
  unfold fullinglaw1_WordReference.f
  rw [hx, Option.bind_some, hy, Option.bind_some, hc, Option.bind_some, hd, Option.bind_some, Option.bind_some]
  generalize hxs : [op, c, wrap64 (4 + d)] = xs
  have hl : xs.length = 3 := by rw [← hxs]; rfl
  have s0 := l0_step (raw.size + 103) raw x y xs 0 (by omega) (by omega)
  have s1 := l0_step (raw.size + 102) raw x y xs 1 (by omega) (by omega)
  have s2 := l0_step (raw.size + 101) raw x y xs 2 (by omega) (by omega)
  rw [show ((0 : Nat) : Int) = 0 from rfl] at s0
  rw [s0, s1, s2, show raw.size + 101 = (raw.size + 100) + 1 from rfl, fullinglaw1_WordReference.l0, if_neg (by omega)]
  have e := ref_text_is x ix (raw.size + 100) (by omega)
  have f := ref_text_is y iy (raw.size + 100) (by omega)
  rw [e, Option.bind_some, Option.bind_some, mkS_size, if_pos (by omega), Option.bind_some, mkS_size, if_pos (by omega), Option.bind_some, mkS_size, if_pos (by omega), f, Option.bind_some, mkS_size, if_pos (by omega), Option.bind_some]
  have q0 : (⟨#[48]⟩ : ByteArray) = mkS [48] := rfl
  have q1 : (⟨#[45]⟩ : ByteArray) = mkS [45] := rfl
  have q2 : (⟨#[43]⟩ : ByteArray) = mkS [43] := rfl
  rw [q0, q1, q2, mkS_app, mkS_app, mkS_app, mkS_app]
  refine l1_all x ix _ (by simp) 6 0 (raw.size + 100) (by simp) (by simp) ?_ (by omega)
  intro s hs
  simp only [List.mem_cons, List.not_mem_nil, or_false] at hs
  rcases hs with rfl | rfl | rfl | rfl | rfl | rfl
  · omega
  all_goals (rw [mkS_size]; simp; omega)
end Go.Proofs.Ytlilbddpelbngaa.Pure
