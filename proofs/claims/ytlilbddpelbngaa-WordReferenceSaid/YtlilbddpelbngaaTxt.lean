/- Decimal texts: what the two formatters come to, and that parsing undoes them. -/
import Derived.Test.YtlilbddpelbngaaDec
namespace Go.Proofs.Ytlilbddpelbngaa.M
set_option linter.unusedVariables false
set_option linter.unusedSimpArgs false
open Go.RowKit Go.Proofs.Ytlilbddpelbngaa Go.Proofs.Ytlilbddpelbngaa.PAll Go.Proofs.YtlilbddpelbngaaW.PrintWords Go.Proofs.YtlilbddpelbngaaW.PrintLast Go.Proofs.YtlilbddpelbngaaW.PrintMore

theorem decs_succ (k n : Nat) : decs (k + 1) n = if n < 10 then [UInt8.ofNat (48 + n)] else decs k (n / 10) ++ [UInt8.ofNat (48 + n % 10)] := rfl
theorem decs_len : ∀ (k n : Nat), (decs k n).length ≤ k
  | 0, n => by simp [decs]
  | k + 1, n => by
    rw [decs_succ]
    split
    · simp
    · have := decs_len k (n / 10)
      simp
      omega
theorem decs_len' : ∀ (j k n : Nat), n < 10 ^ (j + 1) → (decs k n).length ≤ j + 1
  | 0, k, n, h => by
    cases k with
    | zero => simp [decs]
    | succ k =>
      rw [decs_succ, if_pos (by simpa using h)]
      simp
  | j + 1, k, n, h => by
    cases k with
    | zero => simp [decs]
    | succ k =>
      rw [decs_succ]
      split
      · simp
      · have := decs_len' j k (n / 10) (by rw [Nat.pow_succ] at h; omega)
        simp
        omega
theorem scan_app : ∀ (l : List UInt8) (n : Nat) (c : UInt8), scan (l ++ [c]) n = (scan l n).bind fun m => scan [c] m
  | [], n, c => rfl
  | d :: l, n, c => by
    simp only [List.cons_append, scan]
    split
    · rfl
    · split
      · rfl
      · exact scan_app l _ c
theorem dig_toNat (n : Nat) (h : n < 10) : (UInt8.ofNat (48 + n)).toNat = 48 + n := by
  rw [UInt8.toNat_ofNat']
  omega
theorem scan_one (m n : Nat) (h : n < 10) : scan [UInt8.ofNat (48 + n)] m = some (10 * m + n) := by
  simp only [scan]
  rw [dig_toNat n h, if_neg (by omega), if_neg (by omega)]
  congr 2
  omega
theorem scan_decs : ∀ (k n : Nat), n < 10 ^ k → 0 < k → scan (decs k n) 0 = some n
  | 0, n, h, h0 => absurd h0 (by omega)
  | k + 1, n, h, _ => by
    rw [decs_succ]
    split
    · rename_i c
      rw [scan_one 0 n c]
      congr 1
      omega
    · rename_i c
      have hk : 0 < k := by
        cases k with
        | zero => simp at h; omega
        | succ k => omega
      rw [scan_app, scan_decs k (n / 10) (by rw [Nat.pow_succ] at h; omega) hk, Option.bind_some, scan_one _ _ (by omega)]
      congr 1
      omega
theorem decs_head : ∀ (k n : Nat), n < 10 ^ k → 0 < n → ∃ c r, decs k n = c :: r ∧ c ≠ 48
  | 0, n, h, h0 => by simp at h; omega
  | k + 1, n, h, h0 => by
    rw [decs_succ]
    split
    · rename_i c
      refine ⟨_, [], rfl, fun e => ?_⟩
      have := dig_toNat n c
      rw [e] at this
      have e2 : (48 : UInt8).toNat = 48 := rfl
      omega
    · rename_i c
      obtain ⟨d, r, e, hd⟩ := decs_head k (n / 10) (by rw [Nat.pow_succ] at h; omega) (by omega)
      rw [e]
      exact ⟨d, _, rfl, hd⟩
theorem decs_ne45 : ∀ (k n : Nat), n < 10 ^ k → 0 < k → ∃ c r, decs k n = c :: r ∧ 48 ≤ c.toNat
  | 0, n, h, h0 => by omega
  | k + 1, n, h, h0 => by
    rw [decs_succ]
    split
    · rename_i c
      exact ⟨_, [], rfl, by rw [dig_toNat n c]; omega⟩
    · rename_i c
      have hk : 0 < k := by
        cases k with
        | zero => simp at h; omega
        | succ k => omega
      obtain ⟨d, r, e, hd⟩ := decs_ne45 k (n / 10) (by rw [Nat.pow_succ] at h; omega) hk
      rw [e]
      exact ⟨d, _, rfl, hd⟩

/-- The text of a word. -/
def T (x : Int) : List UInt8 := if x < 0 then 45 :: decs 20 (-x).toNat else decs 20 x.toNat
theorem T_len (x : Int) (h : I64 x) : (T x).length ≤ 20 := by
  unfold T I64 at *
  split
  · have := decs_len' 18 20 (-x).toNat (by omega)
    simp
    omega
  · have := decs_len' 18 20 x.toNat (by omega)
    omega

theorem text_is (x : Int) (h : I64 x) : word_Text.f x = some (mkS (T x)) := by
  unfold word_Text.f T
  unfold I64 at h
  by_cases c : x < 0
  · rw [if_pos c, if_pos c]
    have e : IntKind.u64.wrap (-(IntKind.u64.wrap x)) = -x := by
      rw [u64_wrap_eq, u64_wrap_eq]
      omega
    rw [e]
    have hf : word_digits.f (-x) = some (mkS (decs 20 (-x).toNat)) := by
      unfold word_digits.f
      rw [if_pos (by omega), if_pos (by omega)]
      rfl
    rw [hf, Option.bind_some, mkS_size]
    have hl := decs_len 20 (-x).toNat
    rw [if_pos (by omega)]
    exact congrArg some (mkS_app [45] _)
  · rw [if_neg c, if_neg c]
    have e : IntKind.u64.wrap x = x := by
      rw [u64_wrap_eq]
      omega
    rw [e]
    have hf : word_digits.f x = some (mkS (decs 20 x.toNat)) := by
      unfold word_digits.f
      rw [if_pos (by omega), if_pos (by omega)]
      rfl
    rw [hf, Option.bind_some]

theorem format_is : ∀ (j n k : Nat), n < 10 ^ j → 0 < j → j ≤ 20 → j < k → n < 18446744073709551616 → fullingref1_formatUint.f k n = some (mkS (decs j n))
  | 0, n, k, h, h0, _, hk, hn => by omega
  | j + 1, n, k, h, h0, hj, hk, hn => by
    obtain ⟨k, rfl⟩ : ∃ m, k = m + 1 := ⟨k - 1, by omega⟩
    simp only [fullingref1_formatUint.f]
    rw [decs_succ]
    by_cases c : n < 10
    · rw [if_pos (by omega), if_pos c]
      have e : (IntKind.u64.wrap (48 + (n : Int))) % 256 = ((48 + n : Nat) : Int) := by
        rw [u64_wrap_eq]
        omega
      rw [e]
      rfl
    · rw [if_neg (by omega), if_neg c]
      have hk : 0 < j := by
        cases j with
        | zero => simp at h; omega
        | succ k => omega
      have e1 : IntKind.u64.wrap (Int.tdiv (n : Int) 10) = ((n / 10 : Nat) : Int) := by
        rw [u64_wrap_eq, Int.tdiv_eq_ediv_of_nonneg (by omega)]
        omega
      have e2 : (IntKind.u64.wrap (48 + (Int.tmod (n : Int) 10))) % 256 = ((48 + n % 10 : Nat) : Int) := by
        rw [u64_wrap_eq, Int.tmod_eq_emod_of_nonneg (by omega)]
        omega
      rw [e1, e2, format_is j (n / 10) k (by rw [Nat.pow_succ] at h; omega) hk (by omega) (by omega) (by omega), Option.bind_some, Option.bind_some, mkS_size]
      have hl := decs_len j (n / 10)
      have e3 : strOfNums [((48 + n % 10 : Nat) : Int)] = mkS [UInt8.ofNat (48 + n % 10)] := rfl
      rw [e3, mkS_size, if_pos (by simp; omega), mkS_app]

theorem ref_text_is (x : Int) (h : I64 x) (k : Nat) (hk : 20 < k) : fullingref1_Text.f k x = some (mkS (T x)) := by
  unfold fullingref1_Text.f T
  unfold I64 at h
  by_cases c : x < 0
  · rw [if_pos c, if_pos c]
    have e : IntKind.u64.wrap ((IntKind.u64.wrap (wrap64 (-(wrap64 (x + 1))))) + 1) = (((-x).toNat : Nat) : Int) := by
      rw [wrap_id (x := x + 1) (by unfold I64; omega), wrap_id (x := -(x + 1)) (by unfold I64; omega), u64_wrap_eq, u64_wrap_eq]
      omega
    rw [e, format_is 20 (-x).toNat k (by omega) (by omega) (by omega) hk (by omega), Option.bind_some, mkS_size]
    have hl := decs_len 20 (-x).toNat
    rw [if_pos (by omega)]
    exact congrArg some (mkS_app [45] _)
  · rw [if_neg c, if_neg c]
    have e : IntKind.u64.wrap x = ((x.toNat : Nat) : Int) := by
      rw [u64_wrap_eq]
      omega
    rw [e, format_is 20 x.toNat k (by omega) (by omega) (by omega) hk (by omega), Option.bind_some]

theorem badB_decs (b : Bool) (n : Nat) (h : n < 10000000000000000000) (hb : b = true → 0 < n) : badB b (decs 20 n) = false := by
  have hl := decs_len' 18 20 n (by omega)
  by_cases h0 : 0 < n
  · obtain ⟨c, r, e, hc⟩ := decs_head 20 n (by omega) h0
    rw [e] at hl ⊢
    have e1 : (c == 48) = false := beq_eq_false_iff_ne.2 hc
    simp only [badB, e1, Bool.false_and, Bool.or_false]
    simp at hl ⊢
    omega
  · have e : n = 0 := by omega
    subst e
    cases b with
    | true => exact absurd (hb rfl) h0
    | false => rfl

/-- Parsing undoes formatting. -/
theorem parse_text (x : Int) (h : I64 x) : pspec (T x) = (x, true) := by
  unfold pspec T
  unfold I64 at h
  by_cases c : x < 0
  · rw [if_pos c, if_pos (show (45 :: decs 20 (-x).toNat).head? = some 45 from rfl), show (45 :: decs 20 (-x).toNat).drop 1 = decs 20 (-x).toNat from rfl]
    unfold tailS
    rw [badB_decs true _ (by omega) (fun _ => by omega), if_neg Bool.noConfusion, scan_decs 20 _ (by omega) (by omega)]
    simp only [ends, fin]
    rw [if_neg (by omega)]
    have e : wrap64 (IntKind.u64.wrap (-(((-x).toNat : Nat) : Int))) = x := by
      rw [u64_wrap_eq]
      unfold wrap64
      omega
    rw [e]
  · obtain ⟨d, r, e, hd⟩ := decs_ne45 20 x.toNat (by omega) (by omega)
    have hh : ¬ (decs 20 x.toNat).head? = some 45 := by
      rw [e]
      intro q
      injection q with q
      have e2 : (45 : UInt8).toNat = 45 := rfl
      rw [q] at hd
      omega
    rw [if_neg c, if_neg hh]
    unfold tailS
    rw [badB_decs false _ (by omega) (fun q => by cases q), if_neg Bool.noConfusion, scan_decs 20 _ (by omega) (by omega)]
    simp only [ends, fin]
    rw [if_neg (by omega)]
    have e : wrap64 (((x.toNat : Nat) : Int)) = x := by
      unfold wrap64
      omega
    rw [e]
theorem T_inj (x y : Int) (hx : I64 x) (hy : I64 y) (h : T x = T y) : x = y := by
  have a := parse_text x hx
  have b := parse_text y hy
  rw [h, b] at a
  injection a with a _
  exact a.symm
end Go.Proofs.Ytlilbddpelbngaa.M
