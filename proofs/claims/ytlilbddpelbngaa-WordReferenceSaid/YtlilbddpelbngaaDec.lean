/- Decimal texts: what the two parsers and the two formatters come to, as plain functions on lists of bytes. -/
import Derived.Test.YtlilbddpelbngaaPAllx
import Derived.Test.YtlilbddpelbngaaOps
import Derived.Laws.Strings
namespace Go.Proofs.Ytlilbddpelbngaa.M
set_option linter.unusedVariables false
set_option linter.unusedSimpArgs false
open Go.RowKit Go.Proofs.Ytlilbddpelbngaa.PAll Go.Proofs.YtlilbddpelbngaaW.PrintWords Go.Proofs.YtlilbddpelbngaaW.PrintLast Go.Proofs.YtlilbddpelbngaaW.PrintMore

def mkS (l : List UInt8) : ByteArray := ⟨l.toArray⟩
theorem mkS_self (s : ByteArray) : mkS s.data.toList = s := by cases s; simp [mkS]
theorem mkS_size (l : List UInt8) : (mkS l).size = l.length := by simp [mkS, ByteArray.size]
theorem mkS_toList (l : List UInt8) : (mkS l).toList = l := ByteArray.toList_mk l
theorem mkS_tail (l : List UInt8) : (mkS l).extract 1 (mkS l).size = mkS (l.drop 1) := by
  apply ByteArray.ext
  simp [mkS, ByteArray.data_extract, ByteArray.size]
  rw [List.take_of_length_le (by simp)]
theorem mkS_app (a b : List UInt8) : (mkS a ++ mkS b : ByteArray) = mkS (a ++ b) := by
  apply ByteArray.ext
  simp [mkS, ByteArray.data_append]
theorem mkS_bt (l : List UInt8) (i : Nat) (h : i < l.length) : bt (mkS l) (i : Int) = ((l[i]).toNat : Int) := by
  unfold bt
  rw [dif_pos (by rw [mkS_size]; simpa using h)]
  simp [mkS, ByteArray.getElem_eq_getElem_data]

def scan : List UInt8 → Nat → Option Nat
  | [], n => some n
  | c :: r, n => if c.toNat < 48 then none else if c.toNat > 57 then none else scan r (10 * n + (c.toNat - 48))

/-- How word.Parse ends. -/
def fin : Bool → Nat → Int × Bool
  | true, m => if m > 9223372036854775808 then (0, false) else (wrap64 (IntKind.u64.wrap (-(m : Int))), true)
  | false, m => if m > 9223372036854775807 then (0, false) else (wrap64 m, true)

theorem acc_eq (n c : Nat) (h1 : 48 ≤ c) (h2 : c ≤ 57) (hn : n < 1000000000000000000) :
    IntKind.u64.wrap ((IntKind.u64.wrap (10 * (n : Int))) + (((c : Int) - 48) % 256)) = ((10 * n + (c - 48) : Nat) : Int) := by
  rw [u64_wrap_eq, u64_wrap_eq]
  omega

theorem parse_loop (l : List UInt8) (b : Bool) (hl : l.length ≤ 19) : ∀ (d k i n : Nat), l.length - i = d → i ≤ l.length → n < 10 ^ i → d + 1 < k →
    word_Parse.l0 k (mkS l) b n i = some (match scan (l.drop i) n with | none => (0, false) | some m => fin b m) := by
  intro d
  induction d with
  | zero =>
    intro k i n hd hi hn hk
    obtain ⟨k, rfl⟩ : ∃ m, k = m + 2 := ⟨k - 2, by omega⟩
    have hi : i = l.length := by omega
    subst hi
    simp only [word_Parse.l0]
    rw [mkS_size, if_neg (by omega), List.drop_length]
    simp only [scan]
    cases b with
    | true =>
      rw [if_pos rfl]
      simp only [word_Parse.j4, fin]
      by_cases c : n > 9223372036854775808
      · rw [if_pos (show (n : Int) > 9223372036854775807 + 1 by omega), if_pos c]
      · rw [if_neg (show ¬ (n : Int) > 9223372036854775807 + 1 by omega), if_neg c, if_pos trivial]
    | false =>
      rw [if_neg Bool.noConfusion]
      simp only [word_Parse.j4, fin]
      by_cases c : n > 9223372036854775807
      · rw [if_pos (show (n : Int) > 9223372036854775807 by omega), if_pos c]
      · rw [if_neg (show ¬ (n : Int) > 9223372036854775807 by omega), if_neg c, if_neg Bool.noConfusion]
  | succ d ih =>
    intro k i n hd hi hn hk
    obtain ⟨k, rfl⟩ : ∃ m, k = m + 1 := ⟨k - 1, by omega⟩
    have hlt : i < l.length := by omega
    simp only [word_Parse.l0]
    rw [mkS_size, if_pos (by omega), if_pos (by omega), mkS_bt l i hlt, List.drop_eq_getElem_cons hlt]
    simp only [scan]
    generalize l[i].toNat = c
    by_cases h1 : c < 48
    · rw [if_pos (by omega), if_pos h1]
    · rw [if_neg (by omega), if_neg h1]
      by_cases h2 : c > 57
      · rw [if_pos (by omega), if_pos h2]
      · rw [if_neg (by omega), if_neg h2]
        have hp : 10 ^ i ≤ 10 ^ 18 := Nat.pow_le_pow_right (by omega) (by omega)
        rw [acc_eq n c (by omega) (by omega) (Nat.lt_of_lt_of_le hn hp), wrap_id (x := (i : Int) + 1) (by unfold I64; omega)]
        have := ih k (i + 1) (10 * n + (c - 48)) (by omega) (by omega) (by rw [Nat.pow_succ]; omega) (by omega)
        rw [← this]
        rfl

/-- The bytes that word.Parse doesn't take at all. -/
def bad (b : Bool) (l : List UInt8) : Prop := l.length < 1 ∨ l.length > 19 ∨ (∃ r, l = 48 :: r ∧ (r.length > 0 ∨ b = true))

theorem parse_tail (l : List UInt8) (b : Bool) (k : Nat) (hk : l.length + 4 < k) :
    (bad b l → word_Parse.j1 k (mkS l) b = some (0, false)) ∧ (¬ bad b l → word_Parse.j1 k (mkS l) b = some (match scan l 0 with | none => (0, false) | some m => fin b m)) := by
  obtain ⟨k, rfl⟩ : ∃ m, k = m + 2 := ⟨k - 2, by omega⟩
  simp only [word_Parse.j1]
  rw [mkS_size]
  by_cases h1 : l.length < 1
  · rw [if_pos (by omega)]
    exact ⟨fun _ => by simp [word_Parse.j2], fun h => absurd (.inl h1) h⟩
  · rw [if_neg (by omega)]
    by_cases h2 : l.length > 19
    · rw [if_pos (by omega)]
      exact ⟨fun _ => by simp [word_Parse.j2], fun h => absurd (.inr (.inl h2)) h⟩
    · rw [if_neg (by omega), if_pos (by omega)]
      have hb := mkS_bt l 0 (by omega)
      simp only [Int.ofNat_zero, Int.natCast_zero] at hb
      have hb' : bt (mkS l) 0 = ((l[0]'(by omega)).toNat : Int) := hb
      rw [hb']
      have go := parse_loop l b (by omega) l.length k 0 0 (by omega) (by omega) (by simp) (by omega)
      have go' : word_Parse.l0 k (mkS l) b 0 0 = some (match scan l 0 with | none => (0, false) | some m => fin b m) := go
      cases l with
      | nil => simp at h1
      | cons c r =>
        simp only [List.getElem_cons_zero]
        by_cases h3 : c = 48
        · subst h3
          have e : ((48 : UInt8).toNat : Int) = 48 := rfl
          rw [if_pos e]
          by_cases h4 : r.length > 0
          · rw [if_pos (by simp; omega)]
            exact ⟨fun _ => by simp [word_Parse.j2], fun h => absurd (.inr (.inr ⟨r, rfl, .inl h4⟩)) h⟩
          · rw [if_neg (by simp; omega)]
            cases b with
            | true => exact ⟨fun _ => by simp [word_Parse.j2], fun h => absurd (.inr (.inr ⟨r, rfl, .inr rfl⟩)) h⟩
            | false =>
              refine ⟨fun h => ?_, fun _ => ?_⟩
              · exfalso
                rcases h with h | h | ⟨r', e', h⟩
                · exact h1 h
                · exact h2 h
                · injection e' with _ e'
                  subst e'
                  rcases h with h | h
                  · exact h4 h
                  · cases h
              · simp only [word_Parse.j2]
                rw [if_neg (by simp)]
                exact go'
        · have e : ¬ ((c.toNat : Int) = 48) := by
            intro e
            apply h3
            apply UInt8.toNat_inj.1
            have e2 : (48 : UInt8).toNat = 48 := rfl
            omega
          rw [if_neg e]
          refine ⟨fun h => ?_, fun _ => ?_⟩
          · exfalso
            rcases h with h | h | ⟨r', e', h⟩
            · exact h1 h
            · exact h2 h
            · injection e' with e' _
              exact h3 e'
          · simp only [word_Parse.j2]
            rw [if_neg (by simp)]
            exact go'

def badB (b : Bool) : List UInt8 → Bool
  | [] => true
  | c :: r => decide (r.length > 18) || (c == 48 && (decide (r.length > 0) || b))
theorem badB_iff (b : Bool) (l : List UInt8) : badB b l = true ↔ bad b l := by
  cases l with
  | nil => simp [badB, bad]
  | cons c r =>
    simp only [badB, bad, Bool.or_eq_true, Bool.and_eq_true, decide_eq_true_eq, beq_iff_eq, List.length_cons]
    constructor
    · rintro (h | ⟨rfl, h⟩)
      · exact .inr (.inl (by omega))
      · exact .inr (.inr ⟨r, rfl, h⟩)
    · rintro (h | h | ⟨r', e, h⟩)
      · omega
      · exact .inl (by omega)
      · injection e with e1 e2
        subst e1 e2
        exact .inr ⟨rfl, h⟩

def ends (f : Nat → Int × Bool) : Option Nat → Int × Bool
  | none => (0, false)
  | some m => f m
def tailS (b : Bool) (l : List UInt8) : Int × Bool := if badB b l = true then (0, false) else ends (fin b) (scan l 0)
def pspec (l : List UInt8) : Int × Bool := if l.head? = some 45 then tailS true (l.drop 1) else tailS false l

theorem parse_tail' (l : List UInt8) (b : Bool) (k : Nat) (hk : l.length + 4 < k) : word_Parse.j1 k (mkS l) b = some (tailS b l) := by
  obtain ⟨h1, h2⟩ := parse_tail l b k hk
  unfold tailS
  by_cases c : badB b l = true
  · rw [if_pos c]
    exact h1 ((badB_iff b l).1 c)
  · rw [if_neg c, h2 (fun h => c ((badB_iff b l).2 h))]
    cases scan l 0 <;> rfl

theorem byte45 (c : UInt8) : (((c.toNat : Int) == 45) = true) ↔ c = 45 := by
  rw [beq_iff_eq]
  constructor
  · intro e
    apply UInt8.toNat_inj.1
    have e2 : (45 : UInt8).toNat = 45 := rfl
    omega
  · rintro rfl
    rfl
theorem byte48 (c : UInt8) : ((c.toNat : Int) = 48) ↔ c = 48 := by
  constructor
  · intro e
    apply UInt8.toNat_inj.1
    have e2 : (48 : UInt8).toNat = 48 := rfl
    omega
  · rintro rfl
    rfl

theorem parse_is (l : List UInt8) (k : Nat) (hk : l.length + 5 < k) : word_Parse.f k (mkS l) = some (pspec l) := by
  obtain ⟨k, rfl⟩ : ∃ m, k = m + 1 := ⟨k - 1, by omega⟩
  unfold word_Parse.f pspec
  cases l with
  | nil =>
    rw [mkS_size, if_neg (by simp), if_neg (by simp)]
    simp only [word_Parse.j0]
    rw [if_neg Bool.noConfusion]
    exact parse_tail' [] false k (by simp at hk ⊢; omega)
  | cons c r =>
    have hb : bt (mkS (c :: r)) 0 = (c.toNat : Int) := mkS_bt (c :: r) 0 (by simp)
    rw [mkS_size, if_pos (by simp <;> omega), if_pos (by simp <;> omega), hb]
    by_cases h : c = 45
    · subst h
      rw [if_pos (show (45 :: r).head? = some 45 from rfl)]
      have e : ((((45 : UInt8).toNat : Nat) : Int) == 45) = true := rfl
      rw [e]
      simp only [word_Parse.j0]
      rw [if_pos trivial, mkS_tail, mkS_size, if_pos (by simp <;> omega)]
      exact parse_tail' r true k (by simp at hk; omega)
    · have e : (((c.toNat : Nat) : Int) == 45) = false := by
        cases q : (((c.toNat : Nat) : Int) == 45)
        · rfl
        · exact absurd ((byte45 c).1 q) h
      rw [e, if_neg (by simp [h])]
      simp only [word_Parse.j0]
      rw [if_neg Bool.noConfusion]
      exact parse_tail' (c :: r) false k (by simp at hk ⊢; omega)

/-- The reference's numbers. -/
def nfin (most m : Nat) : Int × Bool := if m > most then (0, false) else (m, true)
def nspec (most : Nat) (l : List UInt8) : Int × Bool := if badB false l = true then (0, false) else ends (nfin most) (scan l 0)

theorem number_loop (l : List UInt8) (most : Nat) (hl : l.length ≤ 19) (h0 : 0 < l.length) (hz : l.length ≤ 1 ∨ ∀ h : 0 < l.length, l[0] ≠ 48) : ∀ (d k i n : Nat), l.length - i = d → i ≤ l.length → n < 10 ^ i → d < k →
    fullingref1_Number.l0 k (mkS l) most n i = some (ends (nfin most) (scan (l.drop i) n)) := by
  intro d
  induction d with
  | zero =>
    intro k i n hd hi hn hk
    obtain ⟨k, rfl⟩ : ∃ m, k = m + 1 := ⟨k - 1, by omega⟩
    have hi : i = l.length := by omega
    subst hi
    simp only [fullingref1_Number.l0]
    rw [mkS_size, if_neg (by omega), List.drop_length, mkS_toList, if_neg (by intro e; rw [e] at h0; simp at h0)]
    simp only [scan, ends, nfin]
    by_cases c : n > most
    · rw [if_pos (by omega), if_pos c]
    · rw [if_neg (by omega), if_neg c]
  | succ d ih =>
    intro k i n hd hi hn hk
    obtain ⟨k, rfl⟩ : ∃ m, k = m + 1 := ⟨k - 1, by omega⟩
    have hlt : i < l.length := by omega
    have hp : 10 ^ i ≤ 10 ^ 18 := Nat.pow_le_pow_right (by omega) (by omega)
    have rec_ : ∀ c : Nat, 48 ≤ c → c ≤ 57 → fullingref1_Number.l0 k (mkS l) most (IntKind.u64.wrap ((IntKind.u64.wrap (10 * (n : Int))) + (((c : Int) - 48) % 256))) (wrap64 ((i : Int) + 1)) = some (ends (nfin most) (scan (l.drop (i + 1)) (10 * n + (c - 48)))) := by
      intro c h1 h2
      rw [acc_eq n c h1 h2 (Nat.lt_of_lt_of_le hn hp), wrap_id (x := (i : Int) + 1) (by unfold I64; omega)]
      have := ih k (i + 1) (10 * n + (c - 48)) (by omega) (by omega) (by rw [Nat.pow_succ]; omega) (by omega)
      rw [← this]
      rfl
    simp only [fullingref1_Number.l0]
    rw [mkS_size, if_pos (by omega), if_pos (by omega), mkS_bt l i hlt, List.drop_eq_getElem_cons hlt]
    have hb : bt (mkS l) 0 = ((l[0]'h0).toNat : Int) := mkS_bt l 0 h0
    rw [hb]
    simp only [scan]
    generalize l[i].toNat = c at rec_
    by_cases h1 : c < 48
    · rw [if_pos (by omega), if_pos h1]
      rfl
    · rw [if_neg (by omega), if_neg h1]
      by_cases h2 : c > 57
      · rw [if_pos (by omega), if_pos h2]
        rfl
      · rw [if_neg (by omega), if_neg h2]
        by_cases h3 : i = 1
        · rw [if_pos (by omega), if_pos (by omega), if_neg, if_neg (by omega)]
          · exact rec_ c (by omega) (by omega)
          · rw [byte48]
            rcases hz with hz | hz
            · omega
            · exact hz h0
        · rw [if_neg (by omega), if_neg (by omega)]
          exact rec_ c (by omega) (by omega)

theorem number_long (l : List UInt8) (most : Int) (hl : 19 < l.length) : ∀ (d k i : Nat) (n : Int), 19 - i = d → i ≤ 19 → d < k → fullingref1_Number.l0 k (mkS l) most n i = some (0, false) := by
  intro d
  induction d with
  | zero =>
    intro k i n hd hi hk
    obtain ⟨k, rfl⟩ : ∃ m, k = m + 1 := ⟨k - 1, by omega⟩
    have hi : i = 19 := by omega
    subst hi
    simp only [fullingref1_Number.l0]
    rw [mkS_size, if_pos (by omega), if_pos (by omega)]
    split
    · rfl
    · split
      · rfl
      · rw [if_neg (by omega), if_pos (by omega)]
  | succ d ih =>
    intro k i n hd hi hk
    obtain ⟨k, rfl⟩ : ∃ m, k = m + 1 := ⟨k - 1, by omega⟩
    have rec_ : ∀ n', fullingref1_Number.l0 k (mkS l) most n' (wrap64 ((i : Int) + 1)) = some (0, false) := by
      intro n'
      rw [wrap_id (x := (i : Int) + 1) (by unfold I64; omega)]
      exact ih k (i + 1) n' (by omega) (by omega) (by omega)
    simp only [fullingref1_Number.l0]
    rw [mkS_size, if_pos (by omega), if_pos (by omega)]
    split
    · rfl
    · split
      · rfl
      · by_cases h3 : i = 1
        · rw [if_pos (by omega), if_pos (by omega)]
          split
          · rfl
          · rw [if_neg (by omega)]
            exact rec_ _
        · rw [if_neg (by omega), if_neg (by omega)]
          exact rec_ _

theorem number_zero (r : List UInt8) (most : Int) (hr : 0 < r.length) (k : Nat) (hk : 2 ≤ k) : fullingref1_Number.f k (mkS (48 :: r)) most = some (0, false) := by
  obtain ⟨k, rfl⟩ : ∃ m, k = m + 2 := ⟨k - 2, by omega⟩
  have hb : bt (mkS (48 :: r)) 0 = 48 := mkS_bt (48 :: r) 0 (by simp)
  unfold fullingref1_Number.f
  simp only [fullingref1_Number.l0]
  rw [mkS_size, if_pos (by simp <;> omega), if_pos (by omega), hb, if_neg (by omega), if_neg (by omega), if_neg (by omega), if_neg (by omega)]
  have e : wrap64 (0 + 1) = 1 := wrap_id (x := 0 + 1) (by unfold I64; omega)
  rw [e, if_pos (by simp <;> omega), if_pos (by omega)]
  split
  · rfl
  · split
    · rfl
    · rw [if_pos rfl, if_pos (by simp <;> omega), if_pos rfl]

theorem number_is (l : List UInt8) (most k : Nat) (hk : l.length + 20 < k) : fullingref1_Number.f k (mkS l) most = some (nspec most l) := by
  unfold nspec
  cases l with
  | nil =>
    rw [if_pos (show badB false [] = true from rfl)]
    obtain ⟨k, rfl⟩ : ∃ m, k = m + 1 := ⟨k - 1, by omega⟩
    unfold fullingref1_Number.f
    simp only [fullingref1_Number.l0]
    rw [mkS_size, if_neg (by simp), mkS_toList, if_pos rfl]
  | cons c r =>
    by_cases hl : 19 < (c :: r).length
    · rw [if_pos (by simp [badB]; simp at hl; omega)]
      exact number_long (c :: r) most hl 19 k 0 0 (by omega) (by omega) (by omega)
    · by_cases hz : c = 48 ∧ 0 < r.length
      · obtain ⟨rfl, hz⟩ := hz
        rw [if_pos (by simp [badB]; omega)]
        exact number_zero r most hz k (by omega)
      · rw [if_neg (by simp [badB]; simp at hl; refine ⟨by omega, fun e => ?_⟩; apply Classical.byContradiction; intro h; exact hz ⟨e, by cases r with | nil => exact absurd rfl h | cons a b => simp⟩)]
        exact number_loop (c :: r) most (by omega) (by simp) (by
          by_cases q : (c :: r).length ≤ 1
          · exact .inl q
          · exact .inr (fun _ e => hz ⟨e, by simp only [List.length_cons] at q; omega⟩)) (c :: r).length k 0 0 (by omega) (by omega) (by simp) (by omega)

theorem scan_ge : ∀ (l : List UInt8) (n m : Nat), scan l n = some m → n ≤ m
  | [], n, m, h => by simp [scan] at h; omega
  | c :: r, n, m, h => by
    simp only [scan] at h
    split at h
    · cases h
    · split at h
      · cases h
      · have := scan_ge r _ _ h
        omega
theorem scan_pos (c : UInt8) (r : List UInt8) (m : Nat) (hc : c ≠ 48) (h : scan (c :: r) 0 = some m) : 0 < m := by
  simp only [scan] at h
  split at h
  · cases h
  · split at h
    · cases h
    · have h1 := scan_ge r _ _ h
      have : c.toNat ≠ 48 := fun e => hc (UInt8.toNat_inj.1 e)
      omega

theorem neg_val (m : Nat) (h0 : 0 < m) (h1 : m ≤ 9223372036854775808) : wrap64 (IntKind.u64.wrap (-(m : Int))) = wrap64 ((wrap64 (-(wrap64 (IntKind.u64.wrap ((m : Int) - 1))))) - 1) := by
  rw [u64_wrap_eq, u64_wrap_eq]
  unfold wrap64
  omega

def rneg (p : Int × Bool) : Option (Int × Bool) := if p.2 = true then (if p.1 = 0 then (some (0, false)) else (some (wrap64 ((wrap64 (-(wrap64 (IntKind.u64.wrap (p.1 - 1))))) - 1), true))) else (some (0, false))
theorem rneg_no : rneg (0, false) = some (0, false) := rfl
theorem rneg_is (r : List UInt8) : rneg (nspec 9223372036854775808 r) = some (tailS true r) := by
  unfold nspec tailS
  cases r with
  | nil => rfl
  | cons d r =>
    by_cases z : d = 48
    · subst z
      have b1 : badB true (48 :: r) = true := by simp [badB]
      rw [b1, if_pos rfl]
      cases r with
      | nil => rfl
      | cons c r =>
        have b2 : badB false (48 :: c :: r) = true := by simp [badB]
        rw [b2, if_pos rfl]
        rfl
    · have b1 : badB true (d :: r) = badB false (d :: r) := by
        have e : (d == 48) = false := beq_eq_false_iff_ne.2 z
        simp only [badB, e, Bool.false_and]
      rw [b1]
      cases badB false (d :: r) with
      | true => rfl
      | false =>
        rw [if_neg Bool.noConfusion, if_neg Bool.noConfusion]
        cases hs : scan (d :: r) 0 with
        | none => rfl
        | some m =>
          have hm := scan_pos d r m z hs
          simp only [ends, nfin, fin]
          by_cases q : m > 9223372036854775808
          · rw [if_pos q, if_pos q]
            rfl
          · rw [if_neg q, if_neg q]
            unfold rneg
            rw [if_pos rfl, if_neg (show ¬ (m : Int) = 0 by omega), neg_val m hm (by omega)]

theorem ref_parse_is (l : List UInt8) (k : Nat) (hk : l.length + 21 < k) : fullingref1_Parse.f k (mkS l) = some (pspec l) := by
  obtain ⟨k, rfl⟩ : ∃ m, k = m + 1 := ⟨k - 1, by omega⟩
  have pos : ∀ l : List UInt8, l.length + 20 < k → fullingref1_Parse.j0 (k + 1) (mkS l) true = some (tailS false l) := by
    intro l hk
    simp only [fullingref1_Parse.j0]
    rw [if_pos trivial]
    have := number_is l 9223372036854775807 k hk
    have e : ((9223372036854775807 : Nat) : Int) = 9223372036854775807 := rfl
    rw [e] at this
    rw [this, Option.bind_some]
    unfold nspec tailS
    have w0 : wrap64 0 = 0 := wrap_id (by unfold I64; omega)
    by_cases c : badB false l = true
    · rw [if_pos c, if_pos c, w0]
    · rw [if_neg c, if_neg c]
      cases scan l 0 with
      | none => simp [ends, w0]
      | some m =>
        simp only [ends, nfin, fin]
        by_cases d : m > 9223372036854775807
        · rw [if_pos d, if_pos d, w0]
        · rw [if_neg d, if_neg d]
  unfold fullingref1_Parse.f pspec
  rw [mkS_toList]
  cases l with
  | nil =>
    rw [if_pos rfl, if_neg (by simp)]
    exact pos [] (by simp at hk ⊢; omega)
  | cons c r =>
    have hb : bt (mkS (c :: r)) 0 = (c.toNat : Int) := mkS_bt (c :: r) 0 (by simp)
    rw [if_neg (by simp), mkS_size, if_pos (by simp <;> omega), hb]
    by_cases h : c = 45
    · subst h
      rw [if_pos (show (45 :: r).head? = some 45 from rfl)]
      have e : ((((45 : UInt8).toNat : Nat) : Int) != 45) = false := rfl
      rw [e]
      simp only [fullingref1_Parse.j0]
      rw [if_neg Bool.noConfusion, mkS_tail, mkS_size, if_pos (by simp <;> omega)]
      have := number_is r 9223372036854775808 k (by simp at hk; omega)
      have e : ((9223372036854775808 : Nat) : Int) = 9223372036854775808 := rfl
      rw [e] at this
      rw [show (45 :: r).drop 1 = r from rfl, this, Option.bind_some]
      exact rneg_is r
    · have e : (((c.toNat : Nat) : Int) != 45) = true := by
        cases q : (((c.toNat : Nat) : Int) == 45)
        · simp [bne, q]
        · exact absurd ((byte45 c).1 q) h
      rw [e, if_neg (by simp [h])]
      exact pos (c :: r) (by omega)
end Go.Proofs.Ytlilbddpelbngaa.M
