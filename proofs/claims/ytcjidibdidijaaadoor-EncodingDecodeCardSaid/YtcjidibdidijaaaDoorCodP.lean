/- Words and instructions: what is decoded is what was encoded, and nothing else is decoded. -/
import Derived.Test.YtcjidibdidijaaaDoorDecP
namespace Go.Proofs.YtcjidibdidijaaaDoor
open Go.RowKit Go.Proofs.YtcjidibdidijaaaDoor.PCod Go.Proofs.YtcjidibdidijaaaDoorW.PrintWords Go.Proofs.YtcjidibdidijaaaDoorW.PrintMore
set_option linter.unusedVariables false
set_option linter.unusedSimpArgs false

theorem rd_app (p l : List Int) (j : Nat) : rd (p ++ l) ((p.length + j : Nat) : Int) = rd l (j : Int) := by
  unfold rd
  rw [Int.toNat_natCast, Int.toNat_natCast, List.getD_eq_getElem?_getD, List.getD_eq_getElem?_getD, List.getElem?_append_right (by omega), Nat.add_sub_cancel_left]
theorem drop_rd (w : List Int) (a : Nat) (h : a < w.length) : w.drop a = rd w a :: w.drop (a + 1) := by
  rw [rd_nat w a h]
  exact List.drop_eq_getElem_cons h
/-- A valid instruction's words are decoded to it. -/
theorem ok_here (p q : List Int) (i : S42) (hv : vI i = true) : okD (p ++ (wI i ++ q)) (p.length : Int) ∧ decI (p ++ (wI i ++ q)) (p.length : Int) = i ∧ sizeI (rd (p ++ (wI i ++ q)) (p.length : Int) % 64) = (wI i).length := by
  have hV := vI_val hv
  have hw : wI i = _ := appW_eq hV
  have hl := wI_len hv
  have e0 : rd (p ++ (wI i ++ q)) (p.length : Int) = word1 i.f0 i.f1 i.f2 i.f3 i.f4 := by
    have := rd_app p (wI i ++ q) 0
    rw [Nat.add_zero] at this
    rw [this, hw]
    split <;> rfl
  have e1 : formOf i.f0 = 6 → rd (p ++ (wI i ++ q)) ((p.length : Int) + 1) = i.f4 % 4294967296 := by
    intro h6
    have := rd_app p (wI i ++ q) 1
    rw [show (((p.length + 1 : Nat)) : Int) = (p.length : Int) + 1 by omega] at this
    rw [this, hw, if_pos h6]
    rfl
  have e2 : formOf i.f0 = 6 → rd (p ++ (wI i ++ q)) ((p.length : Int) + 2) = i.f4 % 18446744073709551616 / 4294967296 := by
    intro h6
    have := rd_app p (wI i ++ q) 2
    rw [show (((p.length + 2 : Nat)) : Int) = (p.length : Int) + 2 by omega] at this
    rw [this, hw, if_pos h6]
    rfl
  have hm := word1_mod hV
  have hs : sizeI (rd (p ++ (wI i ++ q)) (p.length : Int) % 64) = (wI i).length := by
    rw [e0, hm, hl]
    unfold sizeI
    split <;> rfl
  have hi : decI (p ++ (wI i ++ q)) (p.length : Int) = i := by
    obtain ⟨k1, k2, k3, k4⟩ := fields_back hV (rd (p ++ (wI i ++ q)) ((p.length : Int) + 1)) (rd (p ++ (wI i ++ q)) ((p.length : Int) + 2)) e1 e2
    unfold decI
    rw [e0, hm, k1, k2, k3, k4]
  refine ⟨⟨by omega, ?_, by rw [hi]; exact hv, by rw [hi, e0]⟩, hi, hs⟩
  rw [hs]
  simp only [List.length_append]
  omega
/-- What is decoded: its words stand there. -/
theorem ok_words (w : List Int) (hw : u32s w) (a : Nat) (h : okD w a) : vI (decI w a) = true ∧ sizeI (rd w a % 64) = (wI (decI w a)).length ∧ a < w.length ∧ w.drop a = wI (decI w a) ++ w.drop (a + (wI (decI w a)).length) := by
  obtain ⟨h0, h1, hv, hx⟩ := h
  have hV := vI_val hv
  have hl := wI_len hv
  have hwi : wI (decI w a) = _ := appW_eq hV
  have hf : (decI w a).f0 = rd w a % 64 := rfl
  have hs : sizeI (rd w a % 64) = (wI (decI w a)).length := by
    rw [hl, hf]
    unfold sizeI
    split <;> rfl
  have h3 := wI_len3 hv
  refine ⟨hv, hs, by omega, ?_⟩
  by_cases h6 : formOf (rd w a % 64) = 6
  · have hl3 : (wI (decI w a)).length = 3 := by rw [hl, hf, if_pos h6]
    rw [hl3] at hs ⊢
    rw [hwi, hf, if_pos h6, ← hf, hx]
    have hn : (decI w a).f4 = wrap64 (rd w ((a : Int) + 1) + rd w ((a : Int) + 2) * 4294967296) := cN_6 h6
    obtain ⟨n1, n2⟩ := wide_lo _ _ (rd_u32 hw ((a : Int) + 1)) (rd_u32 hw ((a : Int) + 2))
    rw [hn, n1, n2, drop_rd w a (by omega), drop_rd w (a + 1) (by omega), drop_rd w (a + 1 + 1) (by omega)]
    rfl
  · have hl1 : (wI (decI w a)).length = 1 := by rw [hl, hf, if_neg h6]
    rw [hl1, hwi, hf, if_neg h6, ← hf, hx, drop_rd w a (by omega)]
    rfl

/-! ### all instructions -/
def decA (w : List Int) : Nat → Nat → Option (List S42)
  | 0, _ => some []
  | n + 1, a => if a < w.length then (if okD w a then (decA w n (a + (wI (decI w a)).length)).map (decI w a :: ·) else none) else some []
def starts : Nat → List S42 → List Int
  | _, [] => []
  | a, i :: t => (a : Int) :: starts (a + (wI i).length) t
theorem decA_iff (w : List Int) (hw : u32s w) : ∀ (n a : Nat) (l : List S42), a ≤ w.length → w.length - a < n → (decA w n a = some l ↔ l.all vI = true ∧ w.drop a = l.flatMap wI)
  | 0, a, l, ha, hn => by omega
  | n + 1, a, l, ha, hn => by
    rw [decA]
    by_cases hlt : a < w.length
    · rw [if_pos hlt]
      by_cases hk : okD w a
      · obtain ⟨hv, hs, _, hd⟩ := ok_words w hw a hk
        have h3 := wI_len3 hv
        have hle := hk.2.1
        have ih := fun t => decA_iff w hw n (a + (wI (decI w a)).length) t (by omega) (by omega)
        rw [if_pos hk]
        constructor
        · intro h
          obtain ⟨t, ht, rfl⟩ := Option.map_eq_some_iff.1 h
          obtain ⟨i1, i2⟩ := (ih t).1 ht
          exact ⟨by rw [List.all_cons, hv, i1]; rfl, by rw [List.flatMap_cons, ← i2]; exact hd⟩
        · rintro ⟨h1, h2⟩
          cases l with
          | nil =>
            have := congrArg List.length h2
            simp at this
            omega
          | cons i t =>
            rw [List.all_cons, Bool.and_eq_true] at h1
            have hw' : w = w.take a ++ (wI i ++ t.flatMap wI) := by rw [← List.flatMap_cons, ← h2, List.take_append_drop]
            have hla : (w.take a).length = a := by rw [List.length_take]; omega
            obtain ⟨o1, o2, o3⟩ := ok_here (w.take a) (t.flatMap wI) i h1.1
            rw [← hw', hla] at o1 o2 o3
            rw [o2]
            have hdt : w.drop (a + (wI i).length) = t.flatMap wI := by
              rw [← List.drop_drop, h2, List.flatMap_cons, List.drop_left]
            have hvi := hle
            rw [o3] at hvi
            rw [(decA_iff w hw n (a + (wI i).length) t (by omega) (by have := wI_len3 h1.1; omega)).2 ⟨h1.2, hdt⟩]
            rfl
      · rw [if_neg hk]
        constructor
        · intro h; cases h
        · rintro ⟨h1, h2⟩
          cases l with
          | nil =>
            have := congrArg List.length h2
            simp at this
            omega
          | cons i t =>
            rw [List.all_cons, Bool.and_eq_true] at h1
            have hw' : w = w.take a ++ (wI i ++ t.flatMap wI) := by rw [← List.flatMap_cons, ← h2, List.take_append_drop]
            have hla : (w.take a).length = a := by rw [List.length_take]; omega
            obtain ⟨o1, o2, o3⟩ := ok_here (w.take a) (t.flatMap wI) i h1.1
            rw [← hw', hla] at o1
            exact absurd o1 hk
    · rw [if_neg hlt]
      have hd : w.drop a = [] := List.drop_eq_nil_of_le (by omega)
      rw [hd]
      constructor
      · intro h
        injection h with h
        subst h
        exact ⟨rfl, rfl⟩
      · rintro ⟨h1, h2⟩
        cases l with
        | nil => rfl
        | cons i t =>
          rw [List.all_cons, Bool.and_eq_true] at h1
          have := wI_len3 h1.1
          have := congrArg List.length h2
          simp only [List.flatMap_cons, List.length_append, List.length_nil] at this
          omega
/-- What DecodeAll hands back. -/
def decR (w : List Int) : List S42 × List Int × Int := match decA w (w.length + 1) 0 with | none => ([], [], 204) | some l => (l, starts 0 l, 0)
theorem decR_flat (l : List S42) (h : l.all vI = true) : decR (l.flatMap wI) = (l, starts 0 l, 0) := by
  unfold decR
  rw [(decA_iff (l.flatMap wI) (flat_u32 l h) _ 0 l (by omega) (by omega)).2 ⟨h, rfl⟩]
theorem decR_ok (w : List Int) (hw : u32s w) (h : (decR w).2.2 = 0) : (decR w).1.all vI = true ∧ w = (decR w).1.flatMap wI ∧ (decR w).2.1 = starts 0 (decR w).1 := by
  unfold decR at h ⊢
  cases e : decA w (w.length + 1) 0 with
  | none => rw [e] at h; cases h
  | some l =>
    have := (decA_iff w hw _ 0 l (by omega) (by omega)).1 e
    exact ⟨this.1, this.2, rfl⟩
theorem starts_len : ∀ (a : Nat) (l : List S42), (starts a l).length = l.length
  | _, [] => rfl
  | a, i :: t => by rw [starts, List.length_cons, List.length_cons, starts_len]
theorem starts_get : ∀ (a : Nat) (l : List S42) (k : Nat) (h : k < l.length), rd (starts a l) (k : Int) = ((a + ((l.take k).flatMap wI).length : Nat) : Int)
  | a, i :: t, 0, h => by simp [starts, rd]
  | a, i :: t, k + 1, h => by
    have := starts_get (a + (wI i).length) t k (by simp at h; omega)
    rw [starts, List.take_succ_cons, List.flatMap_cons, List.length_append, ← Nat.add_assoc, ← this]
    unfold rd
    rw [Int.toNat_natCast, Int.toNat_natCast]
    rfl
end Go.Proofs.YtcjidibdidijaaaDoor
