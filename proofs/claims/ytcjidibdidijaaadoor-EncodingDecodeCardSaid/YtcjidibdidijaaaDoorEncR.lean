/- fullingref29.Encode in plain words: what encoding.Encode hands back. -/
import Derived.Test.YtcjidibdidijaaaDoorEncP
import Derived.Test.YtcjidibdidijaaaDoorCREn
namespace Go.Proofs.YtcjidibdidijaaaDoor
open Go.RowKit Go.Proofs.YtcjidibdidijaaaDoor.PCod Go.Proofs.YtcjidibdidijaaaDoorW.PrintWords Go.Proofs.YtcjidibdidijaaaDoorW.PrintMore
set_option linter.unusedVariables false
set_option linter.unusedSimpArgs false

theorem mask26 : IntKind.u64.wrap (shl .u64 1 26 - 1) = ((2 ^ 26 - 1 : Nat) : Int) := by decide +kernel
theorem mask23 : IntKind.u64.wrap (shl .u64 1 23 - 1) = ((2 ^ 23 - 1 : Nat) : Int) := by decide +kernel
theorem mask20 : IntKind.u64.wrap (shl .u64 1 20 - 1) = ((2 ^ 20 - 1 : Nat) : Int) := by decide +kernel
theorem imm26 (n : Int) : shl .u32 ((Go.bits .and .u64 (IntKind.u64.wrap n) (IntKind.u64.wrap (shl .u64 1 26 - 1))) % 4294967296) 6 = n % 67108864 * 64 := by
  rw [mask26, and64_mask _ 26 (by omega) (by rw [u64w]; omega) (by rw [u64w]; omega), u64w, shl32 _ 6 6 rfl (by omega)]
  show n % 18446744073709551616 % 67108864 % 4294967296 * 64 % 4294967296 = _
  omega
theorem imm23 (n : Int) : shl .u32 ((Go.bits .and .u64 (IntKind.u64.wrap n) (IntKind.u64.wrap (shl .u64 1 23 - 1))) % 4294967296) 9 = n % 8388608 * 512 := by
  rw [mask23, and64_mask _ 23 (by omega) (by rw [u64w]; omega) (by rw [u64w]; omega), u64w, shl32 _ 9 9 rfl (by omega)]
  show n % 18446744073709551616 % 8388608 % 4294967296 * 512 % 4294967296 = _
  omega
theorem imm20 (n : Int) : shl .u32 ((Go.bits .and .u64 (IntKind.u64.wrap n) (IntKind.u64.wrap (shl .u64 1 20 - 1))) % 4294967296) 12 = n % 1048576 * 4096 := by
  rw [mask20, and64_mask _ 20 (by omega) (by rw [u64w]; omega) (by rw [u64w]; omega), u64w, shl32 _ 12 12 rfl (by omega)]
  show n % 18446744073709551616 % 1048576 % 4294967296 * 4096 % 4294967296 = _
  omega
/-- One round. -/
theorem renc_step (l : List S42) (hl : 3 * l.length < 35184372088830) (j : Nat) (hlt : j < l.length) (acc : List Int) (ha : acc.length ≤ 3 * j) (hv : vI l[j] = true) (k : Nat) :
    fullingref29_Encode.l0 (k + 1) l acc (j : Int) = fullingref29_Encode.l0 k l (acc ++ wI l[j]) ((j + 1 : Nat) : Int) := by
  have hV := vI_val hv
  have hc := val_cases hV
  obtain ⟨h1, h2, a0, a1, b0, b1, c0, c1, n0, n1, hc⟩ := hc
  have hsum := word_sum l[j].f0 l[j].f1 l[j].f2 l[j].f3 (by omega) (by omega) a0 a1 b0 b1 c0 c1
  unfold wordOf at hsum
  have hs := wrap_succ j (by omega)
  have h3 : fullingref29_Valid.f l[j].f0 l[j].f1 l[j].f2 l[j].f3 l[j].f4 = some true := congrArg some hv
  have h4 : fullingref29_form.f l[j].f0 = some (formOf l[j].f0) := rfl
  have hw : wI l[j] = _ := appW_eq hV
  rw [fullingref29_Encode.l0, if_pos (by omega), if_pos (by omega), rd42 l j hlt, h3, Option.bind_some, if_pos rfl, h4, Option.bind_some, hw]
  unfold word1 fullingref29_field.f
  have h14 := formOf_iff6 l[j].f0
  rcases hc with ⟨hf, hc⟩ | ⟨hf, hc⟩ | ⟨hf, hc⟩ | ⟨hf, hc⟩ | ⟨hf, hc⟩ | ⟨hf, hc⟩ | ⟨hf, hc⟩ | ⟨hf, hc⟩ <;> rw [hf] at h14 ⊢ <;> simp only [Int.reduceEq, ↓reduceIte, Option.bind_some, Int.reduceLE, Int.reduceGT, Int.reduceLT, hsum, hs, imm26, imm23, imm20, Int.add_zero]
  · rw [if_pos (by omega), if_neg (by omega)]
  · rw [if_pos (by omega), if_neg (by omega)]
  · rw [if_pos (by omega), if_neg (by omega)]
  · rw [if_pos (by omega), if_neg (by omega)]
  · rw [if_pos (by omega), if_neg (by omega), or9 _ _ (by omega) (by omega) (by omega) (by omega)]
  · rw [if_pos (by omega), if_pos (by omega), if_pos (by simp only [List.length_append, List.length_cons, List.length_nil]; omega), List.append_assoc, u64w]
    rw [show l[j].f4 % 18446744073709551616 % 4294967296 = l[j].f4 % 4294967296 by omega, show l[j].f4 % 18446744073709551616 / 4294967296 % 4294967296 = l[j].f4 % 18446744073709551616 / 4294967296 by omega]
    rfl
  · rw [if_pos (by omega), if_neg (by omega), or12 _ _ (by omega) (by omega) (by omega) (by omega)]
  · rw [if_pos (by omega), if_neg (by omega), or6 _ _ (by omega) (by omega) (by omega) (by omega)]
theorem renc_loop (l : List S42) (hl : 3 * l.length < 35184372088830) : ∀ (d j : Nat) (acc : List Int), l.length - j = d → j ≤ l.length → acc.length ≤ 3 * j →
    Ev (fun k => fullingref29_Encode.l0 k l acc (j : Int)) (if (l.drop j).all vI then (acc ++ (l.drop j).flatMap wI, 0) else ([], 204))
  | 0, j, acc, hd, hj, ha => by
    obtain rfl : j = l.length := by omega
    refine Ev.step (f := fun _ => some (acc, 0)) (fun k => ?_) ?_
    · rw [fullingref29_Encode.l0, if_neg (by omega)]
    · rw [List.drop_length]
      simp only [List.all_nil, if_true, List.flatMap_nil, List.append_nil]
      exact Ev.now _
  | d + 1, j, acc, hd, hj, ha => by
    have hlt : j < l.length := by omega
    have e : l.drop j = l[j] :: l.drop (j + 1) := List.drop_eq_getElem_cons hlt
    by_cases hv : vI l[j] = true
    · have ih := renc_loop l hl d (j + 1) (acc ++ wI l[j]) (by omega) (by omega) (by have := wI_len3 hv; rw [List.length_append]; omega)
      rw [e]
      simp only [List.all_cons, hv, Bool.true_and, List.flatMap_cons]
      rw [← List.append_assoc]
      exact Ev.step (fun k => renc_step l hl j hlt acc ha hv k) ih
    · rw [e]
      have hv' : vI l[j] = false := by simpa using hv
      simp only [List.all_cons, hv', Bool.false_and, Bool.false_eq_true, if_false]
      refine Ev.step (f := fun _ => some ([], 204)) (fun k => ?_) (Ev.now _)
      have h1 : fullingref29_Valid.f l[j].f0 l[j].f1 l[j].f2 l[j].f3 l[j].f4 = some false := congrArg some hv'
      rw [fullingref29_Encode.l0, if_pos (by omega), if_pos (by omega), rd42 l j hlt, h1, Option.bind_some, if_neg (by decide)]
theorem renc_ev (l : List S42) (hl : 3 * l.length < 35184372088830) : Ev (fun k => fullingref29_Encode.f k l) (encL l) := by
  have h := renc_loop l hl l.length 0 [] (by omega) (by omega) (by simp)
  simp only [List.drop_zero, List.nil_append] at h
  exact h
end Go.Proofs.YtcjidibdidijaaaDoor
