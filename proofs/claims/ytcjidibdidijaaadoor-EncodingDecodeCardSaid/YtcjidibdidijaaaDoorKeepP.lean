/- Generated instructions are valid. -/
import Derived.Test.YtcjidibdidijaaaDoorEncP
import Derived.Test.YtcjidibdidijaaaDoorInsD
import Derived.Test.YtcjidibdidijaaaDoorCIns
namespace Go.Proofs.YtcjidibdidijaaaDoor
open Go.RowKit Go.Proofs.YtcjidibdidijaaaDoor.PCod Go.Proofs.YtcjidibdidijaaaDoorW.PrintWords Go.Proofs.YtcjidibdidijaaaDoorW.PrintMore
set_option linter.unusedVariables false
set_option linter.unusedSimpArgs false

theorem i64_wf {x : Int} (h : (Lit.int .i64 x).wf = true) : -9223372036854775808 ≤ x ∧ x ≤ 9223372036854775807 := by
  simp only [Lit.wf, Bool.and_eq_true, decide_eq_true_eq] at h
  have h1 : IntKind.i64.min = -9223372036854775808 := rfl
  have h2 : IntKind.i64.max = 9223372036854775807 := rfl
  omega
theorem wrap64_range (x : Int) : -9223372036854775808 ≤ wrap64 x ∧ wrap64 x ≤ 9223372036854775807 := by unfold wrap64; omega
theorem wordN_range (n raw : Int) (h : -9223372036854775808 ≤ raw ∧ raw ≤ 9223372036854775807) : -9223372036854775808 ≤ wordN n raw ∧ wordN n raw ≤ 9223372036854775807 := by
  unfold wordN
  split
  · have hr := pickN_range n 24 (by omega) (by omega)
    have : pickN n 24 = 0 ∨ pickN n 24 = 1 ∨ pickN n 24 = 2 ∨ pickN n 24 = 3 ∨ pickN n 24 = 4 ∨ pickN n 24 = 5 ∨ pickN n 24 = 6 ∨ pickN n 24 = 7 ∨ pickN n 24 = 8 ∨ pickN n 24 = 9 := by omega
    rcases this with h | h | h | h | h | h | h | h | h | h <;> rw [h] <;> decide
  · split
    · exact wrap64_range _
    · exact h
def mkI (n : Int) : S42 := ⟨(instrF n).1, (instrF n).2.1, (instrF n).2.2.1, (instrF n).2.2.2.1, (instrF n).2.2.2.2⟩
theorem instrD_val (op n : Int) (h1 : 1 ≤ op) (h2 : op ≤ 37) (hn : -9223372036854775808 ≤ n ∧ n ≤ 9223372036854775807) : Val (instrD op n).1 (instrD op n).2.1 (instrD op n).2.2.1 (instrD op n).2.2.2.1 (instrD op n).2.2.2.2 := by
  have p8 : ∀ x, 0 ≤ pickN x 8 ∧ pickN x 8 < 8 := fun x => pickN_range x 8 (by omega) (by omega)
  have p3 : ∀ x, 0 ≤ pickN x 3 ∧ pickN x 3 < 3 := fun x => pickN_range x 3 (by omega) (by omega)
  have p2 : ∀ x, 0 ≤ pickN x 2 ∧ pickN x 2 < 2 := fun x => pickN_range x 2 (by omega) (by omega)
  have p40 : ∀ x, 0 ≤ pickN x 40 ∧ pickN x 40 < 40 := fun x => pickN_range x 40 (by omega) (by omega)
  have p6 : ∀ x, 0 ≤ pickN x 6 ∧ pickN x 6 < 6 := fun x => pickN_range x 6 (by omega) (by omega)
  have p15 : ∀ x, 0 ≤ pickN x 15 ∧ pickN x 15 < 15 := fun x => pickN_range x 15 (by omega) (by omega)
  have pw : ∀ x, -9223372036854775808 ≤ wordN x n ∧ wordN x n ≤ 9223372036854775807 := fun x => wordN_range x n hn
  generalize hd1 : nextN n 37 = d1
  have w40 : ∀ x, wrap64 (1 + pickN x 40) = 1 + pickN x 40 := fun x => by have := p40 x; unfold wrap64; omega
  have w15 : ∀ x, wrap64 (pickN x 15 - 6) = pickN x 15 - 6 := fun x => by have := p15 x; unfold wrap64; omega
  have h : op = 1 ∨ op = 2 ∨ op = 3 ∨ op = 4 ∨ op = 5 ∨ op = 6 ∨ op = 7 ∨ op = 8 ∨ op = 9 ∨ op = 10 ∨ op = 11 ∨ op = 12 ∨ op = 13 ∨ op = 14 ∨ op = 15 ∨ op = 16 ∨ op = 17 ∨ op = 18 ∨ op = 19 ∨ op = 20 ∨ op = 21 ∨ op = 22 ∨ op = 23 ∨ op = 24 ∨ op = 25 ∨ op = 26 ∨ op = 27 ∨ op = 28 ∨ op = 29 ∨ op = 30 ∨ op = 31 ∨ op = 32 ∨ op = 33 ∨ op = 34 ∨ op = 35 ∨ op = 36 ∨ op = 37 := by omega
  unfold instrD Val
  rw [hd1]
  rcases h with rfl | rfl | rfl | rfl | rfl | rfl | rfl | rfl | rfl | rfl | rfl | rfl | rfl | rfl | rfl | rfl | rfl | rfl | rfl | rfl | rfl | rfl | rfl | rfl | rfl | rfl | rfl | rfl | rfl | rfl | rfl | rfl | rfl | rfl | rfl | rfl | rfl
  · simp [fo_1, hasA, hasB, hasC, hasN, loN, hiN, w40, w15] <;> omega
  · simp [fo_2, hasA, hasB, hasC, hasN, loN, hiN, w40, w15] <;> omega
  · simp [fo_3, hasA, hasB, hasC, hasN, loN, hiN, w40, w15] <;> omega
  · have q0 := p40 d1; simp [fo_4, hasA, hasB, hasC, hasN, loN, hiN, w40, w15] <;> omega
  · have q0 := p15 d1; simp [fo_5, hasA, hasB, hasC, hasN, loN, hiN, w40, w15] <;> omega
  · have q0 := p8 d1; have q1 := p3 (nextN d1 8); have q2 := p2 (nextN (nextN d1 8) 3); simp [fo_6, hasA, hasB, hasC, hasN, loN, hiN, w40, w15] <;> omega
  · have q0 := p8 d1; have q1 := p15 (nextN d1 8); simp [fo_7, hasA, hasB, hasC, hasN, loN, hiN, w40, w15] <;> omega
  · have q0 := p8 d1; have q1 := p15 (nextN d1 8); simp [fo_8, hasA, hasB, hasC, hasN, loN, hiN, w40, w15] <;> omega
  · have q0 := p8 d1; simp [fo_9, hasA, hasB, hasC, hasN, loN, hiN, w40, w15] <;> omega
  · have q0 := p8 d1; have q1 := p8 (nextN d1 8); simp [fo_10, hasA, hasB, hasC, hasN, loN, hiN, w40, w15] <;> omega
  · have q0 := p8 d1; have q1 := p8 (nextN d1 8); have q2 := p8 (nextN (nextN d1 8) 8); simp [fo_11, hasA, hasB, hasC, hasN, loN, hiN, w40, w15] <;> omega
  · have q0 := p8 d1; have q1 := p8 (nextN d1 8); have q2 := p8 (nextN (nextN d1 8) 8); simp [fo_12, hasA, hasB, hasC, hasN, loN, hiN, w40, w15] <;> omega
  · have q0 := p8 d1; have q1 := p15 (nextN d1 8); simp [fo_13, hasA, hasB, hasC, hasN, loN, hiN, w40, w15] <;> omega
  · have q0 := p8 d1; have q1 := pw (pickN (nextN d1 8) 500); simp [fo_14, hasA, hasB, hasC, hasN, loN, hiN, w40, w15] <;> omega
  · have q0 := p8 d1; simp [fo_15, hasA, hasB, hasC, hasN, loN, hiN, w40, w15] <;> omega
  · have q0 := p8 d1; simp [fo_16, hasA, hasB, hasC, hasN, loN, hiN, w40, w15] <;> omega
  · have q0 := p8 d1; have q1 := p8 (nextN d1 8); simp [fo_17, hasA, hasB, hasC, hasN, loN, hiN, w40, w15] <;> omega
  · have q0 := p8 d1; have q1 := p8 (nextN d1 8); simp [fo_18, hasA, hasB, hasC, hasN, loN, hiN, w40, w15] <;> omega
  · have q0 := p8 d1; have q1 := p8 (nextN d1 8); simp [fo_19, hasA, hasB, hasC, hasN, loN, hiN, w40, w15] <;> omega
  · have q0 := p8 d1; have q1 := p8 (nextN d1 8); simp [fo_20, hasA, hasB, hasC, hasN, loN, hiN, w40, w15] <;> omega
  · have q0 := p8 d1; have q1 := p8 (nextN d1 8); simp [fo_21, hasA, hasB, hasC, hasN, loN, hiN, w40, w15] <;> omega
  · have q0 := p8 d1; have q1 := p8 (nextN d1 8); simp [fo_22, hasA, hasB, hasC, hasN, loN, hiN, w40, w15] <;> omega
  · have q0 := p8 d1; have q1 := p8 (nextN d1 8); simp [fo_23, hasA, hasB, hasC, hasN, loN, hiN, w40, w15] <;> omega
  · have q0 := p8 d1; have q1 := p8 (nextN d1 8); simp [fo_24, hasA, hasB, hasC, hasN, loN, hiN, w40, w15] <;> omega
  · have q0 := p8 d1; have q1 := p8 (nextN d1 8); simp [fo_25, hasA, hasB, hasC, hasN, loN, hiN, w40, w15] <;> omega
  · have q0 := p8 d1; have q1 := p8 (nextN d1 8); simp [fo_26, hasA, hasB, hasC, hasN, loN, hiN, w40, w15] <;> omega
  · have q0 := p8 d1; have q1 := p8 (nextN d1 8); simp [fo_27, hasA, hasB, hasC, hasN, loN, hiN, w40, w15] <;> omega
  · have q0 := p8 d1; have q1 := p8 (nextN d1 8); simp [fo_28, hasA, hasB, hasC, hasN, loN, hiN, w40, w15] <;> omega
  · have q0 := p8 d1; have q1 := p8 (nextN d1 8); simp [fo_29, hasA, hasB, hasC, hasN, loN, hiN, w40, w15] <;> omega
  · have q0 := p8 d1; have q1 := p8 (nextN d1 8); simp [fo_30, hasA, hasB, hasC, hasN, loN, hiN, w40, w15] <;> omega
  · have q0 := p8 d1; have q1 := p8 (nextN d1 8); simp [fo_31, hasA, hasB, hasC, hasN, loN, hiN, w40, w15] <;> omega
  · have q0 := p8 d1; have q1 := p8 (nextN d1 8); simp [fo_32, hasA, hasB, hasC, hasN, loN, hiN, w40, w15] <;> omega
  · have q0 := p8 d1; have q1 := p15 (nextN d1 8); simp [fo_33, hasA, hasB, hasC, hasN, loN, hiN, w40, w15] <;> omega
  · have q0 := p8 d1; have q1 := p8 (nextN d1 8); have q2 := p2 (nextN (nextN d1 8) 8); simp [fo_34, hasA, hasB, hasC, hasN, loN, hiN, w40, w15] <;> omega
  · have q0 := p8 d1; have q1 := p8 (nextN d1 8); have q2 := p2 (nextN (nextN d1 8) 8); simp [fo_35, hasA, hasB, hasC, hasN, loN, hiN, w40, w15] <;> omega
  · have q0 := p8 d1; have q1 := p6 (nextN d1 8); simp [fo_36, hasA, hasB, hasC, hasN, loN, hiN, w40, w15] <;> omega
  · have q0 := p8 d1; have q1 := p6 (nextN d1 8); simp [fo_37, hasA, hasB, hasC, hasN, loN, hiN, w40, w15] <;> omega
theorem mkI_valid (n : Int) (hn : -9223372036854775808 ≤ n ∧ n ≤ 9223372036854775807) : vI (mkI n) = true := by
  have hr := pickN_range n 37 (by omega) (by omega)
  exact decide_eq_true (instrD_val (pickN n 37 + 1) n (by omega) (by omega) hn)
def mkL (l : List Int) (m : Nat) : List S42 := (l.take m).map mkI
theorem mkL_valid (l : List Int) (m : Nat) (h : ∀ x ∈ l, (Lit.int .i64 x).wf = true) : (mkL l m).all vI = true := by
  rw [List.all_eq_true]
  intro i hi
  obtain ⟨n, hn, rfl⟩ := List.mem_map.1 hi
  exact mkI_valid n (i64_wf (h n (List.mem_of_mem_take hn)))
theorem mkL_len (l : List Int) (m : Nat) : (mkL l m).length = min m l.length := by simp [mkL]
theorem instrs_loop (l : List Int) (m : Nat) (hm : m < 1000000) : ∀ (d j : Nat) (acc : List S42), min m l.length - j = d → j ≤ min m l.length → acc.length = j →
    Ev (fun k => fullingkeep2_Instrs.l0 k l (m : Int) acc (j : Int)) (acc ++ (mkL l m).drop j)
  | 0, j, acc, hd, hj, ha => by
    have e : (mkL l m).drop j = [] := List.drop_eq_nil_of_le (by rw [mkL_len]; omega)
    rw [e, List.append_nil]
    refine Ev.step (f := fun _ => some acc) (fun k => ?_) (Ev.now _)
    rw [fullingkeep2_Instrs.l0]
    by_cases c : (j : Int) < l.length
    · rw [if_pos c, if_neg (by omega)]
    · rw [if_neg c]
  | d + 1, j, acc, hd, hj, ha => by
    have hlt : j < (mkL l m).length := by rw [mkL_len]; omega
    have e : (mkL l m).drop j = (mkL l m)[j] :: (mkL l m).drop (j + 1) := List.drop_eq_getElem_cons hlt
    have hg : (mkL l m)[j] = mkI (rd l (j : Int)) := by
      rw [rd_nat l j (by omega)]
      simp [mkL]
    have ih := instrs_loop l m hm d (j + 1) (acc ++ [mkI (rd l (j : Int))]) (by omega) (by omega) (by simp [ha])
    rw [e, hg]
    rw [List.append_assoc] at ih
    refine Ev.step (fun k => ?_) ih
    rw [fullingkeep2_Instrs.l0, if_pos (by omega), if_pos (by omega), if_pos (by omega)]
    have h1 : fullingkeep2_Instr.f (rd l (j : Int)) = some (instrF (rd l (j : Int))) := rfl
    rw [h1, Option.bind_some, if_pos (by omega), wrap_succ j (by omega)]
    rfl
theorem instrs_ev (l : List Int) (m : Nat) (hm : m < 1000000) : Ev (fun k => fullingkeep2_Instrs.f k l (m : Int)) (mkL l m) := by
  have h := instrs_loop l m hm _ 0 [] rfl (by omega) rfl
  rw [List.drop_zero, List.nil_append] at h
  exact h
theorem sameI_loop (l : List S42) (hl : l.length < 9223372036854775807) : ∀ (d j : Nat), l.length - j = d → j ≤ l.length → Ev (fun k => fullingref32_SameInstrs.l0 k l l (j : Int)) true
  | 0, j, hd, hj => by
    refine Ev.step (f := fun _ => some true) (fun k => ?_) (Ev.now _)
    rw [fullingref32_SameInstrs.l0, if_neg (by omega)]
  | d + 1, j, hd, hj => by
    refine Ev.step (fun k => ?_) (sameI_loop l hl d (j + 1) (by omega) (by omega))
    rw [fullingref32_SameInstrs.l0, if_pos (by omega), if_pos (by omega), if_pos (by omega), if_neg (by simp), wrap_succ j (by omega)]
theorem sameI_ev (l : List S42) (hl : l.length < 9223372036854775807) : Ev (fun k => fullingref32_SameInstrs.f k l l) true := by
  refine Ev.congr (fun k => ?_) (sameI_loop l hl _ 0 rfl (by omega))
  show fullingref32_SameInstrs.f k l l = _
  unfold fullingref32_SameInstrs.f
  rw [if_pos rfl]
  rfl
theorem sameW_loop (l : List Int) (hl : l.length < 9223372036854775807) : ∀ (d j : Nat), l.length - j = d → j ≤ l.length → Ev (fun k => fullingref32_SameWords.l0 k l l (j : Int)) true
  | 0, j, hd, hj => by
    refine Ev.step (f := fun _ => some true) (fun k => ?_) (Ev.now _)
    rw [fullingref32_SameWords.l0, if_neg (by omega)]
  | d + 1, j, hd, hj => by
    refine Ev.step (fun k => ?_) (sameW_loop l hl d (j + 1) (by omega) (by omega))
    rw [fullingref32_SameWords.l0, if_pos (by omega), if_pos (by omega), if_pos (by omega), if_pos rfl, wrap_succ j (by omega)]
theorem sameW_ev (l : List Int) (hl : l.length < 9223372036854775807) : Ev (fun k => fullingref32_SameWords.f k l l) true := by
  refine Ev.congr (fun k => ?_) (sameW_loop l hl _ 0 rfl (by omega))
  show fullingref32_SameWords.f k l l = _
  unfold fullingref32_SameWords.f
  rw [if_pos rfl]
  rfl
end Go.Proofs.YtcjidibdidijaaaDoor
