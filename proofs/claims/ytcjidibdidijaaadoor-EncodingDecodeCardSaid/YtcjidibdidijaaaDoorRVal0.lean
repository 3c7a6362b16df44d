/- fullingref29.form, bounds, reg and Valid: what they hand back: what machine.Valid hands back. -/
import Derived.Test.YtcjidibdidijaaaDoorValid
import Derived.Lib.Hide
namespace Go.Proofs.YtcjidibdidijaaaDoor
set_option linter.unusedVariables false
set_option linter.unusedSimpArgs false
open Go.RowKit Go.Proofs.YtcjidibdidijaaaDoorW.PrintWords Go.Proofs.YtcjidibdidijaaaDoorW.PrintMore Go.Proofs.YtcjidibdidijaaaDoorW.PrintLast

set_option maxRecDepth 100000 in
set_option maxHeartbeats 4000000 in
theorem form_out (op : Int) (h : op < 1 ∨ op > 37) (w : World) : Calls Tryd.prog 67 #[.int .i64 op] w fun e w' => e = .returned (.int .i64 0) ∧ w = w' := by
  have q1 : (op == 1) = false := beq_eq_false_iff_ne.2 (by omega)
  have q2 : (op == 2) = false := beq_eq_false_iff_ne.2 (by omega)
  have q3 : (op == 3) = false := beq_eq_false_iff_ne.2 (by omega)
  have q4 : (op == 4) = false := beq_eq_false_iff_ne.2 (by omega)
  have q5 : (op == 5) = false := beq_eq_false_iff_ne.2 (by omega)
  have q6 : (op == 6) = false := beq_eq_false_iff_ne.2 (by omega)
  have q7 : (op == 7) = false := beq_eq_false_iff_ne.2 (by omega)
  have q8 : (op == 8) = false := beq_eq_false_iff_ne.2 (by omega)
  have q9 : (op == 9) = false := beq_eq_false_iff_ne.2 (by omega)
  have q10 : (op == 10) = false := beq_eq_false_iff_ne.2 (by omega)
  have q11 : (op == 11) = false := beq_eq_false_iff_ne.2 (by omega)
  have q12 : (op == 12) = false := beq_eq_false_iff_ne.2 (by omega)
  have q13 : (op == 13) = false := beq_eq_false_iff_ne.2 (by omega)
  have q14 : (op == 14) = false := beq_eq_false_iff_ne.2 (by omega)
  have q15 : (op == 15) = false := beq_eq_false_iff_ne.2 (by omega)
  have q16 : (op == 16) = false := beq_eq_false_iff_ne.2 (by omega)
  have q17 : (op == 17) = false := beq_eq_false_iff_ne.2 (by omega)
  have q18 : (op == 18) = false := beq_eq_false_iff_ne.2 (by omega)
  have q19 : (op == 19) = false := beq_eq_false_iff_ne.2 (by omega)
  have q20 : (op == 20) = false := beq_eq_false_iff_ne.2 (by omega)
  have q21 : (op == 21) = false := beq_eq_false_iff_ne.2 (by omega)
  have q22 : (op == 22) = false := beq_eq_false_iff_ne.2 (by omega)
  have q23 : (op == 23) = false := beq_eq_false_iff_ne.2 (by omega)
  have q24 : (op == 24) = false := beq_eq_false_iff_ne.2 (by omega)
  have q25 : (op == 25) = false := beq_eq_false_iff_ne.2 (by omega)
  have q26 : (op == 26) = false := beq_eq_false_iff_ne.2 (by omega)
  have q27 : (op == 27) = false := beq_eq_false_iff_ne.2 (by omega)
  have q28 : (op == 28) = false := beq_eq_false_iff_ne.2 (by omega)
  have q29 : (op == 29) = false := beq_eq_false_iff_ne.2 (by omega)
  have q30 : (op == 30) = false := beq_eq_false_iff_ne.2 (by omega)
  have q31 : (op == 31) = false := beq_eq_false_iff_ne.2 (by omega)
  have q32 : (op == 32) = false := beq_eq_false_iff_ne.2 (by omega)
  have q33 : (op == 33) = false := beq_eq_false_iff_ne.2 (by omega)
  have q34 : (op == 34) = false := beq_eq_false_iff_ne.2 (by omega)
  have q35 : (op == 35) = false := beq_eq_false_iff_ne.2 (by omega)
  have q36 : (op == 36) = false := beq_eq_false_iff_ne.2 (by omega)
  have q37 : (op == 37) = false := beq_eq_false_iff_ne.2 (by omega)
  by_cases c : op < 1
  · have d1 : decide (17 ≤ op) = false := decide_eq_false (by omega)
    have d2 : decide (op ≤ 32) = true := decide_eq_true (by omega)
    go_enter Tryd.func67, Tryd.ntmps67
    go_wp2
    go_ret
    exact ⟨rfl, rfl⟩
  · have d1 : decide (17 ≤ op) = true := decide_eq_true (by omega)
    have d2 : decide (op ≤ 32) = false := decide_eq_false (by omega)
    go_enter Tryd.func67, Tryd.ntmps67
    go_wp2
    go_ret
    exact ⟨rfl, rfl⟩
set_option maxRecDepth 100000 in
set_option maxHeartbeats 8000000 in
theorem form_in (op : Int) (h : op = 1 ∨ op = 2 ∨ op = 3 ∨ op = 4 ∨ op = 5 ∨ op = 6 ∨ op = 7 ∨ op = 8 ∨ op = 9 ∨ op = 10 ∨ op = 11 ∨ op = 12 ∨ op = 13 ∨ op = 14 ∨ op = 15 ∨ op = 16 ∨ op = 17 ∨ op = 18 ∨ op = 19 ∨ op = 20 ∨ op = 21 ∨ op = 22 ∨ op = 23 ∨ op = 24 ∨ op = 25 ∨ op = 26 ∨ op = 27 ∨ op = 28 ∨ op = 29 ∨ op = 30 ∨ op = 31 ∨ op = 32 ∨ op = 33 ∨ op = 34 ∨ op = 35 ∨ op = 36 ∨ op = 37) (w : World) : Calls Tryd.prog 67 #[.int .i64 op] w fun e w' => e = .returned (.int .i64 (formOf op)) ∧ w = w' := by
  rcases h with rfl | rfl | rfl | rfl | rfl | rfl | rfl | rfl | rfl | rfl | rfl | rfl | rfl | rfl | rfl | rfl | rfl | rfl | rfl | rfl | rfl | rfl | rfl | rfl | rfl | rfl | rfl | rfl | rfl | rfl | rfl | rfl | rfl | rfl | rfl | rfl | rfl
  all_goals
    go_enter Tryd.func67, Tryd.ntmps67
    go_wp2
    go_ret
    exact ⟨rfl, rfl⟩
theorem form_any (op : Int) (w : World) : Calls Tryd.prog 67 #[.int .i64 op] w fun e w' => e = .returned (.int .i64 (formOf op)) ∧ w = w' := by
  by_cases h : op < 1 ∨ op > 37
  · rw [formOf_out op h]; exact form_out op h w
  · exact form_in op (by omega) w
theorem form_calls (a0 r : Int) (w : World) (h : some (formOf a0) = some r) : Calls Tryd.prog 67 #[.int .i64 a0] w fun e w' => e = .returned (.int .i64 r) ∧ Drawn0 w w' := by
  obtain rfl := Option.some.inj h
  exact (form_any a0 w).mono (fun e w' ⟨a, b⟩ => ⟨a, 0, b ▸ rfl⟩)

def loR (op : Int) : Int := if hasN (formOf op) then loN op else 0
def hiR (op : Int) : Int := if hasN (formOf op) then hiN op else 0
set_option maxRecDepth 100000 in
set_option maxHeartbeats 8000000 in
theorem bounds_in (op : Int) (h : op = 1 ∨ op = 2 ∨ op = 3 ∨ op = 4 ∨ op = 5 ∨ op = 6 ∨ op = 7 ∨ op = 8 ∨ op = 9 ∨ op = 10 ∨ op = 11 ∨ op = 12 ∨ op = 13 ∨ op = 14 ∨ op = 15 ∨ op = 16 ∨ op = 17 ∨ op = 18 ∨ op = 19 ∨ op = 20 ∨ op = 21 ∨ op = 22 ∨ op = 23 ∨ op = 24 ∨ op = 25 ∨ op = 26 ∨ op = 27 ∨ op = 28 ∨ op = 29 ∨ op = 30 ∨ op = 31 ∨ op = 32 ∨ op = 33 ∨ op = 34 ∨ op = 35 ∨ op = 36 ∨ op = 37) (w : World) : Calls Tryd.prog 72 #[.int .i64 op] w fun e w' => e = .returned (.tuple #[.int .i64 (loR op), .int .i64 (hiR op)]) ∧ w = w' := by
  rcases h with rfl | rfl | rfl | rfl | rfl | rfl | rfl | rfl | rfl | rfl | rfl | rfl | rfl | rfl | rfl | rfl | rfl | rfl | rfl | rfl | rfl | rfl | rfl | rfl | rfl | rfl | rfl | rfl | rfl | rfl | rfl | rfl | rfl | rfl | rfl | rfl | rfl
  all_goals
    go_enter Tryd.func72, Tryd.ntmps72
    go_wp2
    go_ret2
    exact ⟨rfl, rfl⟩
set_option maxRecDepth 100000 in
set_option maxHeartbeats 4000000 in
theorem bounds_out (op : Int) (h : op < 1 ∨ op > 37) (w : World) : Calls Tryd.prog 72 #[.int .i64 op] w fun e w' => e = .returned (.tuple #[.int .i64 0, .int .i64 0]) ∧ w = w' := by
  have q1 : (op == 1) = false := beq_eq_false_iff_ne.2 (by omega)
  have q2 : (op == 2) = false := beq_eq_false_iff_ne.2 (by omega)
  have q3 : (op == 3) = false := beq_eq_false_iff_ne.2 (by omega)
  have q4 : (op == 4) = false := beq_eq_false_iff_ne.2 (by omega)
  have q5 : (op == 5) = false := beq_eq_false_iff_ne.2 (by omega)
  have q6 : (op == 6) = false := beq_eq_false_iff_ne.2 (by omega)
  have q7 : (op == 7) = false := beq_eq_false_iff_ne.2 (by omega)
  have q8 : (op == 8) = false := beq_eq_false_iff_ne.2 (by omega)
  have q9 : (op == 9) = false := beq_eq_false_iff_ne.2 (by omega)
  have q10 : (op == 10) = false := beq_eq_false_iff_ne.2 (by omega)
  have q11 : (op == 11) = false := beq_eq_false_iff_ne.2 (by omega)
  have q12 : (op == 12) = false := beq_eq_false_iff_ne.2 (by omega)
  have q13 : (op == 13) = false := beq_eq_false_iff_ne.2 (by omega)
  have q14 : (op == 14) = false := beq_eq_false_iff_ne.2 (by omega)
  have q15 : (op == 15) = false := beq_eq_false_iff_ne.2 (by omega)
  have q16 : (op == 16) = false := beq_eq_false_iff_ne.2 (by omega)
  have q17 : (op == 17) = false := beq_eq_false_iff_ne.2 (by omega)
  have q18 : (op == 18) = false := beq_eq_false_iff_ne.2 (by omega)
  have q19 : (op == 19) = false := beq_eq_false_iff_ne.2 (by omega)
  have q20 : (op == 20) = false := beq_eq_false_iff_ne.2 (by omega)
  have q21 : (op == 21) = false := beq_eq_false_iff_ne.2 (by omega)
  have q22 : (op == 22) = false := beq_eq_false_iff_ne.2 (by omega)
  have q23 : (op == 23) = false := beq_eq_false_iff_ne.2 (by omega)
  have q24 : (op == 24) = false := beq_eq_false_iff_ne.2 (by omega)
  have q25 : (op == 25) = false := beq_eq_false_iff_ne.2 (by omega)
  have q26 : (op == 26) = false := beq_eq_false_iff_ne.2 (by omega)
  have q27 : (op == 27) = false := beq_eq_false_iff_ne.2 (by omega)
  have q28 : (op == 28) = false := beq_eq_false_iff_ne.2 (by omega)
  have q29 : (op == 29) = false := beq_eq_false_iff_ne.2 (by omega)
  have q30 : (op == 30) = false := beq_eq_false_iff_ne.2 (by omega)
  have q31 : (op == 31) = false := beq_eq_false_iff_ne.2 (by omega)
  have q32 : (op == 32) = false := beq_eq_false_iff_ne.2 (by omega)
  have q33 : (op == 33) = false := beq_eq_false_iff_ne.2 (by omega)
  have q34 : (op == 34) = false := beq_eq_false_iff_ne.2 (by omega)
  have q35 : (op == 35) = false := beq_eq_false_iff_ne.2 (by omega)
  have q36 : (op == 36) = false := beq_eq_false_iff_ne.2 (by omega)
  have q37 : (op == 37) = false := beq_eq_false_iff_ne.2 (by omega)
  go_enter Tryd.func72, Tryd.ntmps72
  go_wp2
  go_ret2
  exact ⟨rfl, rfl⟩
theorem reg_calls (n : Int) (w : World) : Calls Tryd.prog 73 #[.int .i64 n] w fun e w' => e = .returned (.bool (decide (0 ≤ n ∧ n < 8))) ∧ w = w' := by
  by_cases a : 0 ≤ n
  · by_cases b : n < 8
    · rw [decide_eq_true (p := 0 ≤ n ∧ n < 8) ⟨a, b⟩]
      have b1 : decide (0 ≤ n) = true := decide_eq_true a
      have b2 : decide (n < 8) = true := decide_eq_true b
      go_enter Tryd.func73, Tryd.ntmps73
      go_wp2
      go_ret
      exact ⟨rfl, rfl⟩
    · rw [decide_eq_false (p := 0 ≤ n ∧ n < 8) (by omega)]
      have b1 : decide (0 ≤ n) = true := decide_eq_true a
      have b2 : decide (n < 8) = false := decide_eq_false b
      go_enter Tryd.func73, Tryd.ntmps73
      go_wp2
      go_ret
      exact ⟨rfl, rfl⟩
  · rw [decide_eq_false (p := 0 ≤ n ∧ n < 8) (by omega)]
    have b1 : decide (0 ≤ n) = false := decide_eq_false a
    go_enter Tryd.func73, Tryd.ntmps73
    go_wp2
    go_ret
    exact ⟨rfl, rfl⟩
end Go.Proofs.YtcjidibdidijaaaDoor
