/- Parts of this proof in one text: RVal. -/
import Derived.Test.YtcjidibdidijaaaDoorQV5
import Derived.Lib.Hide
namespace Go.Proofs.YtcjidibdidijaaaDoor
set_option linter.unusedVariables false
set_option linter.unusedSimpArgs false
open Go.RowKit Go.Proofs.YtcjidibdidijaaaDoorW.PrintWords Go.Proofs.YtcjidibdidijaaaDoorW.PrintMore Go.Proofs.YtcjidibdidijaaaDoorW.PrintLast
set_option maxRecDepth 100000 in
set_option maxHeartbeats 4000000 in
theorem rval_1 (op a b c n lo hi : Int) (w : World) (h1 : 1 ≤ op) (h2 : op ≤ 37) (h6 : (op == 6) = false) (hfm : formOf op = 1) (hlo : loR op = lo) (hhi : hiR op = hi) :
    Calls Tryd.prog 38 #[.agg #[.int .i64 op, .int .i64 a, .int .i64 b, .int .i64 c, .int .i64 n]] w fun e w' => e = .returned (.bool (valB op a b c n)) ∧ Below w.heap.size w w' := by
  have hV : Val op a b c n ↔ (lo ≤ n ∧ n ≤ hi ∧ a = 0 ∧ b = 0 ∧ c = 0) := by
    have e6 : op ≠ 6 := fun e => by rw [e] at h6; cases h6
    unfold loR at hlo
    unfold hiR at hhi
    unfold Val
    rw [hfm] at hlo hhi ⊢
    simp only [show hasA 1 = false from rfl, show hasB 1 = false from rfl, show hasC 1 = false from rfl, show hasN 1 = false from rfl, e6, Bool.false_eq_true, false_or, true_or, if_true, if_false, true_and, false_implies, true_implies, and_true] at hlo hhi ⊢
    subst hlo
    subst hhi
    omega
  have HF := form_any op
  have HB := bounds_in op (by omega)
  rw [hfm] at HF
  rw [hlo, hhi] at HB
  replace HF := Lib.hid HF
  replace HB := Lib.hid HB
  have HR := Lib.hid reg_calls
  have HV := Lib.hid hV
  clear hV hfm hlo hhi
  go_enter Tryd.func38, Tryd.ntmps38
  go_wp2_with (first | (go_at_call 67; refine (HF.out _).mono ?_; rintro e w2 ⟨rfl, rfl⟩) | (go_at_call 72; refine (HB.out _).mono ?_; rintro e w2 ⟨rfl, rfl⟩) | (go_at_call 73; refine (HR.out _ _).mono ?_; rintro e w2 ⟨rfl, rfl⟩))
  all_goals
    go_ret
    refine ⟨congrArg (fun z => Ending.returned (.bool z)) ?_, by repeat (first | exact Below.refl _ _ | refine Below.setCell ?_ (by first | omega | (simp <;> omega)) _ | refine Below.alloc ?_ (by first | omega | (simp <;> omega)) _)⟩
    try simp only [bne_eq_false_iff_eq, bne_iff_ne, ne_eq] at *
    first
      | exact (decide_eq_true (HV.out.2 (by omega))).symm
      | exact (decide_eq_false (fun h => by have := HV.out.1 h; omega)).symm
      | (rw [Bool.eq_iff_iff]; simp only [Bool.and_eq_true, decide_eq_true_eq, valB]; exact ⟨fun h => HV.out.2 (by omega), fun h => by have := HV.out.1 h; omega⟩)
      | exact (decide_eq_false (fun h => by have := h.2.2.2.2.2.2.1; omega)).symm
set_option maxRecDepth 100000 in
set_option maxHeartbeats 4000000 in
theorem rval_2 (op a b c n lo hi : Int) (w : World) (h1 : 1 ≤ op) (h2 : op ≤ 37) (h6 : (op == 6) = false) (hfm : formOf op = 2) (hlo : loR op = lo) (hhi : hiR op = hi) :
    Calls Tryd.prog 38 #[.agg #[.int .i64 op, .int .i64 a, .int .i64 b, .int .i64 c, .int .i64 n]] w fun e w' => e = .returned (.bool (valB op a b c n)) ∧ Below w.heap.size w w' := by
  have hV : Val op a b c n ↔ (lo ≤ n ∧ n ≤ hi ∧ b = 0 ∧ c = 0 ∧ 0 ≤ a ∧ a < 8) := by
    have e6 : op ≠ 6 := fun e => by rw [e] at h6; cases h6
    unfold loR at hlo
    unfold hiR at hhi
    unfold Val
    rw [hfm] at hlo hhi ⊢
    simp only [show hasA 2 = true from rfl, show hasB 2 = false from rfl, show hasC 2 = false from rfl, show hasN 2 = false from rfl, e6, Bool.false_eq_true, false_or, true_or, if_true, if_false, true_and, false_implies, true_implies, and_true] at hlo hhi ⊢
    subst hlo
    subst hhi
    omega
  have HF := form_any op
  have HB := bounds_in op (by omega)
  rw [hfm] at HF
  rw [hlo, hhi] at HB
  replace HF := Lib.hid HF
  replace HB := Lib.hid HB
  have HR := Lib.hid reg_calls
  have HV := Lib.hid hV
  clear hV hfm hlo hhi
  go_enter Tryd.func38, Tryd.ntmps38
  go_wp2_with (first | (go_at_call 67; refine (HF.out _).mono ?_; rintro e w2 ⟨rfl, rfl⟩) | (go_at_call 72; refine (HB.out _).mono ?_; rintro e w2 ⟨rfl, rfl⟩) | (go_at_call 73; refine (HR.out _ _).mono ?_; rintro e w2 ⟨rfl, rfl⟩))
  all_goals
    go_ret
    refine ⟨congrArg (fun z => Ending.returned (.bool z)) ?_, by repeat (first | exact Below.refl _ _ | refine Below.setCell ?_ (by first | omega | (simp <;> omega)) _ | refine Below.alloc ?_ (by first | omega | (simp <;> omega)) _)⟩
    try simp only [bne_eq_false_iff_eq, bne_iff_ne, ne_eq] at *
    first
      | exact (decide_eq_true (HV.out.2 (by omega))).symm
      | exact (decide_eq_false (fun h => by have := HV.out.1 h; omega)).symm
      | (rw [Bool.eq_iff_iff]; simp only [Bool.and_eq_true, decide_eq_true_eq, valB]; exact ⟨fun h => HV.out.2 (by omega), fun h => by have := HV.out.1 h; omega⟩)
      | exact (decide_eq_false (fun h => by have := h.2.2.2.2.2.2.1; omega)).symm
set_option maxRecDepth 100000 in
set_option maxHeartbeats 4000000 in
theorem rval_3 (op a b c n lo hi : Int) (w : World) (h1 : 1 ≤ op) (h2 : op ≤ 37) (h6 : (op == 6) = false) (hfm : formOf op = 3) (hlo : loR op = lo) (hhi : hiR op = hi) :
    Calls Tryd.prog 38 #[.agg #[.int .i64 op, .int .i64 a, .int .i64 b, .int .i64 c, .int .i64 n]] w fun e w' => e = .returned (.bool (valB op a b c n)) ∧ Below w.heap.size w w' := by
  have hV : Val op a b c n ↔ (lo ≤ n ∧ n ≤ hi ∧ c = 0 ∧ 0 ≤ a ∧ a < 8 ∧ 0 ≤ b ∧ b < 8) := by
    have e6 : op ≠ 6 := fun e => by rw [e] at h6; cases h6
    unfold loR at hlo
    unfold hiR at hhi
    unfold Val
    rw [hfm] at hlo hhi ⊢
    simp only [show hasA 3 = true from rfl, show hasB 3 = true from rfl, show hasC 3 = false from rfl, show hasN 3 = false from rfl, e6, Bool.false_eq_true, false_or, true_or, if_true, if_false, true_and, false_implies, true_implies, and_true] at hlo hhi ⊢
    subst hlo
    subst hhi
    omega
  have HF := form_any op
  have HB := bounds_in op (by omega)
  rw [hfm] at HF
  rw [hlo, hhi] at HB
  replace HF := Lib.hid HF
  replace HB := Lib.hid HB
  have HR := Lib.hid reg_calls
  have HV := Lib.hid hV
  clear hV hfm hlo hhi
  go_enter Tryd.func38, Tryd.ntmps38
  go_wp2_with (first | (go_at_call 67; refine (HF.out _).mono ?_; rintro e w2 ⟨rfl, rfl⟩) | (go_at_call 72; refine (HB.out _).mono ?_; rintro e w2 ⟨rfl, rfl⟩) | (go_at_call 73; refine (HR.out _ _).mono ?_; rintro e w2 ⟨rfl, rfl⟩))
  all_goals
    go_ret
    refine ⟨congrArg (fun z => Ending.returned (.bool z)) ?_, by repeat (first | exact Below.refl _ _ | refine Below.setCell ?_ (by first | omega | (simp <;> omega)) _ | refine Below.alloc ?_ (by first | omega | (simp <;> omega)) _)⟩
    try simp only [bne_eq_false_iff_eq, bne_iff_ne, ne_eq] at *
    first
      | exact (decide_eq_true (HV.out.2 (by omega))).symm
      | exact (decide_eq_false (fun h => by have := HV.out.1 h; omega)).symm
      | (rw [Bool.eq_iff_iff]; simp only [Bool.and_eq_true, decide_eq_true_eq, valB]; exact ⟨fun h => HV.out.2 (by omega), fun h => by have := HV.out.1 h; omega⟩)
      | exact (decide_eq_false (fun h => by have := h.2.2.2.2.2.2.1; omega)).symm
set_option maxRecDepth 100000 in
set_option maxHeartbeats 4000000 in
theorem rval_4 (op a b c n lo hi : Int) (w : World) (h1 : 1 ≤ op) (h2 : op ≤ 37) (h6 : (op == 6) = false) (hfm : formOf op = 4) (hlo : loR op = lo) (hhi : hiR op = hi) :
    Calls Tryd.prog 38 #[.agg #[.int .i64 op, .int .i64 a, .int .i64 b, .int .i64 c, .int .i64 n]] w fun e w' => e = .returned (.bool (valB op a b c n)) ∧ Below w.heap.size w w' := by
  have hV : Val op a b c n ↔ (lo ≤ n ∧ n ≤ hi ∧ 0 ≤ a ∧ a < 8 ∧ 0 ≤ b ∧ b < 8 ∧ 0 ≤ c ∧ c < 8) := by
    have e6 : op ≠ 6 := fun e => by rw [e] at h6; cases h6
    unfold loR at hlo
    unfold hiR at hhi
    unfold Val
    rw [hfm] at hlo hhi ⊢
    simp only [show hasA 4 = true from rfl, show hasB 4 = true from rfl, show hasC 4 = true from rfl, show hasN 4 = false from rfl, e6, Bool.false_eq_true, false_or, true_or, if_true, if_false, true_and, false_implies, true_implies, and_true] at hlo hhi ⊢
    subst hlo
    subst hhi
    omega
  have HF := form_any op
  have HB := bounds_in op (by omega)
  rw [hfm] at HF
  rw [hlo, hhi] at HB
  replace HF := Lib.hid HF
  replace HB := Lib.hid HB
  have HR := Lib.hid reg_calls
  have HV := Lib.hid hV
  clear hV hfm hlo hhi
  go_enter Tryd.func38, Tryd.ntmps38
  go_wp2_with (first | (go_at_call 67; refine (HF.out _).mono ?_; rintro e w2 ⟨rfl, rfl⟩) | (go_at_call 72; refine (HB.out _).mono ?_; rintro e w2 ⟨rfl, rfl⟩) | (go_at_call 73; refine (HR.out _ _).mono ?_; rintro e w2 ⟨rfl, rfl⟩))
  all_goals
    go_ret
    refine ⟨congrArg (fun z => Ending.returned (.bool z)) ?_, by repeat (first | exact Below.refl _ _ | refine Below.setCell ?_ (by first | omega | (simp <;> omega)) _ | refine Below.alloc ?_ (by first | omega | (simp <;> omega)) _)⟩
    try simp only [bne_eq_false_iff_eq, bne_iff_ne, ne_eq] at *
    first
      | exact (decide_eq_true (HV.out.2 (by omega))).symm
      | exact (decide_eq_false (fun h => by have := HV.out.1 h; omega)).symm
      | (rw [Bool.eq_iff_iff]; simp only [Bool.and_eq_true, decide_eq_true_eq, valB]; exact ⟨fun h => HV.out.2 (by omega), fun h => by have := HV.out.1 h; omega⟩)
      | exact (decide_eq_false (fun h => by have := h.2.2.2.2.2.2.1; omega)).symm
set_option maxRecDepth 100000 in
set_option maxHeartbeats 4000000 in
theorem rval_5 (op a b c n lo hi : Int) (w : World) (h1 : 1 ≤ op) (h2 : op ≤ 37) (h6 : (op == 6) = false) (hfm : formOf op = 5) (hlo : loR op = lo) (hhi : hiR op = hi) :
    Calls Tryd.prog 38 #[.agg #[.int .i64 op, .int .i64 a, .int .i64 b, .int .i64 c, .int .i64 n]] w fun e w' => e = .returned (.bool (valB op a b c n)) ∧ Below w.heap.size w w' := by
  have hV : Val op a b c n ↔ (lo ≤ n ∧ n ≤ hi ∧ b = 0 ∧ c = 0 ∧ 0 ≤ a ∧ a < 8) := by
    have e6 : op ≠ 6 := fun e => by rw [e] at h6; cases h6
    unfold loR at hlo
    unfold hiR at hhi
    unfold Val
    rw [hfm] at hlo hhi ⊢
    simp only [show hasA 5 = true from rfl, show hasB 5 = false from rfl, show hasC 5 = false from rfl, show hasN 5 = true from rfl, e6, Bool.false_eq_true, false_or, true_or, if_true, if_false, true_and, false_implies, true_implies, and_true] at hlo hhi ⊢
    subst hlo
    subst hhi
    omega
  have HF := form_any op
  have HB := bounds_in op (by omega)
  rw [hfm] at HF
  rw [hlo, hhi] at HB
  replace HF := Lib.hid HF
  replace HB := Lib.hid HB
  have HR := Lib.hid reg_calls
  have HV := Lib.hid hV
  clear hV hfm hlo hhi
  go_enter Tryd.func38, Tryd.ntmps38
  go_wp2_with (first | (go_at_call 67; refine (HF.out _).mono ?_; rintro e w2 ⟨rfl, rfl⟩) | (go_at_call 72; refine (HB.out _).mono ?_; rintro e w2 ⟨rfl, rfl⟩) | (go_at_call 73; refine (HR.out _ _).mono ?_; rintro e w2 ⟨rfl, rfl⟩))
  all_goals
    go_ret
    refine ⟨congrArg (fun z => Ending.returned (.bool z)) ?_, by repeat (first | exact Below.refl _ _ | refine Below.setCell ?_ (by first | omega | (simp <;> omega)) _ | refine Below.alloc ?_ (by first | omega | (simp <;> omega)) _)⟩
    try simp only [bne_eq_false_iff_eq, bne_iff_ne, ne_eq] at *
    first
      | exact (decide_eq_true (HV.out.2 (by omega))).symm
      | exact (decide_eq_false (fun h => by have := HV.out.1 h; omega)).symm
      | (rw [Bool.eq_iff_iff]; simp only [Bool.and_eq_true, decide_eq_true_eq, valB]; exact ⟨fun h => HV.out.2 (by omega), fun h => by have := HV.out.1 h; omega⟩)
      | exact (decide_eq_false (fun h => by have := h.2.2.2.2.2.2.1; omega)).symm
set_option maxRecDepth 100000 in
set_option maxHeartbeats 4000000 in
theorem rval_6 (op a b c n lo hi : Int) (w : World) (h1 : 1 ≤ op) (h2 : op ≤ 37) (h6 : (op == 6) = false) (hfm : formOf op = 6) (hlo : loR op = lo) (hhi : hiR op = hi) :
    Calls Tryd.prog 38 #[.agg #[.int .i64 op, .int .i64 a, .int .i64 b, .int .i64 c, .int .i64 n]] w fun e w' => e = .returned (.bool (valB op a b c n)) ∧ Below w.heap.size w w' := by
  have hV : Val op a b c n ↔ (lo ≤ n ∧ n ≤ hi ∧ b = 0 ∧ c = 0 ∧ 0 ≤ a ∧ a < 8) := by
    have e6 : op ≠ 6 := fun e => by rw [e] at h6; cases h6
    unfold loR at hlo
    unfold hiR at hhi
    unfold Val
    rw [hfm] at hlo hhi ⊢
    simp only [show hasA 6 = true from rfl, show hasB 6 = false from rfl, show hasC 6 = false from rfl, show hasN 6 = true from rfl, e6, Bool.false_eq_true, false_or, true_or, if_true, if_false, true_and, false_implies, true_implies, and_true] at hlo hhi ⊢
    subst hlo
    subst hhi
    omega
  have HF := form_any op
  have HB := bounds_in op (by omega)
  rw [hfm] at HF
  rw [hlo, hhi] at HB
  replace HF := Lib.hid HF
  replace HB := Lib.hid HB
  have HR := Lib.hid reg_calls
  have HV := Lib.hid hV
  clear hV hfm hlo hhi
  go_enter Tryd.func38, Tryd.ntmps38
  go_wp2_with (first | (go_at_call 67; refine (HF.out _).mono ?_; rintro e w2 ⟨rfl, rfl⟩) | (go_at_call 72; refine (HB.out _).mono ?_; rintro e w2 ⟨rfl, rfl⟩) | (go_at_call 73; refine (HR.out _ _).mono ?_; rintro e w2 ⟨rfl, rfl⟩))
  all_goals
    go_ret
    refine ⟨congrArg (fun z => Ending.returned (.bool z)) ?_, by repeat (first | exact Below.refl _ _ | refine Below.setCell ?_ (by first | omega | (simp <;> omega)) _ | refine Below.alloc ?_ (by first | omega | (simp <;> omega)) _)⟩
    try simp only [bne_eq_false_iff_eq, bne_iff_ne, ne_eq] at *
    first
      | exact (decide_eq_true (HV.out.2 (by omega))).symm
      | exact (decide_eq_false (fun h => by have := HV.out.1 h; omega)).symm
      | (rw [Bool.eq_iff_iff]; simp only [Bool.and_eq_true, decide_eq_true_eq, valB]; exact ⟨fun h => HV.out.2 (by omega), fun h => by have := HV.out.1 h; omega⟩)
      | exact (decide_eq_false (fun h => by have := h.2.2.2.2.2.2.1; omega)).symm
set_option maxRecDepth 100000 in
set_option maxHeartbeats 4000000 in
theorem rval_7 (op a b c n lo hi : Int) (w : World) (h1 : 1 ≤ op) (h2 : op ≤ 37) (h6 : (op == 6) = false) (hfm : formOf op = 7) (hlo : loR op = lo) (hhi : hiR op = hi) :
    Calls Tryd.prog 38 #[.agg #[.int .i64 op, .int .i64 a, .int .i64 b, .int .i64 c, .int .i64 n]] w fun e w' => e = .returned (.bool (valB op a b c n)) ∧ Below w.heap.size w w' := by
  have hV : Val op a b c n ↔ (lo ≤ n ∧ n ≤ hi ∧ c = 0 ∧ 0 ≤ a ∧ a < 8 ∧ 0 ≤ b ∧ b < 8) := by
    have e6 : op ≠ 6 := fun e => by rw [e] at h6; cases h6
    unfold loR at hlo
    unfold hiR at hhi
    unfold Val
    rw [hfm] at hlo hhi ⊢
    simp only [show hasA 7 = true from rfl, show hasB 7 = true from rfl, show hasC 7 = false from rfl, show hasN 7 = true from rfl, e6, Bool.false_eq_true, false_or, true_or, if_true, if_false, true_and, false_implies, true_implies, and_true] at hlo hhi ⊢
    subst hlo
    subst hhi
    omega
  have HF := form_any op
  have HB := bounds_in op (by omega)
  rw [hfm] at HF
  rw [hlo, hhi] at HB
  replace HF := Lib.hid HF
  replace HB := Lib.hid HB
  have HR := Lib.hid reg_calls
  have HV := Lib.hid hV
  clear hV hfm hlo hhi
  go_enter Tryd.func38, Tryd.ntmps38
  go_wp2_with (first | (go_at_call 67; refine (HF.out _).mono ?_; rintro e w2 ⟨rfl, rfl⟩) | (go_at_call 72; refine (HB.out _).mono ?_; rintro e w2 ⟨rfl, rfl⟩) | (go_at_call 73; refine (HR.out _ _).mono ?_; rintro e w2 ⟨rfl, rfl⟩))
  all_goals
    go_ret
    refine ⟨congrArg (fun z => Ending.returned (.bool z)) ?_, by repeat (first | exact Below.refl _ _ | refine Below.setCell ?_ (by first | omega | (simp <;> omega)) _ | refine Below.alloc ?_ (by first | omega | (simp <;> omega)) _)⟩
    try simp only [bne_eq_false_iff_eq, bne_iff_ne, ne_eq] at *
    first
      | exact (decide_eq_true (HV.out.2 (by omega))).symm
      | exact (decide_eq_false (fun h => by have := HV.out.1 h; omega)).symm
      | (rw [Bool.eq_iff_iff]; simp only [Bool.and_eq_true, decide_eq_true_eq, valB]; exact ⟨fun h => HV.out.2 (by omega), fun h => by have := HV.out.1 h; omega⟩)
      | exact (decide_eq_false (fun h => by have := h.2.2.2.2.2.2.1; omega)).symm
set_option maxRecDepth 100000 in
set_option maxHeartbeats 4000000 in
theorem rval_8 (op a b c n lo hi : Int) (w : World) (h1 : 1 ≤ op) (h2 : op ≤ 37) (h6 : (op == 6) = false) (hfm : formOf op = 8) (hlo : loR op = lo) (hhi : hiR op = hi) :
    Calls Tryd.prog 38 #[.agg #[.int .i64 op, .int .i64 a, .int .i64 b, .int .i64 c, .int .i64 n]] w fun e w' => e = .returned (.bool (valB op a b c n)) ∧ Below w.heap.size w w' := by
  have hV : Val op a b c n ↔ (lo ≤ n ∧ n ≤ hi ∧ a = 0 ∧ b = 0 ∧ c = 0) := by
    have e6 : op ≠ 6 := fun e => by rw [e] at h6; cases h6
    unfold loR at hlo
    unfold hiR at hhi
    unfold Val
    rw [hfm] at hlo hhi ⊢
    simp only [show hasA 8 = false from rfl, show hasB 8 = false from rfl, show hasC 8 = false from rfl, show hasN 8 = true from rfl, e6, Bool.false_eq_true, false_or, true_or, if_true, if_false, true_and, false_implies, true_implies, and_true] at hlo hhi ⊢
    subst hlo
    subst hhi
    omega
  have HF := form_any op
  have HB := bounds_in op (by omega)
  rw [hfm] at HF
  rw [hlo, hhi] at HB
  replace HF := Lib.hid HF
  replace HB := Lib.hid HB
  have HR := Lib.hid reg_calls
  have HV := Lib.hid hV
  clear hV hfm hlo hhi
  go_enter Tryd.func38, Tryd.ntmps38
  go_wp2_with (first | (go_at_call 67; refine (HF.out _).mono ?_; rintro e w2 ⟨rfl, rfl⟩) | (go_at_call 72; refine (HB.out _).mono ?_; rintro e w2 ⟨rfl, rfl⟩) | (go_at_call 73; refine (HR.out _ _).mono ?_; rintro e w2 ⟨rfl, rfl⟩))
  all_goals
    go_ret
    refine ⟨congrArg (fun z => Ending.returned (.bool z)) ?_, by repeat (first | exact Below.refl _ _ | refine Below.setCell ?_ (by first | omega | (simp <;> omega)) _ | refine Below.alloc ?_ (by first | omega | (simp <;> omega)) _)⟩
    try simp only [bne_eq_false_iff_eq, bne_iff_ne, ne_eq] at *
    first
      | exact (decide_eq_true (HV.out.2 (by omega))).symm
      | exact (decide_eq_false (fun h => by have := HV.out.1 h; omega)).symm
      | (rw [Bool.eq_iff_iff]; simp only [Bool.and_eq_true, decide_eq_true_eq, valB]; exact ⟨fun h => HV.out.2 (by omega), fun h => by have := HV.out.1 h; omega⟩)
      | exact (decide_eq_false (fun h => by have := h.2.2.2.2.2.2.1; omega)).symm
set_option maxRecDepth 100000 in
set_option maxHeartbeats 4000000 in
theorem rval_5c (op a b c n lo hi : Int) (w : World) (h1 : 1 ≤ op) (h2 : op ≤ 37) (h6 : (op == 6) = true) (hfm : formOf op = 5) (hlo : loR op = lo) (hhi : hiR op = hi) :
    Calls Tryd.prog 38 #[.agg #[.int .i64 op, .int .i64 a, .int .i64 b, .int .i64 c, .int .i64 n]] w fun e w' => e = .returned (.bool (valB op a b c n)) ∧ Below w.heap.size w w' := by
  have hV : Val op a b c n ↔ (lo ≤ n ∧ n ≤ hi ∧ b = 0 ∧ c = 0 ∧ 0 ≤ a ∧ a ≤ 6) := by
    have e6 : op = 6 := eq_of_beq h6
    unfold loR at hlo
    unfold hiR at hhi
    unfold Val
    rw [hfm] at hlo hhi ⊢
    simp only [show hasA 5 = true from rfl, show hasB 5 = false from rfl, show hasC 5 = false from rfl, show hasN 5 = true from rfl, e6, Bool.false_eq_true, false_or, true_or, if_true, if_false, true_and, false_implies, true_implies, and_true] at hlo hhi ⊢
    subst hlo
    subst hhi
    omega
  have HF := form_any op
  have HB := bounds_in op (by omega)
  rw [hfm] at HF
  rw [hlo, hhi] at HB
  replace HF := Lib.hid HF
  replace HB := Lib.hid HB
  have HR := Lib.hid reg_calls
  have HV := Lib.hid hV
  clear hV hfm hlo hhi
  go_enter Tryd.func38, Tryd.ntmps38
  go_wp2_with (first | (go_at_call 67; refine (HF.out _).mono ?_; rintro e w2 ⟨rfl, rfl⟩) | (go_at_call 72; refine (HB.out _).mono ?_; rintro e w2 ⟨rfl, rfl⟩) | (go_at_call 73; refine (HR.out _ _).mono ?_; rintro e w2 ⟨rfl, rfl⟩))
  all_goals
    go_ret
    refine ⟨congrArg (fun z => Ending.returned (.bool z)) ?_, by repeat (first | exact Below.refl _ _ | refine Below.setCell ?_ (by first | omega | (simp <;> omega)) _ | refine Below.alloc ?_ (by first | omega | (simp <;> omega)) _)⟩
    try simp only [bne_eq_false_iff_eq, bne_iff_ne, ne_eq] at *
    first
      | exact (decide_eq_true (HV.out.2 (by omega))).symm
      | exact (decide_eq_false (fun h => by have := HV.out.1 h; omega)).symm
      | (rw [Bool.eq_iff_iff]; simp only [Bool.and_eq_true, decide_eq_true_eq, valB]; exact ⟨fun h => HV.out.2 (by omega), fun h => by have := HV.out.1 h; omega⟩)
      | exact (decide_eq_false (fun h => by have := h.2.2.2.2.2.2.1; omega)).symm
set_option maxRecDepth 100000 in
set_option maxHeartbeats 4000000 in
theorem rvalid_out (op a b c n : Int) (w : World) (h : op < 1 ∨ op > 37) :
    Calls Tryd.prog 38 #[.agg #[.int .i64 op, .int .i64 a, .int .i64 b, .int .i64 c, .int .i64 n]] w fun e w' => e = .returned (.bool (valB op a b c n)) ∧ Below w.heap.size w w' := by
  have hv : valB op a b c n = false := decide_eq_false (fun hv => by have := hv.1; have := hv.2.1; omega)
  rw [hv]
  have HF := Lib.hid (form_out op h)
  have HB := Lib.hid (bounds_out op h)
  go_enter Tryd.func38, Tryd.ntmps38
  go_wp2_with (first | (go_at_call 67; refine (HF.out _).mono ?_; rintro e w2 ⟨rfl, rfl⟩) | (go_at_call 72; refine (HB.out _).mono ?_; rintro e w2 ⟨rfl, rfl⟩))
  all_goals
    go_ret
    exact ⟨rfl, by repeat (first | exact Below.refl _ _ | refine Below.setCell ?_ (by first | omega | (simp <;> omega)) _ | refine Below.alloc ?_ (by first | omega | (simp <;> omega)) _)⟩
theorem rvalid_calls (op a b c n : Int) (r : Bool) (w : World) (h : some (valB op a b c n) = some r) :
    Calls Tryd.prog 38 #[.agg #[.int .i64 op, .int .i64 a, .int .i64 b, .int .i64 c, .int .i64 n]] w fun e w' => e = .returned (.bool r) ∧ Below w.heap.size w w' := by
  obtain rfl := Option.some.inj h
  by_cases hr : op < 1 ∨ op > 37
  · exact rvalid_out op a b c n w hr
  · obtain ⟨k, rfl⟩ : ∃ k : Nat, op = k := ⟨op.toNat, by omega⟩
    have hf := formOf_nat k (by omega) (by omega)
    have hc := form_rows (k - 1) (by omega)
    by_cases h6 : k = 6
    · subst h6
      rw [show (tabRow (6 - 1)).2.1 = 5 from rfl] at hf
      exact rval_5c _ a b c n _ _ w (by omega) (by omega) rfl hf rfl rfl
    · have e6 : ((k : Int) == 6) = false := beq_eq_false_iff_ne.2 (by omega)
      rcases hc with hc | hc | hc | hc | hc | hc | hc | hc <;> rw [hc] at hf
      · exact rval_1 _ a b c n _ _ w (by omega) (by omega) e6 hf rfl rfl
      · exact rval_2 _ a b c n _ _ w (by omega) (by omega) e6 hf rfl rfl
      · exact rval_3 _ a b c n _ _ w (by omega) (by omega) e6 hf rfl rfl
      · exact rval_4 _ a b c n _ _ w (by omega) (by omega) e6 hf rfl rfl
      · exact rval_5 _ a b c n _ _ w (by omega) (by omega) e6 hf rfl rfl
      · exact rval_6 _ a b c n _ _ w (by omega) (by omega) e6 hf rfl rfl
      · exact rval_7 _ a b c n _ _ w (by omega) (by omega) e6 hf rfl rfl
      · exact rval_8 _ a b c n _ _ w (by omega) (by omega) e6 hf rfl rfl
end Go.Proofs.YtcjidibdidijaaaDoor
