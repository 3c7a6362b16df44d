/- Parts of this proof in one text: Val. -/
import Derived.Test.YtcjidibdidijaaaDoorQV1
import Derived.Lib.Hide
namespace Go.Proofs.YtcjidibdidijaaaDoor
set_option linter.unusedVariables false
set_option linter.unusedSimpArgs false
open Go.RowKit Go.Proofs.YtcjidibdidijaaaDoorW.PrintWords
def formOf (op : Int) : Int := if 1 ≤ op ∧ op ≤ 37 then (tabRow (op.toNat - 1)).2.1 else 0
def hasA (f : Int) : Bool := f != 1 && f != 8 && f != 0
def hasB (f : Int) : Bool := f == 3 || f == 4 || f == 7
def hasC (f : Int) : Bool := f == 4
def hasN (f : Int) : Bool := f == 5 || f == 6 || f == 7 || f == 8
def loN (op : Int) : Int := if op = 14 then -9223372036854775808 else if op = 4 then 1 else if op = 5 then -33554432 else if op = 6 ∨ op = 34 ∨ op = 35 ∨ op = 36 ∨ op = 37 then 0 else -4194304
def hiN (op : Int) : Int := if op = 14 then 9223372036854775807 else if op = 4 ∨ op = 5 then 33554431 else if op = 6 then 7 else if op = 34 ∨ op = 35 then 3 else if op = 36 ∨ op = 37 then 2999 else 4194303
def Val (op a b c n : Int) : Prop := 1 ≤ op ∧ op ≤ 37 ∧ (hasA (formOf op) = true ∨ a = 0) ∧ (hasB (formOf op) = true ∨ b = 0) ∧ (hasC (formOf op) = true ∨ c = 0) ∧ (hasN (formOf op) = true ∨ n = 0) ∧
  0 ≤ a ∧ a ≤ (if op = 6 then 6 else 7) ∧ 0 ≤ b ∧ b < 8 ∧ 0 ≤ c ∧ c < 8 ∧ (hasN (formOf op) = true → loN op ≤ n ∧ n ≤ hiN op)
instance (op a b c n : Int) : Decidable (Val op a b c n) := by unfold Val; exact inferInstance
def valB (op a b c n : Int) : Bool := decide (Val op a b c n)
theorem info_at (op : Nat) (h1 : 1 ≤ op) (h2 : op ≤ 37) (w : World) (HT : Aside0 (TabOK w)) : Calls Tryd.prog 59 #[.int .i64 op] w fun e w' =>
    e = .returned (.tuple #[.agg #[.string ⟨(tabRow (op - 1)).1.toArray⟩, .int .i64 (tabRow (op - 1)).2.1, .bool (tabRow (op - 1)).2.2.1, .bool (tabRow (op - 1)).2.2.2.1, .bool (tabRow (op - 1)).2.2.2.2.1, .bool (tabRow (op - 1)).2.2.2.2.2.1, .int .i64 (tabRow (op - 1)).2.2.2.2.2.2], .bool true]) ∧ Below w.heap.size w w' := by
  obtain ⟨tb, off, cap, h0, h1', h2', h3⟩ := HT.out
  obtain ⟨t0, t1, t2, t3, t4, t5, t6⟩ := h3 (op - 1) (by omega)
  exact info_in op h1 h2 w tb off cap h0 h1' h2' _ _ _ _ _ _ _ t0 t1 t2 t3 t4 t5 t6
theorem bcell {W w1 : World} (hb : Below W.heap.size W w1) : (∀ b o, b < W.heap.size → w1.cell? ⟨b, o, none⟩ = W.cell? ⟨b, o, none⟩) ∧ (∀ b o, b < W.heap.size → w1.frozen? ⟨b, o, none⟩ = W.frozen? ⟨b, o, none⟩) :=
  ⟨fun b o h => hb.cell (p := ⟨b, o, none⟩) h, fun b o h => hb.frozen (p := ⟨b, o, none⟩) h⟩
theorem fields_calls (f : Int) (h1 : 1 ≤ f) (h2 : f ≤ 8) (w : World) : Calls Tryd.prog 87 #[.int .i64 f] w fun e w' => e = .returned (.tuple #[.bool (hasA f), .bool (hasB f), .bool (hasC f), .bool (hasN f)]) ∧ w = w' := by
  have : f = 1 ∨ f = 2 ∨ f = 3 ∨ f = 4 ∨ f = 5 ∨ f = 6 ∨ f = 7 ∨ f = 8 := by omega
  rcases this with rfl | rfl | rfl | rfl | rfl | rfl | rfl | rfl
  all_goals
    go_enter Tryd.func87, Tryd.ntmps87
    go_wp2
    exact bodyPost_ret (v := .tuple #[.bool _, .bool _, .bool _, .bool _]) (by simp [results, Tryd.results87, go_sem]; exact ⟨rfl, rfl, rfl, rfl⟩) rfl ⟨rfl, rfl⟩
theorem range_calls (op : Int) (h1 : 1 ≤ op) (h2 : op ≤ 37) (w : World) : Calls Tryd.prog 88 #[.int .i64 op] w fun e w' => e = .returned (.tuple #[.int .i64 (loN op), .int .i64 (hiN op)]) ∧ w = w' := by
  have : op = 14 ∨ op = 4 ∨ op = 5 ∨ op = 6 ∨ op = 34 ∨ op = 35 ∨ op = 36 ∨ op = 37 ∨ (op ≠ 14 ∧ op ≠ 4 ∧ op ≠ 5 ∧ op ≠ 6 ∧ op ≠ 34 ∧ op ≠ 35 ∧ op ≠ 36 ∧ op ≠ 37) := by omega
  rcases this with rfl | rfl | rfl | rfl | rfl | rfl | rfl | rfl | ⟨n1, n2, n3, n4, n5, n6, n7, n8⟩
  all_goals
    go_enter Tryd.func88, Tryd.ntmps88
    go_wp2
    go_ret2
    exact ⟨by simp [loN, hiN, *], rfl⟩
set_option maxRecDepth 100000 in
set_option maxHeartbeats 4000000 in
theorem val_1 (op a b c n : Int) (w : World) (h1 : 1 ≤ op) (h2 : op ≤ 37) (h6 : (op == 6) = false) (hfm : formOf op = 1) (HT : Aside0 (TabOK w)) (nm : ByteArray) (b1 b2 b3 b4 : Bool) (wd : Int)
    (HI : Hid (∀ W, TabOK W → Calls Tryd.prog 59 #[.int .i64 op] W fun e w' => e = .returned (.tuple #[.agg #[.string nm, .int .i64 1, .bool b1, .bool b2, .bool b3, .bool b4, .int .i64 wd], .bool true]) ∧ Below W.heap.size W w')) :
    Calls Tryd.prog 69 #[.agg #[.int .i64 op, .int .i64 a, .int .i64 b, .int .i64 c, .int .i64 n]] w fun e w' => e = .returned (.bool (valB op a b c n)) ∧ Below w.heap.size w w' := by
  have hV : Val op a b c n ↔ (a = 0 ∧ b = 0 ∧ c = 0 ∧ n = 0) := by
    have e6 : op ≠ 6 := fun e => by rw [e] at h6; cases h6
    unfold Val
    rw [hfm]
    simp only [show hasA 1 = false from rfl, show hasB 1 = false from rfl, show hasC 1 = false from rfl, show hasN 1 = false from rfl, e6, Bool.false_eq_true, false_or, true_or, if_true, if_false, true_and, false_implies, true_implies, and_true]
    omega
  clear hfm
  by_cases hn : n = 0
  · subst hn
    have HV := Lib.hid hV
    clear hV
    go_enter Tryd.func69, Tryd.ntmps69
    go_wp2_with fail
    refine (HI.out _ (HT.out.below ((Below.refl _ _).alloc (Nat.le_refl _) _))).mono ?_
    rintro e w1 ⟨rfl, hb⟩
    have hz : w.heap.size < w1.heap.size := by have := hb.size; simp at this; omega
    have g0 : w1.cell? ⟨w.heap.size, 0, none⟩ = some (.int .i64 op) := (hb.cell (p := ⟨w.heap.size, 0, none⟩) (by simp)).trans (by simp)
    have g1 : w1.cell? ⟨w.heap.size, 1, none⟩ = some (.int .i64 a) := (hb.cell (p := ⟨w.heap.size, 1, none⟩) (by simp)).trans (by simp)
    have g2 : w1.cell? ⟨w.heap.size, 2, none⟩ = some (.int .i64 b) := (hb.cell (p := ⟨w.heap.size, 2, none⟩) (by simp)).trans (by simp)
    have g3 : w1.cell? ⟨w.heap.size, 3, none⟩ = some (.int .i64 c) := (hb.cell (p := ⟨w.heap.size, 3, none⟩) (by simp)).trans (by simp)
    have g4 : w1.cell? ⟨w.heap.size, 4, none⟩ = some (.int .i64 0) := (hb.cell (p := ⟨w.heap.size, 4, none⟩) (by simp)).trans (by simp)
    have HB := Aside0.mk (below_step ((Below.refl w.heap.size w).alloc (Nat.le_refl _) _) hb)
    clear hb
    go_wp2_with fail
    refine (fields_calls 1 (by omega) (by omega) _).mono ?_
    rintro e w2 ⟨rfl, rfl⟩
    simp only [show hasA 1 = false from rfl, show hasB 1 = false from rfl, show hasC 1 = false from rfl, show hasN 1 = false from rfl]
    go_wp2_with (go_at_call 88; refine (range_calls _ (by omega) (by omega) _).mono ?_; rintro e w2 ⟨rfl, rfl⟩)
    all_goals
      go_ret
      refine ⟨congrArg (fun z => Ending.returned (.bool z)) ?_, by repeat (first | exact HB.out | refine Below.setCell ?_ (by first | omega | (simp <;> omega)) _ | refine Below.alloc ?_ (by first | omega | (simp <;> omega)) _)⟩
      try subst_vars
      first
        | exact (decide_eq_true (HV.out.2 (by omega))).symm
        | exact (decide_eq_true (HV.out.2 (by simp <;> omega))).symm
        | exact (decide_eq_false (fun h => by have := HV.out.1 h; omega)).symm
        | (by_cases hq : n ≤ hiN op
           · rw [decide_eq_true hq]; exact (decide_eq_true (HV.out.2 (by omega))).symm
           · rw [decide_eq_false hq]; exact (decide_eq_false (fun h => by have := HV.out.1 h; omega)).symm)
  · have hne : (n != 0) = true := bne_iff_ne.2 hn
    have HV := Lib.hid hV
    clear hV
    go_enter Tryd.func69, Tryd.ntmps69
    go_wp2_with fail
    refine (HI.out _ (HT.out.below ((Below.refl _ _).alloc (Nat.le_refl _) _))).mono ?_
    rintro e w1 ⟨rfl, hb⟩
    have hz : w.heap.size < w1.heap.size := by have := hb.size; simp at this; omega
    have g0 : w1.cell? ⟨w.heap.size, 0, none⟩ = some (.int .i64 op) := (hb.cell (p := ⟨w.heap.size, 0, none⟩) (by simp)).trans (by simp)
    have g1 : w1.cell? ⟨w.heap.size, 1, none⟩ = some (.int .i64 a) := (hb.cell (p := ⟨w.heap.size, 1, none⟩) (by simp)).trans (by simp)
    have g2 : w1.cell? ⟨w.heap.size, 2, none⟩ = some (.int .i64 b) := (hb.cell (p := ⟨w.heap.size, 2, none⟩) (by simp)).trans (by simp)
    have g3 : w1.cell? ⟨w.heap.size, 3, none⟩ = some (.int .i64 c) := (hb.cell (p := ⟨w.heap.size, 3, none⟩) (by simp)).trans (by simp)
    have g4 : w1.cell? ⟨w.heap.size, 4, none⟩ = some (.int .i64 n) := (hb.cell (p := ⟨w.heap.size, 4, none⟩) (by simp)).trans (by simp)
    have HB := Aside0.mk (below_step ((Below.refl w.heap.size w).alloc (Nat.le_refl _) _) hb)
    clear hb
    go_wp2_with fail
    refine (fields_calls 1 (by omega) (by omega) _).mono ?_
    rintro e w2 ⟨rfl, rfl⟩
    simp only [show hasA 1 = false from rfl, show hasB 1 = false from rfl, show hasC 1 = false from rfl, show hasN 1 = false from rfl]
    go_wp2_with (go_at_call 88; refine (range_calls _ (by omega) (by omega) _).mono ?_; rintro e w2 ⟨rfl, rfl⟩)
    all_goals
      go_ret
      refine ⟨congrArg (fun z => Ending.returned (.bool z)) ?_, by repeat (first | exact HB.out | refine Below.setCell ?_ (by first | omega | (simp <;> omega)) _ | refine Below.alloc ?_ (by first | omega | (simp <;> omega)) _)⟩
      try subst_vars
      first
        | exact (decide_eq_true (HV.out.2 (by omega))).symm
        | exact (decide_eq_true (HV.out.2 (by simp <;> omega))).symm
        | exact (decide_eq_false (fun h => by have := HV.out.1 h; omega)).symm
        | (by_cases hq : n ≤ hiN op
           · rw [decide_eq_true hq]; exact (decide_eq_true (HV.out.2 (by omega))).symm
           · rw [decide_eq_false hq]; exact (decide_eq_false (fun h => by have := HV.out.1 h; omega)).symm)
set_option maxRecDepth 100000 in
set_option maxHeartbeats 4000000 in
theorem val_2 (op a b c n : Int) (w : World) (h1 : 1 ≤ op) (h2 : op ≤ 37) (h6 : (op == 6) = false) (hfm : formOf op = 2) (HT : Aside0 (TabOK w)) (nm : ByteArray) (b1 b2 b3 b4 : Bool) (wd : Int)
    (HI : Hid (∀ W, TabOK W → Calls Tryd.prog 59 #[.int .i64 op] W fun e w' => e = .returned (.tuple #[.agg #[.string nm, .int .i64 2, .bool b1, .bool b2, .bool b3, .bool b4, .int .i64 wd], .bool true]) ∧ Below W.heap.size W w')) :
    Calls Tryd.prog 69 #[.agg #[.int .i64 op, .int .i64 a, .int .i64 b, .int .i64 c, .int .i64 n]] w fun e w' => e = .returned (.bool (valB op a b c n)) ∧ Below w.heap.size w w' := by
  have hV : Val op a b c n ↔ (b = 0 ∧ c = 0 ∧ n = 0 ∧ 0 ≤ a ∧ a ≤ 7) := by
    have e6 : op ≠ 6 := fun e => by rw [e] at h6; cases h6
    unfold Val
    rw [hfm]
    simp only [show hasA 2 = true from rfl, show hasB 2 = false from rfl, show hasC 2 = false from rfl, show hasN 2 = false from rfl, e6, Bool.false_eq_true, false_or, true_or, if_true, if_false, true_and, false_implies, true_implies, and_true]
    omega
  clear hfm
  by_cases hn : n = 0
  · subst hn
    have HV := Lib.hid hV
    clear hV
    go_enter Tryd.func69, Tryd.ntmps69
    go_wp2_with fail
    refine (HI.out _ (HT.out.below ((Below.refl _ _).alloc (Nat.le_refl _) _))).mono ?_
    rintro e w1 ⟨rfl, hb⟩
    have hz : w.heap.size < w1.heap.size := by have := hb.size; simp at this; omega
    have g0 : w1.cell? ⟨w.heap.size, 0, none⟩ = some (.int .i64 op) := (hb.cell (p := ⟨w.heap.size, 0, none⟩) (by simp)).trans (by simp)
    have g1 : w1.cell? ⟨w.heap.size, 1, none⟩ = some (.int .i64 a) := (hb.cell (p := ⟨w.heap.size, 1, none⟩) (by simp)).trans (by simp)
    have g2 : w1.cell? ⟨w.heap.size, 2, none⟩ = some (.int .i64 b) := (hb.cell (p := ⟨w.heap.size, 2, none⟩) (by simp)).trans (by simp)
    have g3 : w1.cell? ⟨w.heap.size, 3, none⟩ = some (.int .i64 c) := (hb.cell (p := ⟨w.heap.size, 3, none⟩) (by simp)).trans (by simp)
    have g4 : w1.cell? ⟨w.heap.size, 4, none⟩ = some (.int .i64 0) := (hb.cell (p := ⟨w.heap.size, 4, none⟩) (by simp)).trans (by simp)
    have HB := Aside0.mk (below_step ((Below.refl w.heap.size w).alloc (Nat.le_refl _) _) hb)
    clear hb
    go_wp2_with fail
    refine (fields_calls 2 (by omega) (by omega) _).mono ?_
    rintro e w2 ⟨rfl, rfl⟩
    simp only [show hasA 2 = true from rfl, show hasB 2 = false from rfl, show hasC 2 = false from rfl, show hasN 2 = false from rfl]
    go_wp2_with (go_at_call 88; refine (range_calls _ (by omega) (by omega) _).mono ?_; rintro e w2 ⟨rfl, rfl⟩)
    all_goals
      go_ret
      refine ⟨congrArg (fun z => Ending.returned (.bool z)) ?_, by repeat (first | exact HB.out | refine Below.setCell ?_ (by first | omega | (simp <;> omega)) _ | refine Below.alloc ?_ (by first | omega | (simp <;> omega)) _)⟩
      try subst_vars
      first
        | exact (decide_eq_true (HV.out.2 (by omega))).symm
        | exact (decide_eq_true (HV.out.2 (by simp <;> omega))).symm
        | exact (decide_eq_false (fun h => by have := HV.out.1 h; omega)).symm
        | (by_cases hq : n ≤ hiN op
           · rw [decide_eq_true hq]; exact (decide_eq_true (HV.out.2 (by omega))).symm
           · rw [decide_eq_false hq]; exact (decide_eq_false (fun h => by have := HV.out.1 h; omega)).symm)
  · have hne : (n != 0) = true := bne_iff_ne.2 hn
    have HV := Lib.hid hV
    clear hV
    go_enter Tryd.func69, Tryd.ntmps69
    go_wp2_with fail
    refine (HI.out _ (HT.out.below ((Below.refl _ _).alloc (Nat.le_refl _) _))).mono ?_
    rintro e w1 ⟨rfl, hb⟩
    have hz : w.heap.size < w1.heap.size := by have := hb.size; simp at this; omega
    have g0 : w1.cell? ⟨w.heap.size, 0, none⟩ = some (.int .i64 op) := (hb.cell (p := ⟨w.heap.size, 0, none⟩) (by simp)).trans (by simp)
    have g1 : w1.cell? ⟨w.heap.size, 1, none⟩ = some (.int .i64 a) := (hb.cell (p := ⟨w.heap.size, 1, none⟩) (by simp)).trans (by simp)
    have g2 : w1.cell? ⟨w.heap.size, 2, none⟩ = some (.int .i64 b) := (hb.cell (p := ⟨w.heap.size, 2, none⟩) (by simp)).trans (by simp)
    have g3 : w1.cell? ⟨w.heap.size, 3, none⟩ = some (.int .i64 c) := (hb.cell (p := ⟨w.heap.size, 3, none⟩) (by simp)).trans (by simp)
    have g4 : w1.cell? ⟨w.heap.size, 4, none⟩ = some (.int .i64 n) := (hb.cell (p := ⟨w.heap.size, 4, none⟩) (by simp)).trans (by simp)
    have HB := Aside0.mk (below_step ((Below.refl w.heap.size w).alloc (Nat.le_refl _) _) hb)
    clear hb
    go_wp2_with fail
    refine (fields_calls 2 (by omega) (by omega) _).mono ?_
    rintro e w2 ⟨rfl, rfl⟩
    simp only [show hasA 2 = true from rfl, show hasB 2 = false from rfl, show hasC 2 = false from rfl, show hasN 2 = false from rfl]
    go_wp2_with (go_at_call 88; refine (range_calls _ (by omega) (by omega) _).mono ?_; rintro e w2 ⟨rfl, rfl⟩)
    all_goals
      go_ret
      refine ⟨congrArg (fun z => Ending.returned (.bool z)) ?_, by repeat (first | exact HB.out | refine Below.setCell ?_ (by first | omega | (simp <;> omega)) _ | refine Below.alloc ?_ (by first | omega | (simp <;> omega)) _)⟩
      try subst_vars
      first
        | exact (decide_eq_true (HV.out.2 (by omega))).symm
        | exact (decide_eq_true (HV.out.2 (by simp <;> omega))).symm
        | exact (decide_eq_false (fun h => by have := HV.out.1 h; omega)).symm
        | (by_cases hq : n ≤ hiN op
           · rw [decide_eq_true hq]; exact (decide_eq_true (HV.out.2 (by omega))).symm
           · rw [decide_eq_false hq]; exact (decide_eq_false (fun h => by have := HV.out.1 h; omega)).symm)
set_option maxRecDepth 100000 in
set_option maxHeartbeats 4000000 in
theorem val_3 (op a b c n : Int) (w : World) (h1 : 1 ≤ op) (h2 : op ≤ 37) (h6 : (op == 6) = false) (hfm : formOf op = 3) (HT : Aside0 (TabOK w)) (nm : ByteArray) (b1 b2 b3 b4 : Bool) (wd : Int)
    (HI : Hid (∀ W, TabOK W → Calls Tryd.prog 59 #[.int .i64 op] W fun e w' => e = .returned (.tuple #[.agg #[.string nm, .int .i64 3, .bool b1, .bool b2, .bool b3, .bool b4, .int .i64 wd], .bool true]) ∧ Below W.heap.size W w')) :
    Calls Tryd.prog 69 #[.agg #[.int .i64 op, .int .i64 a, .int .i64 b, .int .i64 c, .int .i64 n]] w fun e w' => e = .returned (.bool (valB op a b c n)) ∧ Below w.heap.size w w' := by
  have hV : Val op a b c n ↔ (c = 0 ∧ n = 0 ∧ 0 ≤ a ∧ a ≤ 7 ∧ 0 ≤ b ∧ b < 8) := by
    have e6 : op ≠ 6 := fun e => by rw [e] at h6; cases h6
    unfold Val
    rw [hfm]
    simp only [show hasA 3 = true from rfl, show hasB 3 = true from rfl, show hasC 3 = false from rfl, show hasN 3 = false from rfl, e6, Bool.false_eq_true, false_or, true_or, if_true, if_false, true_and, false_implies, true_implies, and_true]
    omega
  clear hfm
  by_cases hn : n = 0
  · subst hn
    have HV := Lib.hid hV
    clear hV
    go_enter Tryd.func69, Tryd.ntmps69
    go_wp2_with fail
    refine (HI.out _ (HT.out.below ((Below.refl _ _).alloc (Nat.le_refl _) _))).mono ?_
    rintro e w1 ⟨rfl, hb⟩
    have hz : w.heap.size < w1.heap.size := by have := hb.size; simp at this; omega
    have g0 : w1.cell? ⟨w.heap.size, 0, none⟩ = some (.int .i64 op) := (hb.cell (p := ⟨w.heap.size, 0, none⟩) (by simp)).trans (by simp)
    have g1 : w1.cell? ⟨w.heap.size, 1, none⟩ = some (.int .i64 a) := (hb.cell (p := ⟨w.heap.size, 1, none⟩) (by simp)).trans (by simp)
    have g2 : w1.cell? ⟨w.heap.size, 2, none⟩ = some (.int .i64 b) := (hb.cell (p := ⟨w.heap.size, 2, none⟩) (by simp)).trans (by simp)
    have g3 : w1.cell? ⟨w.heap.size, 3, none⟩ = some (.int .i64 c) := (hb.cell (p := ⟨w.heap.size, 3, none⟩) (by simp)).trans (by simp)
    have g4 : w1.cell? ⟨w.heap.size, 4, none⟩ = some (.int .i64 0) := (hb.cell (p := ⟨w.heap.size, 4, none⟩) (by simp)).trans (by simp)
    have HB := Aside0.mk (below_step ((Below.refl w.heap.size w).alloc (Nat.le_refl _) _) hb)
    clear hb
    go_wp2_with fail
    refine (fields_calls 3 (by omega) (by omega) _).mono ?_
    rintro e w2 ⟨rfl, rfl⟩
    simp only [show hasA 3 = true from rfl, show hasB 3 = true from rfl, show hasC 3 = false from rfl, show hasN 3 = false from rfl]
    go_wp2_with (go_at_call 88; refine (range_calls _ (by omega) (by omega) _).mono ?_; rintro e w2 ⟨rfl, rfl⟩)
    all_goals
      go_ret
      refine ⟨congrArg (fun z => Ending.returned (.bool z)) ?_, by repeat (first | exact HB.out | refine Below.setCell ?_ (by first | omega | (simp <;> omega)) _ | refine Below.alloc ?_ (by first | omega | (simp <;> omega)) _)⟩
      try subst_vars
      first
        | exact (decide_eq_true (HV.out.2 (by omega))).symm
        | exact (decide_eq_true (HV.out.2 (by simp <;> omega))).symm
        | exact (decide_eq_false (fun h => by have := HV.out.1 h; omega)).symm
        | (by_cases hq : n ≤ hiN op
           · rw [decide_eq_true hq]; exact (decide_eq_true (HV.out.2 (by omega))).symm
           · rw [decide_eq_false hq]; exact (decide_eq_false (fun h => by have := HV.out.1 h; omega)).symm)
  · have hne : (n != 0) = true := bne_iff_ne.2 hn
    have HV := Lib.hid hV
    clear hV
    go_enter Tryd.func69, Tryd.ntmps69
    go_wp2_with fail
    refine (HI.out _ (HT.out.below ((Below.refl _ _).alloc (Nat.le_refl _) _))).mono ?_
    rintro e w1 ⟨rfl, hb⟩
    have hz : w.heap.size < w1.heap.size := by have := hb.size; simp at this; omega
    have g0 : w1.cell? ⟨w.heap.size, 0, none⟩ = some (.int .i64 op) := (hb.cell (p := ⟨w.heap.size, 0, none⟩) (by simp)).trans (by simp)
    have g1 : w1.cell? ⟨w.heap.size, 1, none⟩ = some (.int .i64 a) := (hb.cell (p := ⟨w.heap.size, 1, none⟩) (by simp)).trans (by simp)
    have g2 : w1.cell? ⟨w.heap.size, 2, none⟩ = some (.int .i64 b) := (hb.cell (p := ⟨w.heap.size, 2, none⟩) (by simp)).trans (by simp)
    have g3 : w1.cell? ⟨w.heap.size, 3, none⟩ = some (.int .i64 c) := (hb.cell (p := ⟨w.heap.size, 3, none⟩) (by simp)).trans (by simp)
    have g4 : w1.cell? ⟨w.heap.size, 4, none⟩ = some (.int .i64 n) := (hb.cell (p := ⟨w.heap.size, 4, none⟩) (by simp)).trans (by simp)
    have HB := Aside0.mk (below_step ((Below.refl w.heap.size w).alloc (Nat.le_refl _) _) hb)
    clear hb
    go_wp2_with fail
    refine (fields_calls 3 (by omega) (by omega) _).mono ?_
    rintro e w2 ⟨rfl, rfl⟩
    simp only [show hasA 3 = true from rfl, show hasB 3 = true from rfl, show hasC 3 = false from rfl, show hasN 3 = false from rfl]
    go_wp2_with (go_at_call 88; refine (range_calls _ (by omega) (by omega) _).mono ?_; rintro e w2 ⟨rfl, rfl⟩)
    all_goals
      go_ret
      refine ⟨congrArg (fun z => Ending.returned (.bool z)) ?_, by repeat (first | exact HB.out | refine Below.setCell ?_ (by first | omega | (simp <;> omega)) _ | refine Below.alloc ?_ (by first | omega | (simp <;> omega)) _)⟩
      try subst_vars
      first
        | exact (decide_eq_true (HV.out.2 (by omega))).symm
        | exact (decide_eq_true (HV.out.2 (by simp <;> omega))).symm
        | exact (decide_eq_false (fun h => by have := HV.out.1 h; omega)).symm
        | (by_cases hq : n ≤ hiN op
           · rw [decide_eq_true hq]; exact (decide_eq_true (HV.out.2 (by omega))).symm
           · rw [decide_eq_false hq]; exact (decide_eq_false (fun h => by have := HV.out.1 h; omega)).symm)
set_option maxRecDepth 100000 in
set_option maxHeartbeats 4000000 in
theorem val_4 (op a b c n : Int) (w : World) (h1 : 1 ≤ op) (h2 : op ≤ 37) (h6 : (op == 6) = false) (hfm : formOf op = 4) (HT : Aside0 (TabOK w)) (nm : ByteArray) (b1 b2 b3 b4 : Bool) (wd : Int)
    (HI : Hid (∀ W, TabOK W → Calls Tryd.prog 59 #[.int .i64 op] W fun e w' => e = .returned (.tuple #[.agg #[.string nm, .int .i64 4, .bool b1, .bool b2, .bool b3, .bool b4, .int .i64 wd], .bool true]) ∧ Below W.heap.size W w')) :
    Calls Tryd.prog 69 #[.agg #[.int .i64 op, .int .i64 a, .int .i64 b, .int .i64 c, .int .i64 n]] w fun e w' => e = .returned (.bool (valB op a b c n)) ∧ Below w.heap.size w w' := by
  have hV : Val op a b c n ↔ (n = 0 ∧ 0 ≤ a ∧ a ≤ 7 ∧ 0 ≤ b ∧ b < 8 ∧ 0 ≤ c ∧ c < 8) := by
    have e6 : op ≠ 6 := fun e => by rw [e] at h6; cases h6
    unfold Val
    rw [hfm]
    simp only [show hasA 4 = true from rfl, show hasB 4 = true from rfl, show hasC 4 = true from rfl, show hasN 4 = false from rfl, e6, Bool.false_eq_true, false_or, true_or, if_true, if_false, true_and, false_implies, true_implies, and_true]
    omega
  clear hfm
  by_cases hn : n = 0
  · subst hn
    have HV := Lib.hid hV
    clear hV
    go_enter Tryd.func69, Tryd.ntmps69
    go_wp2_with fail
    refine (HI.out _ (HT.out.below ((Below.refl _ _).alloc (Nat.le_refl _) _))).mono ?_
    rintro e w1 ⟨rfl, hb⟩
    have hz : w.heap.size < w1.heap.size := by have := hb.size; simp at this; omega
    have g0 : w1.cell? ⟨w.heap.size, 0, none⟩ = some (.int .i64 op) := (hb.cell (p := ⟨w.heap.size, 0, none⟩) (by simp)).trans (by simp)
    have g1 : w1.cell? ⟨w.heap.size, 1, none⟩ = some (.int .i64 a) := (hb.cell (p := ⟨w.heap.size, 1, none⟩) (by simp)).trans (by simp)
    have g2 : w1.cell? ⟨w.heap.size, 2, none⟩ = some (.int .i64 b) := (hb.cell (p := ⟨w.heap.size, 2, none⟩) (by simp)).trans (by simp)
    have g3 : w1.cell? ⟨w.heap.size, 3, none⟩ = some (.int .i64 c) := (hb.cell (p := ⟨w.heap.size, 3, none⟩) (by simp)).trans (by simp)
    have g4 : w1.cell? ⟨w.heap.size, 4, none⟩ = some (.int .i64 0) := (hb.cell (p := ⟨w.heap.size, 4, none⟩) (by simp)).trans (by simp)
    have HB := Aside0.mk (below_step ((Below.refl w.heap.size w).alloc (Nat.le_refl _) _) hb)
    clear hb
    go_wp2_with fail
    refine (fields_calls 4 (by omega) (by omega) _).mono ?_
    rintro e w2 ⟨rfl, rfl⟩
    simp only [show hasA 4 = true from rfl, show hasB 4 = true from rfl, show hasC 4 = true from rfl, show hasN 4 = false from rfl]
    go_wp2_with (go_at_call 88; refine (range_calls _ (by omega) (by omega) _).mono ?_; rintro e w2 ⟨rfl, rfl⟩)
    all_goals
      go_ret
      refine ⟨congrArg (fun z => Ending.returned (.bool z)) ?_, by repeat (first | exact HB.out | refine Below.setCell ?_ (by first | omega | (simp <;> omega)) _ | refine Below.alloc ?_ (by first | omega | (simp <;> omega)) _)⟩
      try subst_vars
      first
        | exact (decide_eq_true (HV.out.2 (by omega))).symm
        | exact (decide_eq_true (HV.out.2 (by simp <;> omega))).symm
        | exact (decide_eq_false (fun h => by have := HV.out.1 h; omega)).symm
        | (by_cases hq : n ≤ hiN op
           · rw [decide_eq_true hq]; exact (decide_eq_true (HV.out.2 (by omega))).symm
           · rw [decide_eq_false hq]; exact (decide_eq_false (fun h => by have := HV.out.1 h; omega)).symm)
  · have hne : (n != 0) = true := bne_iff_ne.2 hn
    have HV := Lib.hid hV
    clear hV
    go_enter Tryd.func69, Tryd.ntmps69
    go_wp2_with fail
    refine (HI.out _ (HT.out.below ((Below.refl _ _).alloc (Nat.le_refl _) _))).mono ?_
    rintro e w1 ⟨rfl, hb⟩
    have hz : w.heap.size < w1.heap.size := by have := hb.size; simp at this; omega
    have g0 : w1.cell? ⟨w.heap.size, 0, none⟩ = some (.int .i64 op) := (hb.cell (p := ⟨w.heap.size, 0, none⟩) (by simp)).trans (by simp)
    have g1 : w1.cell? ⟨w.heap.size, 1, none⟩ = some (.int .i64 a) := (hb.cell (p := ⟨w.heap.size, 1, none⟩) (by simp)).trans (by simp)
    have g2 : w1.cell? ⟨w.heap.size, 2, none⟩ = some (.int .i64 b) := (hb.cell (p := ⟨w.heap.size, 2, none⟩) (by simp)).trans (by simp)
    have g3 : w1.cell? ⟨w.heap.size, 3, none⟩ = some (.int .i64 c) := (hb.cell (p := ⟨w.heap.size, 3, none⟩) (by simp)).trans (by simp)
    have g4 : w1.cell? ⟨w.heap.size, 4, none⟩ = some (.int .i64 n) := (hb.cell (p := ⟨w.heap.size, 4, none⟩) (by simp)).trans (by simp)
    have HB := Aside0.mk (below_step ((Below.refl w.heap.size w).alloc (Nat.le_refl _) _) hb)
    clear hb
    go_wp2_with fail
    refine (fields_calls 4 (by omega) (by omega) _).mono ?_
    rintro e w2 ⟨rfl, rfl⟩
    simp only [show hasA 4 = true from rfl, show hasB 4 = true from rfl, show hasC 4 = true from rfl, show hasN 4 = false from rfl]
    go_wp2_with (go_at_call 88; refine (range_calls _ (by omega) (by omega) _).mono ?_; rintro e w2 ⟨rfl, rfl⟩)
    all_goals
      go_ret
      refine ⟨congrArg (fun z => Ending.returned (.bool z)) ?_, by repeat (first | exact HB.out | refine Below.setCell ?_ (by first | omega | (simp <;> omega)) _ | refine Below.alloc ?_ (by first | omega | (simp <;> omega)) _)⟩
      try subst_vars
      first
        | exact (decide_eq_true (HV.out.2 (by omega))).symm
        | exact (decide_eq_true (HV.out.2 (by simp <;> omega))).symm
        | exact (decide_eq_false (fun h => by have := HV.out.1 h; omega)).symm
        | (by_cases hq : n ≤ hiN op
           · rw [decide_eq_true hq]; exact (decide_eq_true (HV.out.2 (by omega))).symm
           · rw [decide_eq_false hq]; exact (decide_eq_false (fun h => by have := HV.out.1 h; omega)).symm)
set_option maxRecDepth 100000 in
set_option maxHeartbeats 4000000 in
theorem val_5 (op a b c n : Int) (w : World) (h1 : 1 ≤ op) (h2 : op ≤ 37) (h6 : (op == 6) = false) (hfm : formOf op = 5) (HT : Aside0 (TabOK w)) (nm : ByteArray) (b1 b2 b3 b4 : Bool) (wd : Int)
    (HI : Hid (∀ W, TabOK W → Calls Tryd.prog 59 #[.int .i64 op] W fun e w' => e = .returned (.tuple #[.agg #[.string nm, .int .i64 5, .bool b1, .bool b2, .bool b3, .bool b4, .int .i64 wd], .bool true]) ∧ Below W.heap.size W w')) :
    Calls Tryd.prog 69 #[.agg #[.int .i64 op, .int .i64 a, .int .i64 b, .int .i64 c, .int .i64 n]] w fun e w' => e = .returned (.bool (valB op a b c n)) ∧ Below w.heap.size w w' := by
  have hV : Val op a b c n ↔ (b = 0 ∧ c = 0 ∧ 0 ≤ a ∧ a ≤ 7 ∧ loN op ≤ n ∧ n ≤ hiN op) := by
    have e6 : op ≠ 6 := fun e => by rw [e] at h6; cases h6
    unfold Val
    rw [hfm]
    simp only [show hasA 5 = true from rfl, show hasB 5 = false from rfl, show hasC 5 = false from rfl, show hasN 5 = true from rfl, e6, Bool.false_eq_true, false_or, true_or, if_true, if_false, true_and, false_implies, true_implies, and_true]
    omega
  clear hfm
  · have HV := Lib.hid hV
    clear hV
    go_enter Tryd.func69, Tryd.ntmps69
    go_wp2_with fail
    refine (HI.out _ (HT.out.below ((Below.refl _ _).alloc (Nat.le_refl _) _))).mono ?_
    rintro e w1 ⟨rfl, hb⟩
    have hz : w.heap.size < w1.heap.size := by have := hb.size; simp at this; omega
    have g0 : w1.cell? ⟨w.heap.size, 0, none⟩ = some (.int .i64 op) := (hb.cell (p := ⟨w.heap.size, 0, none⟩) (by simp)).trans (by simp)
    have g1 : w1.cell? ⟨w.heap.size, 1, none⟩ = some (.int .i64 a) := (hb.cell (p := ⟨w.heap.size, 1, none⟩) (by simp)).trans (by simp)
    have g2 : w1.cell? ⟨w.heap.size, 2, none⟩ = some (.int .i64 b) := (hb.cell (p := ⟨w.heap.size, 2, none⟩) (by simp)).trans (by simp)
    have g3 : w1.cell? ⟨w.heap.size, 3, none⟩ = some (.int .i64 c) := (hb.cell (p := ⟨w.heap.size, 3, none⟩) (by simp)).trans (by simp)
    have g4 : w1.cell? ⟨w.heap.size, 4, none⟩ = some (.int .i64 n) := (hb.cell (p := ⟨w.heap.size, 4, none⟩) (by simp)).trans (by simp)
    have HB := Aside0.mk (below_step ((Below.refl w.heap.size w).alloc (Nat.le_refl _) _) hb)
    clear hb
    go_wp2_with fail
    refine (fields_calls 5 (by omega) (by omega) _).mono ?_
    rintro e w2 ⟨rfl, rfl⟩
    simp only [show hasA 5 = true from rfl, show hasB 5 = false from rfl, show hasC 5 = false from rfl, show hasN 5 = true from rfl]
    go_wp2_with (go_at_call 88; refine (range_calls _ (by omega) (by omega) _).mono ?_; rintro e w2 ⟨rfl, rfl⟩)
    all_goals
      go_ret
      refine ⟨congrArg (fun z => Ending.returned (.bool z)) ?_, by repeat (first | exact HB.out | refine Below.setCell ?_ (by first | omega | (simp <;> omega)) _ | refine Below.alloc ?_ (by first | omega | (simp <;> omega)) _)⟩
      try subst_vars
      first
        | exact (decide_eq_true (HV.out.2 (by omega))).symm
        | exact (decide_eq_true (HV.out.2 (by simp <;> omega))).symm
        | exact (decide_eq_false (fun h => by have := HV.out.1 h; omega)).symm
        | (by_cases hq : n ≤ hiN op
           · rw [decide_eq_true hq]; exact (decide_eq_true (HV.out.2 (by omega))).symm
           · rw [decide_eq_false hq]; exact (decide_eq_false (fun h => by have := HV.out.1 h; omega)).symm)
set_option maxRecDepth 100000 in
set_option maxHeartbeats 4000000 in
theorem val_6 (op a b c n : Int) (w : World) (h1 : 1 ≤ op) (h2 : op ≤ 37) (h6 : (op == 6) = false) (hfm : formOf op = 6) (HT : Aside0 (TabOK w)) (nm : ByteArray) (b1 b2 b3 b4 : Bool) (wd : Int)
    (HI : Hid (∀ W, TabOK W → Calls Tryd.prog 59 #[.int .i64 op] W fun e w' => e = .returned (.tuple #[.agg #[.string nm, .int .i64 6, .bool b1, .bool b2, .bool b3, .bool b4, .int .i64 wd], .bool true]) ∧ Below W.heap.size W w')) :
    Calls Tryd.prog 69 #[.agg #[.int .i64 op, .int .i64 a, .int .i64 b, .int .i64 c, .int .i64 n]] w fun e w' => e = .returned (.bool (valB op a b c n)) ∧ Below w.heap.size w w' := by
  have hV : Val op a b c n ↔ (b = 0 ∧ c = 0 ∧ 0 ≤ a ∧ a ≤ 7 ∧ loN op ≤ n ∧ n ≤ hiN op) := by
    have e6 : op ≠ 6 := fun e => by rw [e] at h6; cases h6
    unfold Val
    rw [hfm]
    simp only [show hasA 6 = true from rfl, show hasB 6 = false from rfl, show hasC 6 = false from rfl, show hasN 6 = true from rfl, e6, Bool.false_eq_true, false_or, true_or, if_true, if_false, true_and, false_implies, true_implies, and_true]
    omega
  clear hfm
  · have HV := Lib.hid hV
    clear hV
    go_enter Tryd.func69, Tryd.ntmps69
    go_wp2_with fail
    refine (HI.out _ (HT.out.below ((Below.refl _ _).alloc (Nat.le_refl _) _))).mono ?_
    rintro e w1 ⟨rfl, hb⟩
    have hz : w.heap.size < w1.heap.size := by have := hb.size; simp at this; omega
    have g0 : w1.cell? ⟨w.heap.size, 0, none⟩ = some (.int .i64 op) := (hb.cell (p := ⟨w.heap.size, 0, none⟩) (by simp)).trans (by simp)
    have g1 : w1.cell? ⟨w.heap.size, 1, none⟩ = some (.int .i64 a) := (hb.cell (p := ⟨w.heap.size, 1, none⟩) (by simp)).trans (by simp)
    have g2 : w1.cell? ⟨w.heap.size, 2, none⟩ = some (.int .i64 b) := (hb.cell (p := ⟨w.heap.size, 2, none⟩) (by simp)).trans (by simp)
    have g3 : w1.cell? ⟨w.heap.size, 3, none⟩ = some (.int .i64 c) := (hb.cell (p := ⟨w.heap.size, 3, none⟩) (by simp)).trans (by simp)
    have g4 : w1.cell? ⟨w.heap.size, 4, none⟩ = some (.int .i64 n) := (hb.cell (p := ⟨w.heap.size, 4, none⟩) (by simp)).trans (by simp)
    have HB := Aside0.mk (below_step ((Below.refl w.heap.size w).alloc (Nat.le_refl _) _) hb)
    clear hb
    go_wp2_with fail
    refine (fields_calls 6 (by omega) (by omega) _).mono ?_
    rintro e w2 ⟨rfl, rfl⟩
    simp only [show hasA 6 = true from rfl, show hasB 6 = false from rfl, show hasC 6 = false from rfl, show hasN 6 = true from rfl]
    go_wp2_with (go_at_call 88; refine (range_calls _ (by omega) (by omega) _).mono ?_; rintro e w2 ⟨rfl, rfl⟩)
    all_goals
      go_ret
      refine ⟨congrArg (fun z => Ending.returned (.bool z)) ?_, by repeat (first | exact HB.out | refine Below.setCell ?_ (by first | omega | (simp <;> omega)) _ | refine Below.alloc ?_ (by first | omega | (simp <;> omega)) _)⟩
      try subst_vars
      first
        | exact (decide_eq_true (HV.out.2 (by omega))).symm
        | exact (decide_eq_true (HV.out.2 (by simp <;> omega))).symm
        | exact (decide_eq_false (fun h => by have := HV.out.1 h; omega)).symm
        | (by_cases hq : n ≤ hiN op
           · rw [decide_eq_true hq]; exact (decide_eq_true (HV.out.2 (by omega))).symm
           · rw [decide_eq_false hq]; exact (decide_eq_false (fun h => by have := HV.out.1 h; omega)).symm)
set_option maxRecDepth 100000 in
set_option maxHeartbeats 4000000 in
theorem val_7 (op a b c n : Int) (w : World) (h1 : 1 ≤ op) (h2 : op ≤ 37) (h6 : (op == 6) = false) (hfm : formOf op = 7) (HT : Aside0 (TabOK w)) (nm : ByteArray) (b1 b2 b3 b4 : Bool) (wd : Int)
    (HI : Hid (∀ W, TabOK W → Calls Tryd.prog 59 #[.int .i64 op] W fun e w' => e = .returned (.tuple #[.agg #[.string nm, .int .i64 7, .bool b1, .bool b2, .bool b3, .bool b4, .int .i64 wd], .bool true]) ∧ Below W.heap.size W w')) :
    Calls Tryd.prog 69 #[.agg #[.int .i64 op, .int .i64 a, .int .i64 b, .int .i64 c, .int .i64 n]] w fun e w' => e = .returned (.bool (valB op a b c n)) ∧ Below w.heap.size w w' := by
  have hV : Val op a b c n ↔ (c = 0 ∧ 0 ≤ a ∧ a ≤ 7 ∧ 0 ≤ b ∧ b < 8 ∧ loN op ≤ n ∧ n ≤ hiN op) := by
    have e6 : op ≠ 6 := fun e => by rw [e] at h6; cases h6
    unfold Val
    rw [hfm]
    simp only [show hasA 7 = true from rfl, show hasB 7 = true from rfl, show hasC 7 = false from rfl, show hasN 7 = true from rfl, e6, Bool.false_eq_true, false_or, true_or, if_true, if_false, true_and, false_implies, true_implies, and_true]
    omega
  clear hfm
  · have HV := Lib.hid hV
    clear hV
    go_enter Tryd.func69, Tryd.ntmps69
    go_wp2_with fail
    refine (HI.out _ (HT.out.below ((Below.refl _ _).alloc (Nat.le_refl _) _))).mono ?_
    rintro e w1 ⟨rfl, hb⟩
    have hz : w.heap.size < w1.heap.size := by have := hb.size; simp at this; omega
    have g0 : w1.cell? ⟨w.heap.size, 0, none⟩ = some (.int .i64 op) := (hb.cell (p := ⟨w.heap.size, 0, none⟩) (by simp)).trans (by simp)
    have g1 : w1.cell? ⟨w.heap.size, 1, none⟩ = some (.int .i64 a) := (hb.cell (p := ⟨w.heap.size, 1, none⟩) (by simp)).trans (by simp)
    have g2 : w1.cell? ⟨w.heap.size, 2, none⟩ = some (.int .i64 b) := (hb.cell (p := ⟨w.heap.size, 2, none⟩) (by simp)).trans (by simp)
    have g3 : w1.cell? ⟨w.heap.size, 3, none⟩ = some (.int .i64 c) := (hb.cell (p := ⟨w.heap.size, 3, none⟩) (by simp)).trans (by simp)
    have g4 : w1.cell? ⟨w.heap.size, 4, none⟩ = some (.int .i64 n) := (hb.cell (p := ⟨w.heap.size, 4, none⟩) (by simp)).trans (by simp)
    have HB := Aside0.mk (below_step ((Below.refl w.heap.size w).alloc (Nat.le_refl _) _) hb)
    clear hb
    go_wp2_with fail
    refine (fields_calls 7 (by omega) (by omega) _).mono ?_
    rintro e w2 ⟨rfl, rfl⟩
    simp only [show hasA 7 = true from rfl, show hasB 7 = true from rfl, show hasC 7 = false from rfl, show hasN 7 = true from rfl]
    go_wp2_with (go_at_call 88; refine (range_calls _ (by omega) (by omega) _).mono ?_; rintro e w2 ⟨rfl, rfl⟩)
    all_goals
      go_ret
      refine ⟨congrArg (fun z => Ending.returned (.bool z)) ?_, by repeat (first | exact HB.out | refine Below.setCell ?_ (by first | omega | (simp <;> omega)) _ | refine Below.alloc ?_ (by first | omega | (simp <;> omega)) _)⟩
      try subst_vars
      first
        | exact (decide_eq_true (HV.out.2 (by omega))).symm
        | exact (decide_eq_true (HV.out.2 (by simp <;> omega))).symm
        | exact (decide_eq_false (fun h => by have := HV.out.1 h; omega)).symm
        | (by_cases hq : n ≤ hiN op
           · rw [decide_eq_true hq]; exact (decide_eq_true (HV.out.2 (by omega))).symm
           · rw [decide_eq_false hq]; exact (decide_eq_false (fun h => by have := HV.out.1 h; omega)).symm)
set_option maxRecDepth 100000 in
set_option maxHeartbeats 4000000 in
theorem val_8 (op a b c n : Int) (w : World) (h1 : 1 ≤ op) (h2 : op ≤ 37) (h6 : (op == 6) = false) (hfm : formOf op = 8) (HT : Aside0 (TabOK w)) (nm : ByteArray) (b1 b2 b3 b4 : Bool) (wd : Int)
    (HI : Hid (∀ W, TabOK W → Calls Tryd.prog 59 #[.int .i64 op] W fun e w' => e = .returned (.tuple #[.agg #[.string nm, .int .i64 8, .bool b1, .bool b2, .bool b3, .bool b4, .int .i64 wd], .bool true]) ∧ Below W.heap.size W w')) :
    Calls Tryd.prog 69 #[.agg #[.int .i64 op, .int .i64 a, .int .i64 b, .int .i64 c, .int .i64 n]] w fun e w' => e = .returned (.bool (valB op a b c n)) ∧ Below w.heap.size w w' := by
  have hV : Val op a b c n ↔ (a = 0 ∧ b = 0 ∧ c = 0 ∧ loN op ≤ n ∧ n ≤ hiN op) := by
    have e6 : op ≠ 6 := fun e => by rw [e] at h6; cases h6
    unfold Val
    rw [hfm]
    simp only [show hasA 8 = false from rfl, show hasB 8 = false from rfl, show hasC 8 = false from rfl, show hasN 8 = true from rfl, e6, Bool.false_eq_true, false_or, true_or, if_true, if_false, true_and, false_implies, true_implies, and_true]
    omega
  clear hfm
  · have HV := Lib.hid hV
    clear hV
    go_enter Tryd.func69, Tryd.ntmps69
    go_wp2_with fail
    refine (HI.out _ (HT.out.below ((Below.refl _ _).alloc (Nat.le_refl _) _))).mono ?_
    rintro e w1 ⟨rfl, hb⟩
    have hz : w.heap.size < w1.heap.size := by have := hb.size; simp at this; omega
    have g0 : w1.cell? ⟨w.heap.size, 0, none⟩ = some (.int .i64 op) := (hb.cell (p := ⟨w.heap.size, 0, none⟩) (by simp)).trans (by simp)
    have g1 : w1.cell? ⟨w.heap.size, 1, none⟩ = some (.int .i64 a) := (hb.cell (p := ⟨w.heap.size, 1, none⟩) (by simp)).trans (by simp)
    have g2 : w1.cell? ⟨w.heap.size, 2, none⟩ = some (.int .i64 b) := (hb.cell (p := ⟨w.heap.size, 2, none⟩) (by simp)).trans (by simp)
    have g3 : w1.cell? ⟨w.heap.size, 3, none⟩ = some (.int .i64 c) := (hb.cell (p := ⟨w.heap.size, 3, none⟩) (by simp)).trans (by simp)
    have g4 : w1.cell? ⟨w.heap.size, 4, none⟩ = some (.int .i64 n) := (hb.cell (p := ⟨w.heap.size, 4, none⟩) (by simp)).trans (by simp)
    have HB := Aside0.mk (below_step ((Below.refl w.heap.size w).alloc (Nat.le_refl _) _) hb)
    clear hb
    go_wp2_with fail
    refine (fields_calls 8 (by omega) (by omega) _).mono ?_
    rintro e w2 ⟨rfl, rfl⟩
    simp only [show hasA 8 = false from rfl, show hasB 8 = false from rfl, show hasC 8 = false from rfl, show hasN 8 = true from rfl]
    go_wp2_with (go_at_call 88; refine (range_calls _ (by omega) (by omega) _).mono ?_; rintro e w2 ⟨rfl, rfl⟩)
    all_goals
      go_ret
      refine ⟨congrArg (fun z => Ending.returned (.bool z)) ?_, by repeat (first | exact HB.out | refine Below.setCell ?_ (by first | omega | (simp <;> omega)) _ | refine Below.alloc ?_ (by first | omega | (simp <;> omega)) _)⟩
      try subst_vars
      first
        | exact (decide_eq_true (HV.out.2 (by omega))).symm
        | exact (decide_eq_true (HV.out.2 (by simp <;> omega))).symm
        | exact (decide_eq_false (fun h => by have := HV.out.1 h; omega)).symm
        | (by_cases hq : n ≤ hiN op
           · rw [decide_eq_true hq]; exact (decide_eq_true (HV.out.2 (by omega))).symm
           · rw [decide_eq_false hq]; exact (decide_eq_false (fun h => by have := HV.out.1 h; omega)).symm)
set_option maxRecDepth 100000 in
set_option maxHeartbeats 4000000 in
theorem val_5c (op a b c n : Int) (w : World) (h1 : 1 ≤ op) (h2 : op ≤ 37) (h6 : (op == 6) = true) (hfm : formOf op = 5) (HT : Aside0 (TabOK w)) (nm : ByteArray) (b1 b2 b3 b4 : Bool) (wd : Int)
    (HI : Hid (∀ W, TabOK W → Calls Tryd.prog 59 #[.int .i64 op] W fun e w' => e = .returned (.tuple #[.agg #[.string nm, .int .i64 5, .bool b1, .bool b2, .bool b3, .bool b4, .int .i64 wd], .bool true]) ∧ Below W.heap.size W w')) :
    Calls Tryd.prog 69 #[.agg #[.int .i64 op, .int .i64 a, .int .i64 b, .int .i64 c, .int .i64 n]] w fun e w' => e = .returned (.bool (valB op a b c n)) ∧ Below w.heap.size w w' := by
  have hV : Val op a b c n ↔ (b = 0 ∧ c = 0 ∧ 0 ≤ a ∧ a ≤ 6 ∧ loN op ≤ n ∧ n ≤ hiN op) := by
    have e6 : op = 6 := eq_of_beq h6
    unfold Val
    rw [hfm]
    simp only [show hasA 5 = true from rfl, show hasB 5 = false from rfl, show hasC 5 = false from rfl, show hasN 5 = true from rfl, e6, Bool.false_eq_true, false_or, true_or, if_true, if_false, true_and, false_implies, true_implies, and_true]
    omega
  clear hfm
  · have HV := Lib.hid hV
    clear hV
    go_enter Tryd.func69, Tryd.ntmps69
    go_wp2_with fail
    refine (HI.out _ (HT.out.below ((Below.refl _ _).alloc (Nat.le_refl _) _))).mono ?_
    rintro e w1 ⟨rfl, hb⟩
    have hz : w.heap.size < w1.heap.size := by have := hb.size; simp at this; omega
    have g0 : w1.cell? ⟨w.heap.size, 0, none⟩ = some (.int .i64 op) := (hb.cell (p := ⟨w.heap.size, 0, none⟩) (by simp)).trans (by simp)
    have g1 : w1.cell? ⟨w.heap.size, 1, none⟩ = some (.int .i64 a) := (hb.cell (p := ⟨w.heap.size, 1, none⟩) (by simp)).trans (by simp)
    have g2 : w1.cell? ⟨w.heap.size, 2, none⟩ = some (.int .i64 b) := (hb.cell (p := ⟨w.heap.size, 2, none⟩) (by simp)).trans (by simp)
    have g3 : w1.cell? ⟨w.heap.size, 3, none⟩ = some (.int .i64 c) := (hb.cell (p := ⟨w.heap.size, 3, none⟩) (by simp)).trans (by simp)
    have g4 : w1.cell? ⟨w.heap.size, 4, none⟩ = some (.int .i64 n) := (hb.cell (p := ⟨w.heap.size, 4, none⟩) (by simp)).trans (by simp)
    have HB := Aside0.mk (below_step ((Below.refl w.heap.size w).alloc (Nat.le_refl _) _) hb)
    clear hb
    go_wp2_with fail
    refine (fields_calls 5 (by omega) (by omega) _).mono ?_
    rintro e w2 ⟨rfl, rfl⟩
    simp only [show hasA 5 = true from rfl, show hasB 5 = false from rfl, show hasC 5 = false from rfl, show hasN 5 = true from rfl]
    go_wp2_with (go_at_call 88; refine (range_calls _ (by omega) (by omega) _).mono ?_; rintro e w2 ⟨rfl, rfl⟩)
    all_goals
      go_ret
      refine ⟨congrArg (fun z => Ending.returned (.bool z)) ?_, by repeat (first | exact HB.out | refine Below.setCell ?_ (by first | omega | (simp <;> omega)) _ | refine Below.alloc ?_ (by first | omega | (simp <;> omega)) _)⟩
      try subst_vars
      first
        | exact (decide_eq_true (HV.out.2 (by omega))).symm
        | exact (decide_eq_true (HV.out.2 (by simp <;> omega))).symm
        | exact (decide_eq_false (fun h => by have := HV.out.1 h; omega)).symm
        | (by_cases hq : n ≤ hiN op
           · rw [decide_eq_true hq]; exact (decide_eq_true (HV.out.2 (by omega))).symm
           · rw [decide_eq_false hq]; exact (decide_eq_false (fun h => by have := HV.out.1 h; omega)).symm)
end Go.Proofs.YtcjidibdidijaaaDoor
