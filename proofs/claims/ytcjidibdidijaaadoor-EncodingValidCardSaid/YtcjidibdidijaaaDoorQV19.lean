/- Parts of this proof in one text: Ins, CIns, KeepP, BinP, VaL1. -/
import Derived.Test.YtcjidibdidijaaaDoorQV17
import Derived.Test.YtcjidibdidijaaaDoorQV18
import Derived.Test.YtcjidibdidijaaaDoorQV2
import Derived.Test.YtcjidibdidijaaaDoorQV6
import Derived.Test.YtcjidibdidijaaaDoorQV8
import Derived.Test.YtcjidibdidijaaaDoorQV11
import Derived.StillTactics
namespace Go.Proofs.YtcjidibdidijaaaDoor
set_option linter.unusedVariables false
open Go.RowKit Go.Proofs.YtcjidibdidijaaaDoorW.PrintWords
theorem ins_any (n : Int) (w : World) : Calls Tryd.prog 39 #[.int .i64 n] w fun e w' => e = .returned (insV (instrF n)) ∧ Below w.heap.size w w' := by
  have hr := pickN_range n 37 (by omega) (by omega)
  unfold instrF
  have h : pickN n 37 = 0 ∨ pickN n 37 = 1 ∨ pickN n 37 = 2 ∨ pickN n 37 = 3 ∨ pickN n 37 = 4 ∨ pickN n 37 = 5 ∨ pickN n 37 = 6 ∨ pickN n 37 = 7 ∨ pickN n 37 = 8 ∨ pickN n 37 = 9 ∨ pickN n 37 = 10 ∨ pickN n 37 = 11 ∨ pickN n 37 = 12 ∨ pickN n 37 = 13 ∨ pickN n 37 = 14 ∨ pickN n 37 = 15 ∨ pickN n 37 = 16 ∨ pickN n 37 = 17 ∨ pickN n 37 = 18 ∨ pickN n 37 = 19 ∨ pickN n 37 = 20 ∨ pickN n 37 = 21 ∨ pickN n 37 = 22 ∨ pickN n 37 = 23 ∨ pickN n 37 = 24 ∨ pickN n 37 = 25 ∨ pickN n 37 = 26 ∨ pickN n 37 = 27 ∨ pickN n 37 = 28 ∨ pickN n 37 = 29 ∨ pickN n 37 = 30 ∨ pickN n 37 = 31 ∨ pickN n 37 = 32 ∨ pickN n 37 = 33 ∨ pickN n 37 = 34 ∨ pickN n 37 = 35 ∨ pickN n 37 = 36 := by omega
  rcases h with h | h | h | h | h | h | h | h | h | h | h | h | h | h | h | h | h | h | h | h | h | h | h | h | h | h | h | h | h | h | h | h | h | h | h | h | h
  · rw [h]; exact ins_1 n w (Lib.hid h)
  · rw [h]; exact ins_2 n w (Lib.hid h)
  · rw [h]; exact ins_3 n w (Lib.hid h)
  · rw [h]; exact ins_4 n w (Lib.hid h)
  · rw [h]; exact ins_5 n w (Lib.hid h)
  · rw [h]; exact ins_6 n w (Lib.hid h)
  · rw [h]; exact ins_7 n w (Lib.hid h)
  · rw [h]; exact ins_8 n w (Lib.hid h)
  · rw [h]; exact ins_9 n w (Lib.hid h)
  · rw [h]; exact ins_10 n w (Lib.hid h)
  · rw [h]; exact ins_11 n w (Lib.hid h)
  · rw [h]; exact ins_12 n w (Lib.hid h)
  · rw [h]; exact ins_13 n w (Lib.hid h)
  · rw [h]; exact ins_14 n w (Lib.hid h)
  · rw [h]; exact ins_15 n w (Lib.hid h)
  · rw [h]; exact ins_16 n w (Lib.hid h)
  · rw [h]; exact ins_17 n w (Lib.hid h)
  · rw [h]; exact ins_18 n w (Lib.hid h)
  · rw [h]; exact ins_19 n w (Lib.hid h)
  · rw [h]; exact ins_20 n w (Lib.hid h)
  · rw [h]; exact ins_21 n w (Lib.hid h)
  · rw [h]; exact ins_22 n w (Lib.hid h)
  · rw [h]; exact ins_23 n w (Lib.hid h)
  · rw [h]; exact ins_24 n w (Lib.hid h)
  · rw [h]; exact ins_25 n w (Lib.hid h)
  · rw [h]; exact ins_26 n w (Lib.hid h)
  · rw [h]; exact ins_27 n w (Lib.hid h)
  · rw [h]; exact ins_28 n w (Lib.hid h)
  · rw [h]; exact ins_29 n w (Lib.hid h)
  · rw [h]; exact ins_30 n w (Lib.hid h)
  · rw [h]; exact ins_31 n w (Lib.hid h)
  · rw [h]; exact ins_32 n w (Lib.hid h)
  · rw [h]; exact ins_33 n w (Lib.hid h)
  · rw [h]; exact ins_34 n w (Lib.hid h)
  · rw [h]; exact ins_35 n w (Lib.hid h)
  · rw [h]; exact ins_36 n w (Lib.hid h)
  · rw [h]; exact ins_37 n w (Lib.hid h)
theorem ins_calls (a0 r1 r2 r3 r4 r5 : Int) (w : World) (h : some (instrF a0) = some (r1, r2, r3, r4, r5)) :
    Calls Tryd.prog 39 #[.int .i64 a0] w fun e w' => e = .returned (.agg #[.int .i64 r1, .int .i64 r2, .int .i64 r3, .int .i64 r4, .int .i64 r5]) ∧ Below w.heap.size w w' := by
  have h := Option.some.inj h
  refine (ins_any a0 w).mono fun e w' ⟨he, hb⟩ => ⟨?_, hb⟩
  rw [he, h]
  rfl
end Go.Proofs.YtcjidibdidijaaaDoor
namespace Go.Proofs.YtcjidibdidijaaaDoor.PCod
open Go.RowKit Go.Proofs.YtcjidibdidijaaaDoorW.PrintWords Go.Proofs.YtcjidibdidijaaaDoorW.PrintLast Go.Proofs.YtcjidibdidijaaaDoorW.PrintMore
attribute [local go_sem] max2_int min2_int max_two min_two max_three min_three max_four min_four
set_option linter.unusedVariables false
set_option linter.unusedSimpArgs false
attribute [local go_sem high] eqA42
def fullingref32_SameWords.l0 : Nat → List Int → List Int → Int → Option (Bool)
  | 0, _, _, _ => none
  | k + 1, x0, x1, x5 => if x5 < (x0.length : Int) then (if 0 ≤ x5 then (if x5 < (x1.length : Int) then (if (rd x0 x5) = (rd x1 x5) then (fullingref32_SameWords.l0 k x0 x1 (wrap64 (x5 + 1))) else (some false)) else (none)) else (none)) else (some true)
def fullingref32_SameWords.f (k : Nat) (l0 : List Int) (l1 : List Int) : Option (Bool) := if (l0.length : Int) = (l1.length : Int) then (fullingref32_SameWords.l0 k l0 l1 0) else (some false)
theorem fullingref32_SameWords.mono_l : ∀ k, (∀ y0 y1 y2, LeO (fullingref32_SameWords.l0 k y0 y1 y2) (fullingref32_SameWords.l0 (k + 1) y0 y1 y2))
  | 0 => fun _ _ _ r h => by simp [fullingref32_SameWords.l0] at h
  | k + 1 => by
    have ih0 := fullingref32_SameWords.mono_l k
    · intro y0 y1 y2
      unfold fullingref32_SameWords.l0
      repeat' first
      | (with_reducible exact ih0 _ _ _)
      | (with_reducible exact LeO.refl _)
      | (with_reducible exact LeO.none _)
      | (with_reducible refine LeO.ite ?_ ?_)
      | (with_reducible refine LeO.bind ?_ (fun _ => ?_))
      | exact ih0 _ _ _
      | exact LeO.none _
      | refine LeO.ite ?_ ?_
      | refine LeO.bind ?_ (fun _ => ?_)
theorem fullingref32_SameWords.mono : ∀ a0 a1 k, LeO (fullingref32_SameWords.f k a0 a1) (fullingref32_SameWords.f (k + 1) a0 a1) := by
  intro a0 a1 k
  have ih0 := fullingref32_SameWords.mono_l k
  unfold fullingref32_SameWords.f
  repeat' first
      | (with_reducible exact ih0 _ _ _)
      | (with_reducible exact LeO.refl _)
      | (with_reducible exact LeO.none _)
      | (with_reducible refine LeO.ite ?_ ?_)
      | (with_reducible refine LeO.bind ?_ (fun _ => ?_))
      | exact ih0 _ _ _
      | exact LeO.none _
      | refine LeO.ite ?_ ?_
      | refine LeO.bind ?_ (fun _ => ?_)
set_option maxHeartbeats 8000000 in
set_option maxRecDepth 100000 in
theorem fullingref32_SameWords.calls (k : Nat) (A0 : Option Addr) (c0 : Nat) (l0 : List Int) (A1 : Option Addr) (c1 : Nat) (l1 : List Int) (r : Bool) (w : World) (hr0 : Kd.C (Kd.int .u32) w A0 l0.length l0) (hc0 : l0.length ≤ c0) (hr1 : Kd.C (Kd.int .u32) w A1 l1.length l1) (hc1 : l1.length ≤ c1) (h : fullingref32_SameWords.f k l0 l1 = some r) :
    Calls Tryd.prog 35 #[.slice A0 l0.length c0, .slice A1 l1.length c1] w fun e w' => e = .returned (.bool r) ∧ Drawn0 w w' := by
  have HR0 := Aside0.mk hr0
  have HC0 := Aside0.mk hc0
  clear hr0 hc0
  have HR1 := Aside0.mk hr1
  have HC1 := Aside0.mk hc1
  clear hr1 hc1
  have H : (if (l0.length : Int) = (l1.length : Int) then (fullingref32_SameWords.l0 k l0 l1 0) else (some false)) = some r := h
  clear h
  by_cases c3 : (l0.length : Int) = (l1.length : Int)
  · rw [if_pos c3] at H
    have c3b0 : ((l0.length : Int) == (l1.length : Int)) = true := beq_iff_eq.mpr c3
    have c3b1 : ((l0.length : Int) != (l1.length : Int)) = false := bne_eq_false_iff_eq.mpr c3
    have c3b2 : (l0.length == l1.length) = true := by first | simpa using c3 | (simp at c3 ⊢; omega)
    clear c3
    have H' := Aside0.mk H
    clear H
    go_enter Tryd.func35, Tryd.ntmps35
    go_wp2
    repeat (go_quiet (fail); try go_wp2)
    go_loopg [5] k (fun kq v5 w' => ∃ (x5_1 : Int), v5 = .int .i64 x5_1 ∧ Aside0 (fullingref32_SameWords.l0 kq l0 l1 x5_1 = some r) ∧ Aside0 (kq ≤ k) ∧ Drawn0 w w')
    case atStart => exact ⟨(0), (by first | rfl | (simp; done) | (simp [*]; done)), H', ⟨Nat.le_refl _⟩, by repeat (first | exact Drawn0.refl _ | apply Drawn0.step)⟩
    case round =>
      clear H'
      try clear c1
      try clear p2
      try clear c3
      try clear c3b0
      try clear c3b1
      try clear c3b2
      obtain ⟨x5_1, rfl, HA, HK1, ⟨m1, rfl⟩⟩ := hrel
      cases gk with
      | zero => exact absurd HA.out (by simp [fullingref32_SameWords.l0])
      | succ k1 =>
        have H := HA.out
        clear HA
        simp only [fullingref32_SameWords.l0] at H
        by_cases c4 : x5_1 < (l0.length : Int)
        · rw [if_pos c4] at H
          have c4b0 : decide (x5_1 < (l0.length : Int)) = true := decide_eq_true c4
          clear c4
          by_cases c5 : 0 ≤ x5_1
          · rw [if_pos c5] at H
            have c5b0 : decide (0 ≤ x5_1) = true := decide_eq_true c5
            clear c5
            by_cases c6 : x5_1 < (l1.length : Int)
            · rw [if_pos c6] at H
              have c6b0 : decide (x5_1 < (l1.length : Int)) = true := decide_eq_true c6
              clear c6
              by_cases c7 : (rd l0 x5_1) = (rd l1 x5_1)
              · rw [if_pos c7] at H
                have c7b0 : ((rd l0 x5_1) == (rd l1 x5_1)) = true := beq_iff_eq.mpr c7
                have c7b1 : ((rd l0 x5_1) != (rd l1 x5_1)) = false := bne_eq_false_iff_eq.mpr c7
                clear c7
                have H' := Aside0.mk H
                clear H
                have p128 : 0 ≤ (x5_1 : Int) := of_decide_eq_true (by first | (with_reducible assumption) | assumption)
                have q128 : x5_1 < (l0.length : Int) := of_decide_eq_true (by first | (with_reducible assumption) | assumption)
                obtain ⟨ad128, e128, hx128_0⟩ := Kd.at_int HR0.out x5_1 p128 q128
                cases e128
                replace p128 := eq_true p128
                replace q128 := eq_true q128
                have p129 : 0 ≤ (x5_1 : Int) := of_decide_eq_true (by first | (with_reducible assumption) | assumption)
                have q129 : x5_1 < (l1.length : Int) := of_decide_eq_true (by first | (with_reducible assumption) | assumption)
                obtain ⟨ad129, e129, hx129_0⟩ := Kd.at_int HR1.out x5_1 p129 q129
                cases e129
                replace p129 := eq_true p129
                replace q129 := eq_true q129
                go_wp2
                repeat (go_quiet (fail); try go_wp2)
                go_roundg k1
                case measure => have := HK1.out; omega
                case rel => exact ⟨(wrap64 (x5_1 + 1)), (by first | rfl | (simp; done) | (simp [*]; done)), H', ⟨by have := HK1.out; omega⟩, by repeat (first | exact Drawn0.refl _ | apply Drawn0.step)⟩
              · rw [if_neg c7] at H
                have c7b0 : ((rd l0 x5_1) == (rd l1 x5_1)) = false := beq_eq_false_iff_ne.mpr c7
                have c7b1 : ((rd l0 x5_1) != (rd l1 x5_1)) = true := bne_iff_ne.mpr c7
                obtain rfl := Option.some.inj H
                have p128 : 0 ≤ (x5_1 : Int) := of_decide_eq_true (by first | (with_reducible assumption) | assumption)
                have q128 : x5_1 < (l0.length : Int) := of_decide_eq_true (by first | (with_reducible assumption) | assumption)
                obtain ⟨ad128, e128, hx128_0⟩ := Kd.at_int HR0.out x5_1 p128 q128
                cases e128
                replace p128 := eq_true p128
                replace q128 := eq_true q128
                have p129 : 0 ≤ (x5_1 : Int) := of_decide_eq_true (by first | (with_reducible assumption) | assumption)
                have q129 : x5_1 < (l1.length : Int) := of_decide_eq_true (by first | (with_reducible assumption) | assumption)
                obtain ⟨ad129, e129, hx129_0⟩ := Kd.at_int HR1.out x5_1 p129 q129
                cases e129
                replace p129 := eq_true p129
                replace q129 := eq_true q129
                go_wp2
                repeat (go_quiet (fail); try go_wp2)
                go_ret
                exact ⟨by first | rfl | (simp; done) | (simp [*]; done), by repeat (first | exact Drawn0.refl _ | apply Drawn0.step)⟩
            · rw [if_neg c6] at H
              exact absurd H (by simp)
          · rw [if_neg c5] at H
            exact absurd H (by simp)
        · rw [if_neg c4] at H
          have c4b0 : decide (x5_1 < (l0.length : Int)) = false := decide_eq_false c4
          clear c4
          obtain rfl := Option.some.inj H
          go_wp2
          repeat (go_quiet (fail); try go_wp2)
          go_ret
          exact ⟨by first | rfl | (simp; done) | (simp [*]; done), by repeat (first | exact Drawn0.refl _ | apply Drawn0.step)⟩
  · rw [if_neg c3] at H
    have c3b0 : ((l0.length : Int) == (l1.length : Int)) = false := beq_eq_false_iff_ne.mpr c3
    have c3b1 : ((l0.length : Int) != (l1.length : Int)) = true := bne_iff_ne.mpr c3
    have c3b2 : (l0.length == l1.length) = false := by first | simpa using c3 | (simp at c3 ⊢; omega)
    obtain rfl := Option.some.inj H
    go_enter Tryd.func35, Tryd.ntmps35
    go_wp2
    repeat (go_quiet (fail); try go_wp2)
    go_ret
    exact ⟨by first | rfl | (simp; done) | (simp [*]; done), by repeat (first | exact Drawn0.refl _ | apply Drawn0.step)⟩
def fullingref32_SameInstrs.l0 : Nat → List (S42) → List (S42) → Int → Option (Bool)
  | 0, _, _, _ => none
  | k + 1, x0, x1, x5 => if x5 < (x0.length : Int) then (if 0 ≤ x5 then (if x5 < (x1.length : Int) then (if (!(((rd_T42 x0 x5).f0) == ((rd_T42 x1 x5).f0)) || (!(((rd_T42 x0 x5).f1) == ((rd_T42 x1 x5).f1)) || (!(((rd_T42 x0 x5).f2) == ((rd_T42 x1 x5).f2)) || (!(((rd_T42 x0 x5).f3) == ((rd_T42 x1 x5).f3)) || (!(((rd_T42 x0 x5).f4) == ((rd_T42 x1 x5).f4))))))) = true then (some false) else (fullingref32_SameInstrs.l0 k x0 x1 (wrap64 (x5 + 1)))) else (none)) else (none)) else (some true)
def fullingref32_SameInstrs.f (k : Nat) (l0 : List (S42)) (l1 : List (S42)) : Option (Bool) := if (l0.length : Int) = (l1.length : Int) then (fullingref32_SameInstrs.l0 k l0 l1 0) else (some false)
theorem fullingref32_SameInstrs.mono_l : ∀ k, (∀ y0 y1 y2, LeO (fullingref32_SameInstrs.l0 k y0 y1 y2) (fullingref32_SameInstrs.l0 (k + 1) y0 y1 y2))
  | 0 => fun _ _ _ r h => by simp [fullingref32_SameInstrs.l0] at h
  | k + 1 => by
    have ih0 := fullingref32_SameInstrs.mono_l k
    · intro y0 y1 y2
      unfold fullingref32_SameInstrs.l0
      repeat' first
      | (with_reducible exact ih0 _ _ _)
      | (with_reducible exact LeO.refl _)
      | (with_reducible exact LeO.none _)
      | (with_reducible refine LeO.ite ?_ ?_)
      | (with_reducible refine LeO.bind ?_ (fun _ => ?_))
      | exact ih0 _ _ _
      | exact LeO.none _
      | refine LeO.ite ?_ ?_
      | refine LeO.bind ?_ (fun _ => ?_)
theorem fullingref32_SameInstrs.mono : ∀ a0 a1 k, LeO (fullingref32_SameInstrs.f k a0 a1) (fullingref32_SameInstrs.f (k + 1) a0 a1) := by
  intro a0 a1 k
  have ih0 := fullingref32_SameInstrs.mono_l k
  unfold fullingref32_SameInstrs.f
  repeat' first
      | (with_reducible exact ih0 _ _ _)
      | (with_reducible exact LeO.refl _)
      | (with_reducible exact LeO.none _)
      | (with_reducible refine LeO.ite ?_ ?_)
      | (with_reducible refine LeO.bind ?_ (fun _ => ?_))
      | exact ih0 _ _ _
      | exact LeO.none _
      | refine LeO.ite ?_ ?_
      | refine LeO.bind ?_ (fun _ => ?_)
set_option maxHeartbeats 8000000 in
set_option maxRecDepth 100000 in
theorem fullingref32_SameInstrs.calls (k : Nat) (A0 : Option Addr) (c0 : Nat) (l0 : List (S42)) (A1 : Option Addr) (c1 : Nat) (l1 : List (S42)) (r : Bool) (w : World) (hr0 : Kd.C k42 w A0 l0.length l0) (hc0 : l0.length ≤ c0) (hr1 : Kd.C k42 w A1 l1.length l1) (hc1 : l1.length ≤ c1) (h : fullingref32_SameInstrs.f k l0 l1 = some r) :
    Calls Tryd.prog 43 #[.slice A0 l0.length c0, .slice A1 l1.length c1] w fun e w' => e = .returned (.bool r) ∧ Drawn0 w w' := by
  have hu42 := Tryd.underlying42
  have HR0 := Aside0.mk hr0
  have HC0 := Aside0.mk hc0
  clear hr0 hc0
  have HR1 := Aside0.mk hr1
  have HC1 := Aside0.mk hc1
  clear hr1 hc1
  have H : (if (l0.length : Int) = (l1.length : Int) then (fullingref32_SameInstrs.l0 k l0 l1 0) else (some false)) = some r := h
  clear h
  by_cases c3 : (l0.length : Int) = (l1.length : Int)
  · rw [if_pos c3] at H
    have c3b0 : ((l0.length : Int) == (l1.length : Int)) = true := beq_iff_eq.mpr c3
    have c3b1 : ((l0.length : Int) != (l1.length : Int)) = false := bne_eq_false_iff_eq.mpr c3
    have c3b2 : (l0.length == l1.length) = true := by first | simpa using c3 | (simp at c3 ⊢; omega)
    clear c3
    have H' := Aside0.mk H
    clear H
    go_enter Tryd.func43, Tryd.ntmps43
    go_wp2
    repeat (go_quiet (fail); try go_wp2)
    go_loopg [5] k (fun kq v5 w' => ∃ (x5_1 : Int), v5 = .int .i64 x5_1 ∧ Aside0 (fullingref32_SameInstrs.l0 kq l0 l1 x5_1 = some r) ∧ Aside0 (kq ≤ k) ∧ Drawn0 w w')
    case atStart => exact ⟨(0), (by first | rfl | (simp; done) | (simp [*]; done)), H', ⟨Nat.le_refl _⟩, by repeat (first | exact Drawn0.refl _ | apply Drawn0.step)⟩
    case round =>
      clear H'
      try clear c1
      try clear p2
      try clear c3
      try clear c3b0
      try clear c3b1
      try clear c3b2
      obtain ⟨x5_1, rfl, HA, HK1, ⟨m1, rfl⟩⟩ := hrel
      cases gk with
      | zero => exact absurd HA.out (by simp [fullingref32_SameInstrs.l0])
      | succ k1 =>
        have H := HA.out
        clear HA
        simp only [fullingref32_SameInstrs.l0] at H
        by_cases c4 : x5_1 < (l0.length : Int)
        · rw [if_pos c4] at H
          have c4b0 : decide (x5_1 < (l0.length : Int)) = true := decide_eq_true c4
          clear c4
          by_cases c5 : 0 ≤ x5_1
          · rw [if_pos c5] at H
            have c5b0 : decide (0 ≤ x5_1) = true := decide_eq_true c5
            clear c5
            by_cases c6 : x5_1 < (l1.length : Int)
            · rw [if_pos c6] at H
              have c6b0 : decide (x5_1 < (l1.length : Int)) = true := decide_eq_true c6
              clear c6
              by_cases c7 : (!(((rd_T42 l0 x5_1).f0) == ((rd_T42 l1 x5_1).f0)) || (!(((rd_T42 l0 x5_1).f1) == ((rd_T42 l1 x5_1).f1)) || (!(((rd_T42 l0 x5_1).f2) == ((rd_T42 l1 x5_1).f2)) || (!(((rd_T42 l0 x5_1).f3) == ((rd_T42 l1 x5_1).f3)) || (!(((rd_T42 l0 x5_1).f4) == ((rd_T42 l1 x5_1).f4))))))) = true
              · rw [if_pos c7] at H
                have c7b0 : (!(((rd_T42 l0 x5_1).f0) == ((rd_T42 l1 x5_1).f0)) || (!(((rd_T42 l0 x5_1).f1) == ((rd_T42 l1 x5_1).f1)) || (!(((rd_T42 l0 x5_1).f2) == ((rd_T42 l1 x5_1).f2)) || (!(((rd_T42 l0 x5_1).f3) == ((rd_T42 l1 x5_1).f3)) || (!(((rd_T42 l0 x5_1).f4) == ((rd_T42 l1 x5_1).f4))))))) = true := c7
                clear c7
                obtain rfl := Option.some.inj H
                have p159 : 0 ≤ (x5_1 : Int) := of_decide_eq_true (by first | (with_reducible assumption) | assumption)
                have q159 : x5_1 < (l0.length : Int) := of_decide_eq_true (by first | (with_reducible assumption) | assumption)
                obtain ⟨ad159, e159, hx159_0, hx159_1, hx159_2, hx159_3, hx159_4⟩ := at_T42 HR0.out x5_1 p159 q159
                cases e159
                replace p159 := eq_true p159
                replace q159 := eq_true q159
                have p160 : 0 ≤ (x5_1 : Int) := of_decide_eq_true (by first | (with_reducible assumption) | assumption)
                have q160 : x5_1 < (l1.length : Int) := of_decide_eq_true (by first | (with_reducible assumption) | assumption)
                obtain ⟨ad160, e160, hx160_0, hx160_1, hx160_2, hx160_3, hx160_4⟩ := at_T42 HR1.out x5_1 p160 q160
                cases e160
                replace p160 := eq_true p160
                replace q160 := eq_true q160
                go_wp2
                repeat (go_quiet (fail); try go_wp2)
                go_ret
                exact ⟨by first | rfl | (simp; done) | (simp [*]; done), by repeat (first | exact Drawn0.refl _ | apply Drawn0.step)⟩
              · rw [if_neg c7] at H
                have c7b0 : (!(((rd_T42 l0 x5_1).f0) == ((rd_T42 l1 x5_1).f0)) || (!(((rd_T42 l0 x5_1).f1) == ((rd_T42 l1 x5_1).f1)) || (!(((rd_T42 l0 x5_1).f2) == ((rd_T42 l1 x5_1).f2)) || (!(((rd_T42 l0 x5_1).f3) == ((rd_T42 l1 x5_1).f3)) || (!(((rd_T42 l0 x5_1).f4) == ((rd_T42 l1 x5_1).f4))))))) = false := by simpa using c7
                clear c7
                have H' := Aside0.mk H
                clear H
                have p159 : 0 ≤ (x5_1 : Int) := of_decide_eq_true (by first | (with_reducible assumption) | assumption)
                have q159 : x5_1 < (l0.length : Int) := of_decide_eq_true (by first | (with_reducible assumption) | assumption)
                obtain ⟨ad159, e159, hx159_0, hx159_1, hx159_2, hx159_3, hx159_4⟩ := at_T42 HR0.out x5_1 p159 q159
                cases e159
                replace p159 := eq_true p159
                replace q159 := eq_true q159
                have p160 : 0 ≤ (x5_1 : Int) := of_decide_eq_true (by first | (with_reducible assumption) | assumption)
                have q160 : x5_1 < (l1.length : Int) := of_decide_eq_true (by first | (with_reducible assumption) | assumption)
                obtain ⟨ad160, e160, hx160_0, hx160_1, hx160_2, hx160_3, hx160_4⟩ := at_T42 HR1.out x5_1 p160 q160
                cases e160
                replace p160 := eq_true p160
                replace q160 := eq_true q160
                go_wp2
                repeat (go_quiet (fail); try go_wp2)
                go_roundg k1
                case measure => have := HK1.out; omega
                case rel => exact ⟨(wrap64 (x5_1 + 1)), (by first | rfl | (simp; done) | (simp [*]; done)), H', ⟨by have := HK1.out; omega⟩, by repeat (first | exact Drawn0.refl _ | apply Drawn0.step)⟩
            · rw [if_neg c6] at H
              exact absurd H (by simp)
          · rw [if_neg c5] at H
            exact absurd H (by simp)
        · rw [if_neg c4] at H
          have c4b0 : decide (x5_1 < (l0.length : Int)) = false := decide_eq_false c4
          clear c4
          obtain rfl := Option.some.inj H
          go_wp2
          repeat (go_quiet (fail); try go_wp2)
          go_ret
          exact ⟨by first | rfl | (simp; done) | (simp [*]; done), by repeat (first | exact Drawn0.refl _ | apply Drawn0.step)⟩
  · rw [if_neg c3] at H
    have c3b0 : ((l0.length : Int) == (l1.length : Int)) = false := beq_eq_false_iff_ne.mpr c3
    have c3b1 : ((l0.length : Int) != (l1.length : Int)) = true := bne_iff_ne.mpr c3
    have c3b2 : (l0.length == l1.length) = false := by first | simpa using c3 | (simp at c3 ⊢; omega)
    obtain rfl := Option.some.inj H
    go_enter Tryd.func43, Tryd.ntmps43
    go_wp2
    repeat (go_quiet (fail); try go_wp2)
    go_ret
    exact ⟨by first | rfl | (simp; done) | (simp [*]; done), by repeat (first | exact Drawn0.refl _ | apply Drawn0.step)⟩
def fullingref29_form.f (a0 : Int) : Option (Int) := some (formOf a0)
theorem fullingref29_form.calls (a0 : Int) (r : Int) (w : World) (h : fullingref29_form.f a0 = some r) :
    Calls Tryd.prog 67 #[.int .i64 a0] w fun e w' => e = .returned (.int .i64 r) ∧ Drawn0 w w' :=
  form_calls a0 r w h
def fullingref29_Info.f (a0 : Int) : Option (ByteArray × Int × Bool × Bool × Bool × Bool × Int × Bool) := infoF a0
theorem fullingref29_Info.calls (a0 : Int) (r1 : ByteArray) (r2 : Int) (r3 : Bool) (r4 : Bool) (r5 : Bool) (r6 : Bool) (r7 : Int) (r8 : Bool) (w : World) (h : fullingref29_Info.f a0 = some (r1, r2, r3, r4, r5, r6, r7, r8)) :
    Calls Tryd.prog 55 #[.int .i64 a0] w fun e w' => e = .returned (.tuple #[.agg #[.string r1, .int .i64 r2, .bool r3, .bool r4, .bool r5, .bool r6, .int .i64 r7], .bool r8]) ∧ Below w.heap.size w w' :=
  rinfo_calls a0 r1 r2 r3 r4 r5 r6 r7 r8 w h
def fullingkeep_Pick.f (a0 : Int) (a1 : Int) : Option (Int) := if a1 = 0 then (none) else (if (Int.tmod a0 a1) < 0 then (some (wrap64 ((Int.tmod a0 a1) + a1))) else (some (Int.tmod a0 a1)))
set_option maxHeartbeats 8000000 in
set_option maxRecDepth 100000 in
theorem fullingkeep_Pick.calls (a0 : Int) (a1 : Int) (r : Int) (w : World) (h : fullingkeep_Pick.f a0 a1 = some r) :
    Calls Tryd.prog 19 #[.int .i64 a0, .int .i64 a1] w fun e w' => e = .returned (.int .i64 r) ∧ Drawn0 w w' := by
  have H : (if a1 = 0 then (none) else (if (Int.tmod a0 a1) < 0 then (some (wrap64 ((Int.tmod a0 a1) + a1))) else (some (Int.tmod a0 a1)))) = some r := h
  clear h
  by_cases c3 : a1 = 0
  · rw [if_pos c3] at H
    exact absurd H (by simp)
  · rw [if_neg c3] at H
    have c3b0 : (a1 == 0) = false := beq_eq_false_iff_ne.mpr c3
    have c3b1 : (a1 != 0) = true := bne_iff_ne.mpr c3
    by_cases c4 : (Int.tmod a0 a1) < 0
    · rw [if_pos c4] at H
      have c4b0 : decide ((Int.tmod a0 a1) < 0) = true := decide_eq_true c4
      clear c4
      obtain rfl := Option.some.inj H
      go_enter Tryd.func19, Tryd.ntmps19
      go_wp2
      go_ret
      exact ⟨by first | rfl | (simp; done) | (simp [*]; done), by repeat (first | exact Drawn0.refl _ | apply Drawn0.step)⟩
    · rw [if_neg c4] at H
      have c4b0 : decide ((Int.tmod a0 a1) < 0) = false := decide_eq_false c4
      clear c4
      obtain rfl := Option.some.inj H
      go_enter Tryd.func19, Tryd.ntmps19
      go_wp2
      go_ret
      exact ⟨by first | rfl | (simp; done) | (simp [*]; done), by repeat (first | exact Drawn0.refl _ | apply Drawn0.step)⟩
def fullingkeep2_Instr.f (a0 : Int) : Option (Int × Int × Int × Int × Int) := some (instrF a0)
theorem fullingkeep2_Instr.calls (a0 : Int) (r1 : Int) (r2 : Int) (r3 : Int) (r4 : Int) (r5 : Int) (w : World) (h : fullingkeep2_Instr.f a0 = some (r1, r2, r3, r4, r5)) :
    Calls Tryd.prog 39 #[.int .i64 a0] w fun e w' => e = .returned (.agg #[.int .i64 r1, .int .i64 r2, .int .i64 r3, .int .i64 r4, .int .i64 r5]) ∧ Below w.heap.size w w' :=
  ins_calls a0 r1 r2 r3 r4 r5 w h
def fullingkeep2_Instrs.l0 : Nat → List Int → Int → List (S42) → Int → Option ((List (S42)))
  | 0, _, _, _, _ => none
  | k + 1, x0, x1, x5, x6 => if x6 < (x0.length : Int) then (if x6 < x1 then (if 0 ≤ x6 then ((fullingkeep2_Instr.f (rd x0 x6)).bind fun bt137 => (if x5.length < 3518437208883 then (fullingkeep2_Instrs.l0 k x0 x1 (x5 ++ [(⟨bt137.1, bt137.2.1, bt137.2.2.1, bt137.2.2.2.1, bt137.2.2.2.2⟩ : S42)]) (wrap64 (x6 + 1))) else (none))) else (none)) else (some x5)) else (some x5)
def fullingkeep2_Instrs.f (k : Nat) (l0 : List Int) (a1 : Int) : Option ((List (S42))) := fullingkeep2_Instrs.l0 k l0 a1 ([] : List (S42)) 0
theorem fullingkeep2_Instrs.mono_l : ∀ k, (∀ y0 y1 y2 y3, LeO (fullingkeep2_Instrs.l0 k y0 y1 y2 y3) (fullingkeep2_Instrs.l0 (k + 1) y0 y1 y2 y3))
  | 0 => fun _ _ _ _ r h => by simp [fullingkeep2_Instrs.l0] at h
  | k + 1 => by
    have ih0 := fullingkeep2_Instrs.mono_l k
    · intro y0 y1 y2 y3
      unfold fullingkeep2_Instrs.l0
      repeat' first
      | (with_reducible exact ih0 _ _ _ _)
      | (with_reducible exact LeO.refl _)
      | (with_reducible exact LeO.none _)
      | (with_reducible refine LeO.ite ?_ ?_)
      | (with_reducible refine LeO.bind ?_ (fun _ => ?_))
      | exact ih0 _ _ _ _
      | exact LeO.none _
      | refine LeO.ite ?_ ?_
      | refine LeO.bind ?_ (fun _ => ?_)
theorem fullingkeep2_Instrs.mono : ∀ a0 a1 k, LeO (fullingkeep2_Instrs.f k a0 a1) (fullingkeep2_Instrs.f (k + 1) a0 a1) := by
  intro a0 a1 k
  have ih0 := fullingkeep2_Instrs.mono_l k
  unfold fullingkeep2_Instrs.f
  repeat' first
      | (with_reducible exact ih0 _ _ _ _)
      | (with_reducible exact LeO.refl _)
      | (with_reducible exact LeO.none _)
      | (with_reducible refine LeO.ite ?_ ?_)
      | (with_reducible refine LeO.bind ?_ (fun _ => ?_))
      | exact ih0 _ _ _ _
      | exact LeO.none _
      | refine LeO.ite ?_ ?_
      | refine LeO.bind ?_ (fun _ => ?_)
set_option maxHeartbeats 8000000 in
set_option maxRecDepth 100000 in
theorem fullingkeep2_Instrs.calls (k : Nat) (A0 : Option Addr) (c0 : Nat) (l0 : List Int) (a1 : Int) (r : List (S42)) (w : World) (hr0 : Kd.C (Kd.int .i64) w A0 l0.length l0) (hc0 : l0.length ≤ c0) (h : fullingkeep2_Instrs.f k l0 a1 = some r) :
    Calls Tryd.prog 36 #[.slice A0 l0.length c0, .int .i64 a1] w fun e w' => ∃ v0_ : Value, e = .returned (v0_) ∧ Kd.R k42 42 w' w.heap.size (fun _ => True) v0_ r ∧ Below w.heap.size w w' := by
  have HR0 := Aside0.mk hr0
  have HC0 := Aside0.mk hc0
  clear hr0 hc0
  have HB := Aside0.mk (Below.refl w.heap.size w)
  have H : (fullingkeep2_Instrs.l0 k l0 a1 ([] : List (S42)) 0) = some r := h
  clear h
  have H' := Aside0.mk H
  clear H
  go_enter Tryd.func36, Tryd.ntmps36
  go_wp2
  go_loopg [5, 6] k (fun kq v5 v6 w' => ∃ (x5_1 : List (S42)) (x6_1 : Int), v6 = .int .i64 x6_1 ∧ Aside0 (fullingkeep2_Instrs.l0 kq l0 a1 x5_1 x6_1 = some r) ∧ Aside0 (kq ≤ k) ∧ Aside0 (Kd.R k42 42 w' w.heap.size (fun _ => True) v5 x5_1) ∧ Aside0 (Below w.heap.size w w'))
  case atStart => exact ⟨(([] : List (S42))), (0), (by first | rfl | (simp; done) | (simp [*]; done)), H', ⟨Nat.le_refl _⟩, ⟨by first | exact Kd.R_nil _ _ _ _ _ | exact Kd.N_nil _ _ _ _ _ | exact Kd.V_nil _ _ _ _ _ | exact Kd.Q_nil _ _ _ _ _ | exact Kd.S_nil _ _ _ _ _⟩, ⟨by repeat (first | (with_reducible first | exact HB.out | apply below_alloc | apply pw_below_drewN | apply below_drew1) | exact HB.out)⟩⟩
  case round =>
    clear H'
    try clear p2
    obtain ⟨x5_1, x6_1, rfl, HA, HK1, HO_5, HB⟩ := hrel
    cases gk with
    | zero => exact absurd HA.out (by simp [fullingkeep2_Instrs.l0])
    | succ k1 =>
      have H := HA.out
      clear HA
      simp only [fullingkeep2_Instrs.l0] at H
      by_cases c3 : x6_1 < (l0.length : Int)
      · rw [if_pos c3] at H
        have c3b0 : decide (x6_1 < (l0.length : Int)) = true := decide_eq_true c3
        clear c3
        by_cases c4 : x6_1 < a1
        · rw [if_pos c4] at H
          have c4b0 : decide (x6_1 < a1) = true := decide_eq_true c4
          clear c4
          by_cases c5 : 0 ≤ x6_1
          · rw [if_pos c5] at H
            have c5b0 : decide (0 ≤ x6_1) = true := decide_eq_true c5
            clear c5
            replace H := Option.bind_eq_some_iff.mp H
            obtain ⟨⟨t137, t138, t139, t140, t141⟩, A60, H⟩ := H
            replace H : (if x5_1.length < 3518437208883 then (fullingkeep2_Instrs.l0 k1 l0 a1 (x5_1 ++ [(⟨t137, t138, t139, t140, t141⟩ : S42)]) (wrap64 (x6_1 + 1))) else (none)) = some r := H
            have A6 := Aside0.mk A60
            clear A60
            by_cases c7 : x5_1.length < 3518437208883
            · rw [if_pos c7] at H
              have LMc7 := Aside0.mk c7
              clear c7
              obtain ⟨y142, hy142⟩ : ∃ y_ : List (S42), y_ = (x5_1 ++ [(⟨t137, t138, t139, t140, t141⟩ : S42)]) := ⟨_, rfl⟩
              replace H : (fullingkeep2_Instrs.l0 k1 l0 a1 y142 (wrap64 (x6_1 + 1))) = some r := by first | (rw [hy142]; with_reducible exact H) | (have H2_ := (Option.bind_some _ _).symm.trans H; rw [hy142]; with_reducible exact H2_) | (have H2_ := (Option.bind_some _ _).symm.trans H; with_reducible exact H2_) | with_reducible exact H | (rw [hy142]; exact H) | exact H
              have Ny142 := Aside0.mk hy142
              clear hy142
              have H' := Aside0.mk H
              clear H
              have p136 : 0 ≤ (x6_1 : Int) := of_decide_eq_true (by first | (with_reducible assumption) | assumption)
              have q136 : x6_1 < (l0.length : Int) := of_decide_eq_true (by first | (with_reducible assumption) | assumption)
              obtain ⟨ad136, e136, hx136_0⟩ := Kd.at_int HR0.out x6_1 p136 q136
              cases e136
              replace hx136_0 := (HB.out.cell (World.block_lt_of_cell? w _ hx136_0)).trans hx136_0
              replace p136 := eq_true p136
              replace q136 := eq_true q136
              go_wp2_with (first | ((with_reducible refine gate_callee (f := 39) rfl ?_); refine goesL_ (some 23) rfl rfl Tryd.func39 (by kernel_rfl) rfl #[.int .i64 (rd l0 x6_1)] rfl (by (try simp only [List.map_toArray, List.map_cons, List.map_nil]); first | done | rfl | (simp only [List.length_drop, List.length_take]; rfl)) ?_; (with_reducible refine (fullingkeep2_Instr.calls (rd l0 x6_1) t137 t138 t139 t140 t141 _ A6.out).mono ?_); rintro e w8 ⟨rfl, hb⟩; refine ⟨_, rfl, ?_⟩; have n0_ := Aside0.mk (Kd.R_below (by (with_reducible repeat (first | apply Kd.R_alloc | apply Kd.R_drewN | apply Kd.R_drew)); exact HO_5.out) hb); have n1_ := Aside0.mk (below_step (by repeat (first | (with_reducible first | exact HB.out | apply below_alloc | apply pw_below_drewN | apply below_drew1) | exact HB.out)) hb); clear HO_5; clear HB; have HO_5 := n0_; have HB := n1_; clear n0_ n1_; (try clear hb); (try clear hb2); (try clear hk); (try clear hi)) | ((with_reducible refine gate_builtin (b := .append) (xs := #[.tmp 18, .tmp 24]) rfl ?_); at_builtin; refine Kd.R_append k42 (w0 := w) w.heap.size rfl (.tmp 18) (.tmp 24) 55 42 (.agg #[(.int .i64 0), (.int .i64 0), (.int .i64 0), (.int .i64 0), (.int .i64 0)]) 40 rfl Tryd.underlying55 info42 rfl (by decide) (by omega) u5 x5_1 (⟨t137, t138, t139, t140, t141⟩ : S42) [.int .i64 t137, .int .i64 t138, .int .i64 t139, .int .i64 t140, .int .i64 t141] (fun _ => True) (fun _ => False) rfl rfl ?aP (fun _ hk => hk.elim) ?aF ?aO ?aB ?aS ?aL ?_; (case aP => exact k42_mkM _ _ _ (⟨t137, t138, t139, t140, t141⟩ : S42)); (case aB => exact (by repeat (first | (with_reducible first | exact HB.out | apply below_alloc | apply pw_below_drewN | apply below_drew1) | exact HB.out))); (case aF => exact (fun _ _ => trivial)); (case aO => exact (by (with_reducible repeat (first | apply Kd.R_alloc | apply Kd.R_drewN | apply Kd.R_drew)); exact HO_5.out)); (case aS => exact (below_size (by repeat (first | (with_reducible first | exact HB.out | apply below_alloc | apply pw_below_drewN | apply below_drew1) | exact HB.out)))); (case aL => have := LMc7.out; omega); intro v143 w9 ho hb hg hat; rw [← Ny142.out] at ho; have n0_ := Aside0.mk (hb); have n1_ := Aside0.mk (ho); clear HB; clear HO_5; have HB := n0_; have HO144 := n1_; clear n0_ n1_; clear ho hb hg hat))
              go_roundg k1
              case measure => have := HK1.out; omega
              case rel => exact ⟨(y142), (wrap64 (x6_1 + 1)), (by first | rfl | (simp; done) | (simp [*]; done)), H', ⟨by have := HK1.out; omega⟩, ⟨by (with_reducible repeat (first | apply Kd.R_alloc | apply Kd.R_drewN | apply Kd.R_drew)); exact HO144.out⟩, ⟨by repeat (first | (with_reducible first | exact HB.out | apply below_alloc | apply pw_below_drewN | apply below_drew1) | exact HB.out)⟩⟩
            · rw [if_neg c7] at H
              exact absurd H (by simp)
          · rw [if_neg c5] at H
            exact absurd H (by simp)
        · rw [if_neg c4] at H
          have c4b0 : decide (x6_1 < a1) = false := decide_eq_false c4
          clear c4
          obtain rfl := Option.some.inj H
          go_wp2
          go_ret
          exact ⟨_, by first | rfl | (simp [errW_none, errW_some] <;> rfl) | (simp [*, errW_none, errW_some] <;> rfl), by (with_reducible repeat (first | apply Kd.R_alloc | apply Kd.R_drewN | apply Kd.R_drew)); exact HO_5.out, by repeat (first | (with_reducible first | exact HB.out | apply below_alloc | apply pw_below_drewN | apply below_drew1) | exact HB.out)⟩
      · rw [if_neg c3] at H
        have c3b0 : decide (x6_1 < (l0.length : Int)) = false := decide_eq_false c3
        clear c3
        obtain rfl := Option.some.inj H
        go_wp2
        go_ret
        exact ⟨_, by first | rfl | (simp [errW_none, errW_some] <;> rfl) | (simp [*, errW_none, errW_some] <;> rfl), by (with_reducible repeat (first | apply Kd.R_alloc | apply Kd.R_drewN | apply Kd.R_drew)); exact HO_5.out, by repeat (first | (with_reducible first | exact HB.out | apply below_alloc | apply pw_below_drewN | apply below_drew1) | exact HB.out)⟩
end Go.Proofs.YtcjidibdidijaaaDoor.PCod
namespace Go.Proofs.YtcjidibdidijaaaDoor
open Go.RowKit Go.Proofs.YtcjidibdidijaaaDoor.PCod Go.Proofs.YtcjidibdidijaaaDoorW.PrintWords Go.Proofs.YtcjidibdidijaaaDoorW.PrintMore
set_option linter.unusedVariables false
set_option linter.unusedSimpArgs false
theorem i64_wf {x : Int} (h : (Lit.int .i64 x).wf = true) : -9223372036854775808 ≤ x ∧ x ≤ 9223372036854775807 := by
  simp only [Lit.wf, Bool.and_eq_true, decide_eq_true_eq] at h
  have h1 : IntKind.i64.min = -9223372036854775808 := rfl
  have h2 : IntKind.i64.max = 9223372036854775807 := rfl
  omega
theorem wrap64_range (x : Int) : -9223372036854775808 ≤ wrap64 x ∧ wrap64 x ≤ 9223372036854775807 := by unfold wrap64; omega
theorem wordN_range (n raw : Int) (h : -9223372036854775808 ≤ raw ∧ raw ≤ 9223372036854775807) : -9223372036854775808 ≤ wordN n raw ∧ wordN n raw ≤ 9223372036854775807 := by
  unfold wordN
  split
  · have hr := pickN_range n 24 (by omega) (by omega)
    have : pickN n 24 = 0 ∨ pickN n 24 = 1 ∨ pickN n 24 = 2 ∨ pickN n 24 = 3 ∨ pickN n 24 = 4 ∨ pickN n 24 = 5 ∨ pickN n 24 = 6 ∨ pickN n 24 = 7 ∨ pickN n 24 = 8 ∨ pickN n 24 = 9 := by omega
    rcases this with h | h | h | h | h | h | h | h | h | h <;> rw [h] <;> decide
  · split
    · exact wrap64_range _
    · exact h
def mkI (n : Int) : S42 := ⟨(instrF n).1, (instrF n).2.1, (instrF n).2.2.1, (instrF n).2.2.2.1, (instrF n).2.2.2.2⟩
theorem instrD_val (op n : Int) (h1 : 1 ≤ op) (h2 : op ≤ 37) (hn : -9223372036854775808 ≤ n ∧ n ≤ 9223372036854775807) : Val (instrD op n).1 (instrD op n).2.1 (instrD op n).2.2.1 (instrD op n).2.2.2.1 (instrD op n).2.2.2.2 := by
  have p8 : ∀ x, 0 ≤ pickN x 8 ∧ pickN x 8 < 8 := fun x => pickN_range x 8 (by omega) (by omega)
  have p3 : ∀ x, 0 ≤ pickN x 3 ∧ pickN x 3 < 3 := fun x => pickN_range x 3 (by omega) (by omega)
  have p2 : ∀ x, 0 ≤ pickN x 2 ∧ pickN x 2 < 2 := fun x => pickN_range x 2 (by omega) (by omega)
  have p40 : ∀ x, 0 ≤ pickN x 40 ∧ pickN x 40 < 40 := fun x => pickN_range x 40 (by omega) (by omega)
  have p6 : ∀ x, 0 ≤ pickN x 6 ∧ pickN x 6 < 6 := fun x => pickN_range x 6 (by omega) (by omega)
  have p15 : ∀ x, 0 ≤ pickN x 15 ∧ pickN x 15 < 15 := fun x => pickN_range x 15 (by omega) (by omega)
  have pw : ∀ x, -9223372036854775808 ≤ wordN x n ∧ wordN x n ≤ 9223372036854775807 := fun x => wordN_range x n hn
  generalize hd1 : nextN n 37 = d1
  have w40 : ∀ x, wrap64 (1 + pickN x 40) = 1 + pickN x 40 := fun x => by have := p40 x; unfold wrap64; omega
  have w15 : ∀ x, wrap64 (pickN x 15 - 6) = pickN x 15 - 6 := fun x => by have := p15 x; unfold wrap64; omega
  have h : op = 1 ∨ op = 2 ∨ op = 3 ∨ op = 4 ∨ op = 5 ∨ op = 6 ∨ op = 7 ∨ op = 8 ∨ op = 9 ∨ op = 10 ∨ op = 11 ∨ op = 12 ∨ op = 13 ∨ op = 14 ∨ op = 15 ∨ op = 16 ∨ op = 17 ∨ op = 18 ∨ op = 19 ∨ op = 20 ∨ op = 21 ∨ op = 22 ∨ op = 23 ∨ op = 24 ∨ op = 25 ∨ op = 26 ∨ op = 27 ∨ op = 28 ∨ op = 29 ∨ op = 30 ∨ op = 31 ∨ op = 32 ∨ op = 33 ∨ op = 34 ∨ op = 35 ∨ op = 36 ∨ op = 37 := by omega
  unfold instrD Val
  rw [hd1]
  rcases h with rfl | rfl | rfl | rfl | rfl | rfl | rfl | rfl | rfl | rfl | rfl | rfl | rfl | rfl | rfl | rfl | rfl | rfl | rfl | rfl | rfl | rfl | rfl | rfl | rfl | rfl | rfl | rfl | rfl | rfl | rfl | rfl | rfl | rfl | rfl | rfl | rfl
  · simp [fo_1, hasA, hasB, hasC, hasN, loN, hiN, w40, w15] <;> omega
  · simp [fo_2, hasA, hasB, hasC, hasN, loN, hiN, w40, w15] <;> omega
  · simp [fo_3, hasA, hasB, hasC, hasN, loN, hiN, w40, w15] <;> omega
  · have q0 := p40 d1; simp [fo_4, hasA, hasB, hasC, hasN, loN, hiN, w40, w15] <;> omega
  · have q0 := p15 d1; simp [fo_5, hasA, hasB, hasC, hasN, loN, hiN, w40, w15] <;> omega
  · have q0 := p8 d1; have q1 := p3 (nextN d1 8); have q2 := p2 (nextN (nextN d1 8) 3); simp [fo_6, hasA, hasB, hasC, hasN, loN, hiN, w40, w15] <;> omega
  · have q0 := p8 d1; have q1 := p15 (nextN d1 8); simp [fo_7, hasA, hasB, hasC, hasN, loN, hiN, w40, w15] <;> omega
  · have q0 := p8 d1; have q1 := p15 (nextN d1 8); simp [fo_8, hasA, hasB, hasC, hasN, loN, hiN, w40, w15] <;> omega
  · have q0 := p8 d1; simp [fo_9, hasA, hasB, hasC, hasN, loN, hiN, w40, w15] <;> omega
  · have q0 := p8 d1; have q1 := p8 (nextN d1 8); simp [fo_10, hasA, hasB, hasC, hasN, loN, hiN, w40, w15] <;> omega
  · have q0 := p8 d1; have q1 := p8 (nextN d1 8); have q2 := p8 (nextN (nextN d1 8) 8); simp [fo_11, hasA, hasB, hasC, hasN, loN, hiN, w40, w15] <;> omega
  · have q0 := p8 d1; have q1 := p8 (nextN d1 8); have q2 := p8 (nextN (nextN d1 8) 8); simp [fo_12, hasA, hasB, hasC, hasN, loN, hiN, w40, w15] <;> omega
  · have q0 := p8 d1; have q1 := p15 (nextN d1 8); simp [fo_13, hasA, hasB, hasC, hasN, loN, hiN, w40, w15] <;> omega
  · have q0 := p8 d1; have q1 := pw (pickN (nextN d1 8) 500); simp [fo_14, hasA, hasB, hasC, hasN, loN, hiN, w40, w15] <;> omega
  · have q0 := p8 d1; simp [fo_15, hasA, hasB, hasC, hasN, loN, hiN, w40, w15] <;> omega
  · have q0 := p8 d1; simp [fo_16, hasA, hasB, hasC, hasN, loN, hiN, w40, w15] <;> omega
  · have q0 := p8 d1; have q1 := p8 (nextN d1 8); simp [fo_17, hasA, hasB, hasC, hasN, loN, hiN, w40, w15] <;> omega
  · have q0 := p8 d1; have q1 := p8 (nextN d1 8); simp [fo_18, hasA, hasB, hasC, hasN, loN, hiN, w40, w15] <;> omega
  · have q0 := p8 d1; have q1 := p8 (nextN d1 8); simp [fo_19, hasA, hasB, hasC, hasN, loN, hiN, w40, w15] <;> omega
  · have q0 := p8 d1; have q1 := p8 (nextN d1 8); simp [fo_20, hasA, hasB, hasC, hasN, loN, hiN, w40, w15] <;> omega
  · have q0 := p8 d1; have q1 := p8 (nextN d1 8); simp [fo_21, hasA, hasB, hasC, hasN, loN, hiN, w40, w15] <;> omega
  · have q0 := p8 d1; have q1 := p8 (nextN d1 8); simp [fo_22, hasA, hasB, hasC, hasN, loN, hiN, w40, w15] <;> omega
  · have q0 := p8 d1; have q1 := p8 (nextN d1 8); simp [fo_23, hasA, hasB, hasC, hasN, loN, hiN, w40, w15] <;> omega
  · have q0 := p8 d1; have q1 := p8 (nextN d1 8); simp [fo_24, hasA, hasB, hasC, hasN, loN, hiN, w40, w15] <;> omega
  · have q0 := p8 d1; have q1 := p8 (nextN d1 8); simp [fo_25, hasA, hasB, hasC, hasN, loN, hiN, w40, w15] <;> omega
  · have q0 := p8 d1; have q1 := p8 (nextN d1 8); simp [fo_26, hasA, hasB, hasC, hasN, loN, hiN, w40, w15] <;> omega
  · have q0 := p8 d1; have q1 := p8 (nextN d1 8); simp [fo_27, hasA, hasB, hasC, hasN, loN, hiN, w40, w15] <;> omega
  · have q0 := p8 d1; have q1 := p8 (nextN d1 8); simp [fo_28, hasA, hasB, hasC, hasN, loN, hiN, w40, w15] <;> omega
  · have q0 := p8 d1; have q1 := p8 (nextN d1 8); simp [fo_29, hasA, hasB, hasC, hasN, loN, hiN, w40, w15] <;> omega
  · have q0 := p8 d1; have q1 := p8 (nextN d1 8); simp [fo_30, hasA, hasB, hasC, hasN, loN, hiN, w40, w15] <;> omega
  · have q0 := p8 d1; have q1 := p8 (nextN d1 8); simp [fo_31, hasA, hasB, hasC, hasN, loN, hiN, w40, w15] <;> omega
  · have q0 := p8 d1; have q1 := p8 (nextN d1 8); simp [fo_32, hasA, hasB, hasC, hasN, loN, hiN, w40, w15] <;> omega
  · have q0 := p8 d1; have q1 := p15 (nextN d1 8); simp [fo_33, hasA, hasB, hasC, hasN, loN, hiN, w40, w15] <;> omega
  · have q0 := p8 d1; have q1 := p8 (nextN d1 8); have q2 := p2 (nextN (nextN d1 8) 8); simp [fo_34, hasA, hasB, hasC, hasN, loN, hiN, w40, w15] <;> omega
  · have q0 := p8 d1; have q1 := p8 (nextN d1 8); have q2 := p2 (nextN (nextN d1 8) 8); simp [fo_35, hasA, hasB, hasC, hasN, loN, hiN, w40, w15] <;> omega
  · have q0 := p8 d1; have q1 := p6 (nextN d1 8); simp [fo_36, hasA, hasB, hasC, hasN, loN, hiN, w40, w15] <;> omega
  · have q0 := p8 d1; have q1 := p6 (nextN d1 8); simp [fo_37, hasA, hasB, hasC, hasN, loN, hiN, w40, w15] <;> omega
theorem mkI_valid (n : Int) (hn : -9223372036854775808 ≤ n ∧ n ≤ 9223372036854775807) : vI (mkI n) = true := by
  have hr := pickN_range n 37 (by omega) (by omega)
  exact decide_eq_true (instrD_val (pickN n 37 + 1) n (by omega) (by omega) hn)
def mkL (l : List Int) (m : Nat) : List S42 := (l.take m).map mkI
theorem mkL_len (l : List Int) (m : Nat) : (mkL l m).length = min m l.length := by simp [mkL]
theorem instrs_loop (l : List Int) (m : Nat) (hm : m < 1000000) : ∀ (d j : Nat) (acc : List S42), min m l.length - j = d → j ≤ min m l.length → acc.length = j →
    Ev (fun k => fullingkeep2_Instrs.l0 k l (m : Int) acc (j : Int)) (acc ++ (mkL l m).drop j)
  | 0, j, acc, hd, hj, ha => by
    have e : (mkL l m).drop j = [] := List.drop_eq_nil_of_le (by rw [mkL_len]; omega)
    rw [e, List.append_nil]
    refine Ev.step (f := fun _ => some acc) (fun k => ?_) (Ev.now _)
    rw [fullingkeep2_Instrs.l0]
    by_cases c : (j : Int) < l.length
    · rw [if_pos c, if_neg (by omega)]
    · rw [if_neg c]
  | d + 1, j, acc, hd, hj, ha => by
    have hlt : j < (mkL l m).length := by rw [mkL_len]; omega
    have e : (mkL l m).drop j = (mkL l m)[j] :: (mkL l m).drop (j + 1) := List.drop_eq_getElem_cons hlt
    have hg : (mkL l m)[j] = mkI (rd l (j : Int)) := by
      rw [rd_nat l j (by omega)]
      simp [mkL]
    have ih := instrs_loop l m hm d (j + 1) (acc ++ [mkI (rd l (j : Int))]) (by omega) (by omega) (by simp [ha])
    rw [e, hg]
    rw [List.append_assoc] at ih
    refine Ev.step (fun k => ?_) ih
    rw [fullingkeep2_Instrs.l0, if_pos (by omega), if_pos (by omega), if_pos (by omega)]
    have h1 : fullingkeep2_Instr.f (rd l (j : Int)) = some (instrF (rd l (j : Int))) := rfl
    rw [h1, Option.bind_some, if_pos (by omega), wrap_succ j (by omega)]
    rfl
theorem instrs_ev (l : List Int) (m : Nat) (hm : m < 1000000) : Ev (fun k => fullingkeep2_Instrs.f k l (m : Int)) (mkL l m) := by
  have h := instrs_loop l m hm _ 0 [] rfl (by omega) rfl
  rw [List.drop_zero, List.nil_append] at h
  exact h
theorem sameW_loop (l : List Int) (hl : l.length < 9223372036854775807) : ∀ (d j : Nat), l.length - j = d → j ≤ l.length → Ev (fun k => fullingref32_SameWords.l0 k l l (j : Int)) true
  | 0, j, hd, hj => by
    refine Ev.step (f := fun _ => some true) (fun k => ?_) (Ev.now _)
    rw [fullingref32_SameWords.l0, if_neg (by omega)]
  | d + 1, j, hd, hj => by
    refine Ev.step (fun k => ?_) (sameW_loop l hl d (j + 1) (by omega) (by omega))
    rw [fullingref32_SameWords.l0, if_pos (by omega), if_pos (by omega), if_pos (by omega), if_pos rfl, wrap_succ j (by omega)]
theorem sameW_ev (l : List Int) (hl : l.length < 9223372036854775807) : Ev (fun k => fullingref32_SameWords.f k l l) true := by
  refine Ev.congr (fun k => ?_) (sameW_loop l hl _ 0 rfl (by omega))
  show fullingref32_SameWords.f k l l = _
  unfold fullingref32_SameWords.f
  rw [if_pos rfl]
  rfl
end Go.Proofs.YtcjidibdidijaaaDoor
namespace Go.Proofs.YtcjidibdidijaaaDoor
open Go.RowKit Go.Proofs.YtcjidibdidijaaaDoor.PCod Go.Proofs.YtcjidibdidijaaaDoorW.PrintWords Go.Proofs.YtcjidibdidijaaaDoorW.PrintMore
set_option linter.unusedVariables false
set_option linter.unusedSimpArgs false
def retI : S42 := ⟨2, 0, 0, 0, 0⟩
def binL (l : List Int) : List S42 := mkL l 24 ++ [retI]
def fixI (n : Nat) (P : List Int) (k : Nat) (i : S42) : S42 :=
  if cfJump i = true then ⟨i.f0, i.f1, i.f2, i.f3, wrap64 (rd P (pickN (wrap64 ((k : Int) + i.f4)) n) - rd P (k : Nat))⟩
  else if i.f0 = 6 then ⟨i.f0, wrap64 (2 - i.f4), i.f2, i.f3, i.f4⟩ else i
def binI (l : List Int) : List S42 := (binL l).mapIdx (fixI (binL l).length (starts 0 (binL l)))
def binE (l : List Int) : List Int := [0, rd (starts 0 (binL l)) (((binL l).length / 2 : Nat) : Int)]
def GenI (i : S42) : Prop := vI i = true ∧ (i.f0 = 6 → 0 ≤ i.f4 ∧ i.f4 < 2) ∧ (i.f0 = 34 ∨ i.f0 = 35 → 0 ≤ i.f4 ∧ i.f4 < 2)
theorem instrD_op (op n : Int) : (instrD op n).1 = op := by
  unfold instrD
  simp only
  split <;> (try split) <;> (try split) <;> (try split) <;> (try split) <;> (try split) <;> rfl
theorem instrD_6 (n : Int) : ∃ x, (instrD 6 n).2.2.2.2 = pickN x 2 := ⟨_, rfl⟩
theorem instrD_34 (n : Int) : ∃ x, (instrD 34 n).2.2.2.2 = pickN x 2 := ⟨_, rfl⟩
theorem instrD_35 (n : Int) : ∃ x, (instrD 35 n).2.2.2.2 = pickN x 2 := ⟨_, rfl⟩
theorem mkI_gen (n : Int) (hn : -9223372036854775808 ≤ n ∧ n ≤ 9223372036854775807) : GenI (mkI n) := by
  have p2 : ∀ x, 0 ≤ pickN x 2 ∧ pickN x 2 < 2 := fun x => pickN_range x 2 (by omega) (by omega)
  refine ⟨mkI_valid n hn, ?_, ?_⟩
  · intro h
    have h0 : (instrD (pickN n 37 + 1) n).1 = 6 := h
    rw [instrD_op] at h0
    show 0 ≤ (instrD (pickN n 37 + 1) n).2.2.2.2 ∧ (instrD (pickN n 37 + 1) n).2.2.2.2 < 2
    rw [h0]
    obtain ⟨x, hx⟩ := instrD_6 n
    rw [hx]
    exact p2 x
  · intro h
    have h0 : (instrD (pickN n 37 + 1) n).1 = 34 ∨ (instrD (pickN n 37 + 1) n).1 = 35 := h
    rw [instrD_op] at h0
    show 0 ≤ (instrD (pickN n 37 + 1) n).2.2.2.2 ∧ (instrD (pickN n 37 + 1) n).2.2.2.2 < 2
    rcases h0 with h0 | h0
    · rw [h0]
      obtain ⟨x, hx⟩ := instrD_34 n
      rw [hx]
      exact p2 x
    · rw [h0]
      obtain ⟨x, hx⟩ := instrD_35 n
      rw [hx]
      exact p2 x
theorem binL_gen (l : List Int) (hl : ∀ x ∈ l, (Lit.int .i64 x).wf = true) : ∀ i ∈ binL l, GenI i := by
  intro i hi
  unfold binL mkL at hi
  rw [List.mem_append, List.mem_map] at hi
  rcases hi with ⟨x, hx, rfl⟩ | hi
  · exact mkI_gen x (i64_wf (hl x (List.mem_of_mem_take hx)))
  · rw [List.mem_singleton] at hi
    subst hi
    exact ⟨by decide +kernel, fun h => by simp [retI] at h, fun h => by simp [retI] at h⟩
theorem binL_len (l : List Int) : (binL l).length = min 24 l.length + 1 := by simp [binL, mkL_len]
theorem starts_cong : ∀ (a : Nat) (L L' : List S42), L.map (fun i => (wI i).length) = L'.map (fun i => (wI i).length) → starts a L = starts a L'
  | a, [], [], h => rfl
  | a, [], _ :: _, h => by simp at h
  | a, _ :: _, [], h => by simp at h
  | a, i :: t, j :: u, h => by
    simp only [List.map_cons, List.cons.injEq] at h
    rw [starts, starts, h.1, starts_cong _ t u h.2]
theorem form5 : formOf 5 = 8 ∧ formOf 7 = 5 ∧ formOf 8 = 5 ∧ formOf 6 = 5 := by decide +kernel
theorem cfJump_op {i : S42} (h : cfJump i = true) : i.f0 = 5 ∨ i.f0 = 7 ∨ i.f0 = 8 := by
  unfold cfJump at h
  simp only [Bool.and_eq_true, Bool.or_eq_true, beq_iff_eq] at h
  omega
theorem flat_len75 (L : List S42) (h : L.all vI = true) : (L.flatMap wI).length ≤ 3 * L.length := (flat_len L h).2
theorem starts_rd (L : List S42) (h : L.all vI = true) (k : Int) : 0 ≤ rd (starts 0 L) k ∧ rd (starts 0 L) k ≤ 3 * L.length := by
  unfold rd
  rw [List.getD_eq_getElem?_getD]
  by_cases hk : k.toNat < (starts 0 L).length
  · rw [List.getElem?_eq_getElem hk, Option.getD_some]
    have := starts_range 0 L h _ (List.getElem_mem hk)
    have := flat_len75 L h
    omega
  · rw [List.getElem?_eq_none (by omega), Option.getD_none]
    omega
theorem wrap_diff (a b : Int) (h1 : 0 ≤ a ∧ a ≤ 3000) (h2 : 0 ≤ b ∧ b ≤ 3000) : wrap64 (a - b) = a - b := by unfold wrap64; omega
theorem fixI_val (n : Nat) (L : List S42) (hL : L.all vI = true) (hn : L.length ≤ 1000) (k : Nat) (i : S42) (hg : GenI i) : vI (fixI n (starts 0 L) k i) = true := by
  obtain ⟨hv, hc, _⟩ := hg
  obtain ⟨f5, f7, f8, f6⟩ := form5
  unfold fixI
  have hV := vI_val hv
  unfold Val at hV
  obtain ⟨v1, v2, v3, v4, v5, v6, v7, v8, v9, v10, v11, v12, v13⟩ := hV
  split
  · rename_i hj
    have r1 := starts_rd L hL (pickN (wrap64 ((k : Int) + i.f4)) n)
    have r2 := starts_rd L hL (k : Nat)
    have hw : wrap64 (rd (starts 0 L) (pickN (wrap64 ((k : Int) + i.f4)) n) - rd (starts 0 L) (k : Nat)) = rd (starts 0 L) (pickN (wrap64 ((k : Int) + i.f4)) n) - rd (starts 0 L) (k : Nat) := wrap_diff _ _ (by omega) (by omega)
    rw [hw]
    have hd : -3000 ≤ rd (starts 0 L) (pickN (wrap64 ((k : Int) + i.f4)) n) - rd (starts 0 L) (k : Nat) ∧ rd (starts 0 L) (pickN (wrap64 ((k : Int) + i.f4)) n) - rd (starts 0 L) (k : Nat) ≤ 3000 := by omega
    clear hw r1 r2
    generalize rd (starts 0 L) (pickN (wrap64 ((k : Int) + i.f4)) n) - rd (starts 0 L) (k : Nat) = d at *
    refine decide_eq_true (show Val i.f0 i.f1 i.f2 i.f3 d from ?_)
    have hN : hasN (formOf i.f0) = true := by
      rcases cfJump_op hj with h | h | h <;> rw [h]
      · rw [f5]; rfl
      · rw [f7]; rfl
      · rw [f8]; rfl
    refine ⟨v1, v2, v3, v4, v5, .inl hN, v7, v8, v9, v10, v11, v12, fun _ => ?_⟩
    rcases cfJump_op hj with h | h | h <;> rw [h] <;> unfold loN hiN <;> simp <;> omega
  · split
    · rename_i h6
      have h2 := hc h6
      have hw : wrap64 (2 - i.f4) = 2 - i.f4 := by unfold wrap64; omega
      rw [hw]
      refine decide_eq_true (show Val i.f0 (2 - i.f4) i.f2 i.f3 i.f4 from ?_)
      refine ⟨v1, v2, .inl (by rw [h6, f6]; rfl), v4, v5, v6, by omega, by rw [if_pos h6]; omega, v9, v10, v11, v12, v13⟩
    · exact hv
theorem fixI_op (n : Nat) (P : List Int) (k : Nat) (i : S42) : (fixI n P k i).f0 = i.f0 := by unfold fixI; split <;> (try split) <;> rfl
theorem binL_all (l : List Int) (hl : ∀ x ∈ l, (Lit.int .i64 x).wf = true) : (binL l).all vI = true := List.all_eq_true.2 fun i hi => (binL_gen l hl i hi).1
theorem binI_len (l : List Int) : (binI l).length = (binL l).length := List.length_mapIdx
theorem binI_get (l : List Int) (k : Nat) (h : k < (binL l).length) : (binI l)[k]? = some (fixI (binL l).length (starts 0 (binL l)) k (binL l)[k]) := by
  unfold binI
  rw [List.getElem?_mapIdx, List.getElem?_eq_getElem h]
  rfl
theorem binI_all (l : List Int) (hl : ∀ x ∈ l, (Lit.int .i64 x).wf = true) : (binI l).all vI = true := by
  refine List.all_eq_true.2 fun i hi => ?_
  obtain ⟨k, hk, rfl⟩ := List.getElem_of_mem hi
  have hk' : k < (binL l).length := by rw [← binI_len]; exact hk
  have e := binI_get l k hk'
  rw [List.getElem?_eq_getElem hk] at e
  rw [Option.some.inj e]
  exact fixI_val _ _ (binL_all l hl) (by rw [binL_len]; omega) k _ (binL_gen l hl _ (List.getElem_mem hk'))
theorem binI_starts (l : List Int) (hl : ∀ x ∈ l, (Lit.int .i64 x).wf = true) : starts 0 (binI l) = starts 0 (binL l) := by
  refine starts_cong 0 _ _ (List.ext_getElem? fun k => ?_)
  rw [List.getElem?_map, List.getElem?_map]
  by_cases hk : k < (binL l).length
  · rw [binI_get l k hk, List.getElem?_eq_getElem hk]
    have h1 := (binL_gen l hl _ (List.getElem_mem hk)).1
    have h2 := fixI_val (binL l).length (binL l) (binL_all l hl) (by rw [binL_len]; omega) k _ (binL_gen l hl _ (List.getElem_mem hk))
    rw [Option.map_some, Option.map_some, wI_len h1, wI_len h2, fixI_op]
  · rw [List.getElem?_eq_none (by rw [binI_len]; omega), List.getElem?_eq_none (by omega)]
theorem rd_mem (P : List Int) (k : Nat) (h : k < P.length) : rd P (k : Int) ∈ P := by
  unfold rd
  rw [Int.toNat_natCast, List.getD_eq_getElem?_getD, List.getElem?_eq_getElem h]
  exact List.getElem_mem h
def binW (l : List Int) : List Int := (binI l).flatMap wI
theorem binW_dec (l : List Int) (hl : ∀ x ∈ l, (Lit.int .i64 x).wf = true) : decR (binW l) = (binI l, starts 0 (binL l), 0) := by
  unfold binW
  rw [decR_flat _ (binI_all l hl), binI_starts l hl]
theorem binW_len (l : List Int) (hl : ∀ x ∈ l, (Lit.int .i64 x).wf = true) : 1 ≤ (binW l).length ∧ (binW l).length ≤ 75 := by
  have h1 := flat_len (binI l) (binI_all l hl)
  have h2 := binL_len l
  have h3 := binI_len l
  unfold binW
  omega
theorem bin_valid (l : List Int) (hl : ∀ x ∈ l, (Lit.int .i64 x).wf = true) : validS (binW l) (binE l) [2, 1] [5, 2] [3, 2] = true := by
  have hd := binW_dec l hl
  have hlen := binW_len l hl
  have hn := binL_len l
  have hst : (starts 0 (binL l)).length = (binL l).length := starts_len 0 _
  rw [validS_iff, hd]
  have start_rd : ∀ k : Nat, k < (binL l).length → isStart (binW l) (rd (starts 0 (binL l)) (k : Nat)) = true := fun k hk => by
    unfold isStart
    rw [hd]
    exact decide_eq_true (rd_mem _ k (by rw [hst]; exact hk))
  refine ⟨?_, rfl, ?_, ?_, ?_, ?_⟩
  · unfold okLens binE
    rw [decide_eq_true (show 1 ≤ (binW l).length from hlen.1), decide_eq_true (show (binW l).length ≤ 60000 by omega)]
    rfl
  · have e : (binI l).getLast? = some retI := by
      rw [List.getLast?_eq_getElem?, binI_len, binI_get l _ (by omega)]
      have : (binL l)[(binL l).length - 1]'(by omega) = retI := by
        unfold binL
        simp
      rw [this]
      have h1 : cfJump retI = false := by decide +kernel
      unfold fixI
      rw [h1]
      rfl
    show (binI l).getLast?.any cfOn = false
    rw [e]
    decide +kernel
  · intro k hk
    have h0 := start_rd 0 (by omega)
    have h1 := start_rd ((binL l).length / 2) (by omega)
    have e0 : rd (starts 0 (binL l)) ((0 : Nat) : Int) = 0 := by
      rw [starts_get 0 _ 0 (by omega)]
      rfl
    rw [e0] at h0
    have hk2 : k < 2 := hk
    rcases (by omega : k = 0 ∨ k = 1) with rfl | rfl
    · unfold okFun
      rw [show rd (binE l) ((0 : Nat) : Int) = 0 from rfl, h0]
      decide
    · unfold okFun
      rw [show rd (binE l) ((1 : Nat) : Int) = rd (starts 0 (binL l)) (((binL l).length / 2 : Nat) : Int) from rfl, h1]
      decide
  · intro k hk
    have hk2 : k < 2 := hk
    rcases (by omega : k = 0 ∨ k = 1) with rfl | rfl <;> decide
  · intro k i hi
    have hkl : k < (binL l).length := by
      have := (List.getElem?_eq_some_iff.1 hi).1
      rw [← binI_len]
      exact this
    have hi2 : (binI l)[k]? = some i := hi
    rw [binI_get l k hkl] at hi2
    have hii := Option.some.inj hi2
    have hg := binL_gen l hl _ (List.getElem_mem hkl)
    generalize (binL l)[k] = j at *
    have hop : i.f0 = j.f0 := by rw [← hii, fixI_op]
    show okIns (binW l) [2, 1] 2 (rd (starts 0 (binL l)) (k : Nat)) i = true
    by_cases hj : cfJump j = true
    · have ei : i.f4 = wrap64 (rd (starts 0 (binL l)) (pickN (wrap64 ((k : Int) + j.f4)) (binL l).length) - rd (starts 0 (binL l)) (k : Nat)) := by
        rw [← hii]
        unfold fixI
        rw [if_pos hj]
      have hp := pickN_range (wrap64 ((k : Int) + j.f4)) (binL l).length (by omega) (by omega)
      generalize hpk : pickN (wrap64 ((k : Int) + j.f4)) (binL l).length = p at *
      have hs := start_rd p.toNat (by omega)
      rw [show ((p.toNat : Nat) : Int) = p by omega] at hs
      have r1 := starts_rd (binL l) (binL_all l hl) p
      have r2 := starts_rd (binL l) (binL_all l hl) (k : Nat)
      have et : wrap64 (rd (starts 0 (binL l)) (k : Nat) + i.f4) = rd (starts 0 (binL l)) p := by
        rw [ei, wrap_diff _ _ (by omega) (by omega)]
        unfold wrap64
        omega
      unfold okIns
      rw [et, hs]
      rcases cfJump_op hj with h | h | h <;> rw [hop, h] <;> rfl
    · have hnj : (j.f0 == 5 || j.f0 == 7 || j.f0 == 8) = false := by
        have := hj
        unfold cfJump at this
        rw [hg.1, Bool.true_and] at this
        exact Bool.eq_false_iff.2 this
      unfold okIns
      rw [hop, hnj]
      by_cases h6 : j.f0 = 6
      · have h2 := hg.2.1 h6
        have e1 : i.f1 = 2 - j.f4 ∧ i.f4 = j.f4 := by
          rw [← hii]
          unfold fixI
          rw [if_neg hj, if_pos h6]
          exact ⟨by show wrap64 (2 - j.f4) = _; unfold wrap64; omega, rfl⟩
        rw [e1.1, e1.2, h6]
        rcases (by omega : j.f4 = 0 ∨ j.f4 = 1) with h | h <;> rw [h] <;> simp [rd]
      · have e1 : i = j := by
          rw [← hii]
          unfold fixI
          rw [if_neg hj, if_neg h6]
        rw [e1, beq_eq_false_iff_ne.2 h6]
        by_cases h34 : j.f0 = 34 ∨ j.f0 = 35
        · have h2 := hg.2.2 h34
          rw [decide_eq_true (show j.f4 < ((2 : Nat) : Int) by omega)]
          simp
        · have e34 : (j.f0 == 34 || j.f0 == 35) = false := by
            rw [beq_eq_false_iff_ne.2 (fun h => h34 (.inl h)), beq_eq_false_iff_ne.2 (fun h => h34 (.inr h))]
            rfl
          rw [e34]
          rfl
end Go.Proofs.YtcjidibdidijaaaDoor
namespace Go.Proofs.YtcjidibdidijaaaDoor
open Go.RowKit Go.Proofs.YtcjidibdidijaaaDoor.PCod Go.Proofs.YtcjidibdidijaaaDoorW.PrintWords Go.Proofs.YtcjidibdidijaaaDoorW.PrintMore
set_option linter.unusedVariables false
set_option linter.unusedSimpArgs false
def lensB (n0 n1 n2 n3 n4 : Nat) : Bool := decide (1 ≤ n0) && decide (n0 ≤ 60000) && decide (1 ≤ n1) && decide (n1 ≤ 8) && decide (n2 = n1) && decide (n3 = n1) && decide (n4 ≤ 4)
set_option maxRecDepth 100000 in
set_option maxHeartbeats 4000000 in
theorem valid_lens (A0 A1 A2 A3 A4 : Option Addr) (n0 n1 n2 n3 n4 c0 c1 c2 c3 c4 : Nat) (w : World) (hbad : lensB n0 n1 n2 n3 n4 = false) :
    Calls Tryd.prog 46 #[.agg #[.slice A0 n0 c0, .slice A1 n1 c1, .slice A2 n2 c2, .slice A3 n3 c3, .slice A4 n4 c4]] w fun e w' => e = .returned (.bool false) ∧ Below w.heap.size w w' := by
  unfold lensB at hbad
  have hbad := Aside0.mk hbad
  obtain ⟨v0, hv0⟩ : ∃ v, (decide ((1:Int) ≤ n0) && decide ((n0:Int) ≤ 60000)) = v := ⟨_, rfl⟩
  obtain ⟨v1, hv1⟩ : ∃ v, (decide ((1:Int) ≤ n1) && decide ((n1:Int) ≤ 8)) = v := ⟨_, rfl⟩
  have HV0 := Lib.hid hv0
  have HV1 := Lib.hid hv1
  clear hv0 hv1
  go_enter Tryd.func46, Tryd.ntmps46
  go_wp2_with fail
  refine (within_any _ _ _ _).mono ?_
  rintro e w1 ⟨rfl, rfl⟩
  rw [HV0.out]
  cases v0 with
  | false =>
    go_wp2_with fail
    go_ret
    exact ⟨rfl, by first | exact below_alloc (Below.refl _ _) _ | exact below_drew (below_alloc (Below.refl _ _) _)⟩
  | true =>
    go_wp2_with fail
    refine (within_any _ _ _ _).mono ?_
    rintro e w1 ⟨rfl, rfl⟩
    rw [HV1.out]
    cases v1 with
    | false =>
      go_wp2_with fail
      go_ret
      exact ⟨rfl, by first | exact below_alloc (Below.refl _ _) _ | exact below_drew (below_alloc (Below.refl _ _) _)⟩
    | true =>
      by_cases h2 : n2 = n1
      · have t2 : ((n2 : Int) != (n1 : Int)) = false := bne_eq_false_iff_eq.2 (by omega)
        by_cases h3 : n3 = n1
        · have t3 : ((n3 : Int) != (n1 : Int)) = false := bne_eq_false_iff_eq.2 (by omega)
          have h4 : ¬ n4 ≤ 4 := by
            intro h4
            have a0 := HV0.out
            have a1 := HV1.out
            simp only [Bool.and_eq_true, decide_eq_true_eq] at a0 a1
            have hb := hbad.out
            rw [decide_eq_true (by omega : 1 ≤ n0), decide_eq_true (by omega : n0 ≤ 60000), decide_eq_true (by omega : 1 ≤ n1), decide_eq_true (by omega : n1 ≤ 8), decide_eq_true h2, decide_eq_true h3, decide_eq_true h4] at hb
            cases hb
          have t4 : decide ((4 : Int) < (n4 : Int)) = true := decide_eq_true (by omega)
          clear h2 h3 h4
          go_wp2_with fail
          go_ret
          exact ⟨rfl, by first | exact below_alloc (Below.refl _ _) _ | exact below_drew (below_alloc (Below.refl _ _) _)⟩
        · have t3 : ((n3 : Int) != (n1 : Int)) = true := bne_iff_ne.2 (by omega)
          clear h2 h3
          go_wp2_with fail
          go_ret
          exact ⟨rfl, by first | exact below_alloc (Below.refl _ _) _ | exact below_drew (below_alloc (Below.refl _ _) _)⟩
      · have t2 : ((n2 : Int) != (n1 : Int)) = true := bne_iff_ne.2 (by omega)
        clear h2
        go_wp2_with fail
        go_ret
        exact ⟨rfl, by first | exact below_alloc (Below.refl _ _) _ | exact below_drew (below_alloc (Below.refl _ _) _)⟩
end Go.Proofs.YtcjidibdidijaaaDoor
