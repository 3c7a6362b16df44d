/- Parts of this proof in one text: CREn, EncR, Blk, RDec0. -/
import Derived.Test.YtcjidibdidijaaaDoorQV2
import Derived.Test.YtcjidibdidijaaaDoorQV19
import Derived.Test.YtcjidibdidijaaaDoorQV6
import Derived.Test.YtcjidibdidijaaaDoorQV8
import Derived.Test.YtcjidibdidijaaaDoorQV5
import Derived.Test.YtcjidibdidijaaaDoorQV10
import Derived.Outline
import Derived.StillTailTactics
import Derived.Lib.Hide
namespace Go.Proofs.YtcjidibdidijaaaDoor.PCod
open Go.RowKit Go.Proofs.YtcjidibdidijaaaDoorW.PrintWords Go.Proofs.YtcjidibdidijaaaDoorW.PrintLast Go.Proofs.YtcjidibdidijaaaDoorW.PrintMore
attribute [local go_sem] max2_int min2_int max_two min_two max_three min_three max_four min_four
set_option linter.unusedVariables false
set_option linter.unusedSimpArgs false
def fullingref29_Valid.f (a0_0 : Int) (a0_1 : Int) (a0_2 : Int) (a0_3 : Int) (a0_4 : Int) : Option (Bool) := some (valB a0_0 a0_1 a0_2 a0_3 a0_4)
theorem fullingref29_Valid.calls (a0_0 : Int) (a0_1 : Int) (a0_2 : Int) (a0_3 : Int) (a0_4 : Int) (r : Bool) (w : World) (h : fullingref29_Valid.f a0_0 a0_1 a0_2 a0_3 a0_4 = some r) :
    Calls Tryd.prog 38 #[.agg #[.int .i64 a0_0, .int .i64 a0_1, .int .i64 a0_2, .int .i64 a0_3, .int .i64 a0_4]] w fun e w' => e = .returned (.bool r) ∧ Below w.heap.size w w' :=
  rvalid_calls a0_0 a0_1 a0_2 a0_3 a0_4 r w h
def fullingref29_field.f (a0 : Int) : Option (Int × Int) := if a0 = 8 then (some (6, 26)) else (if a0 = 5 then (some (9, 23)) else (if a0 = 7 then (some (12, 20)) else (some (0, 0))))
set_option maxHeartbeats 8000000 in
set_option maxRecDepth 100000 in
theorem fullingref29_field.calls (a0 : Int) (r1 : Int) (r2 : Int) (w : World) (h : fullingref29_field.f a0 = some (r1, r2)) :
    Calls Tryd.prog 68 #[.int .i64 a0] w fun e w' => e = .returned (.tuple #[.int .u64 r1, .int .u64 r2]) ∧ Drawn0 w w' := by
  have H : (if a0 = 8 then (some (6, 26)) else (if a0 = 5 then (some (9, 23)) else (if a0 = 7 then (some (12, 20)) else (some (0, 0))))) = some (r1, r2) := h
  clear h
  by_cases c2 : a0 = 8
  · rw [if_pos c2] at H
    have c2b0 : (a0 == 8) = true := beq_iff_eq.mpr c2
    have c2b1 : (a0 != 8) = false := bne_eq_false_iff_eq.mpr c2
    clear c2
    simp only [Option.some.injEq, Prod.mk.injEq] at H
    obtain ⟨rfl, rfl⟩ := H
    go_enter Tryd.func68, Tryd.ntmps68
    go_wp2
    go_ret2
    exact ⟨by first | rfl | (simp; done) | (simp [*]; done), by repeat (first | exact Drawn0.refl _ | apply Drawn0.step)⟩
  · rw [if_neg c2] at H
    have c2b0 : (a0 == 8) = false := beq_eq_false_iff_ne.mpr c2
    have c2b1 : (a0 != 8) = true := bne_iff_ne.mpr c2
    by_cases c3 : a0 = 5
    · rw [if_pos c3] at H
      have c3b0 : (a0 == 5) = true := beq_iff_eq.mpr c3
      have c3b1 : (a0 != 5) = false := bne_eq_false_iff_eq.mpr c3
      clear c3
      simp only [Option.some.injEq, Prod.mk.injEq] at H
      obtain ⟨rfl, rfl⟩ := H
      go_enter Tryd.func68, Tryd.ntmps68
      go_wp2
      go_ret2
      exact ⟨by first | rfl | (simp; done) | (simp [*]; done), by repeat (first | exact Drawn0.refl _ | apply Drawn0.step)⟩
    · rw [if_neg c3] at H
      have c3b0 : (a0 == 5) = false := beq_eq_false_iff_ne.mpr c3
      have c3b1 : (a0 != 5) = true := bne_iff_ne.mpr c3
      by_cases c4 : a0 = 7
      · rw [if_pos c4] at H
        have c4b0 : (a0 == 7) = true := beq_iff_eq.mpr c4
        have c4b1 : (a0 != 7) = false := bne_eq_false_iff_eq.mpr c4
        clear c4
        simp only [Option.some.injEq, Prod.mk.injEq] at H
        obtain ⟨rfl, rfl⟩ := H
        go_enter Tryd.func68, Tryd.ntmps68
        go_wp2
        go_ret2
        exact ⟨by first | rfl | (simp; done) | (simp [*]; done), by repeat (first | exact Drawn0.refl _ | apply Drawn0.step)⟩
      · rw [if_neg c4] at H
        have c4b0 : (a0 == 7) = false := beq_eq_false_iff_ne.mpr c4
        have c4b1 : (a0 != 7) = true := bne_iff_ne.mpr c4
        simp only [Option.some.injEq, Prod.mk.injEq] at H
        obtain ⟨rfl, rfl⟩ := H
        go_enter Tryd.func68, Tryd.ntmps68
        go_wp2
        go_ret2
        exact ⟨by first | rfl | (simp; done) | (simp [*]; done), by repeat (first | exact Drawn0.refl _ | apply Drawn0.step)⟩
def fullingref29_Encode.l0 : Nat → List (S42) → List Int → Int → Option (List Int × Int)
  | 0, _, _, _ => none
  | k + 1, x0, x4, x5 => if x5 < (x0.length : Int) then (if 0 ≤ x5 then ((fullingref29_Valid.f ((rd_T42 x0 x5).f0) ((rd_T42 x0 x5).f1) ((rd_T42 x0 x5).f2) ((rd_T42 x0 x5).f3) ((rd_T42 x0 x5).f4)).bind fun t183 => (if t183 = true then ((fullingref29_form.f ((rd_T42 x0 x5).f0)).bind fun t184 => ((fullingref29_field.f t184).bind fun bt185 => (if bt185.2 > 0 then (if 0 ≤ bt185.2 then (if 0 ≤ bt185.1 then (if x4.length < 35184372088832 then ((some (x4 ++ [Go.bits .or .u32 (Go.bits .or .u32 (Go.bits .or .u32 (Go.bits .or .u32 (((rd_T42 x0 x5).f0) % 4294967296) (((((rd_T42 x0 x5).f1) % 4294967296) * 64) % 4294967296)) (((((rd_T42 x0 x5).f2) % 4294967296) * 512) % 4294967296)) (((((rd_T42 x0 x5).f3) % 4294967296) * 4096) % 4294967296)) (shl .u32 ((Go.bits .and .u64 (IntKind.u64.wrap ((rd_T42 x0 x5).f4)) (IntKind.u64.wrap ((shl .u64 1 bt185.2) - 1))) % 4294967296) bt185.1)] : List Int)).bind fun y187 => (if ((rd_T42 x0 x5).f0) = 14 then ((some (([(IntKind.u64.wrap ((rd_T42 x0 x5).f4)) % 4294967296, ((IntKind.u64.wrap ((rd_T42 x0 x5).f4)) / 4294967296) % 4294967296] : List Int) : List Int)).bind fun y190 => (if y187.length + y190.length < 35184372088832 then (fullingref29_Encode.l0 k x0 (y187 ++ y190) (wrap64 (x5 + 1))) else (none))) else (fullingref29_Encode.l0 k x0 y187 (wrap64 (x5 + 1))))) else (none)) else (none)) else (none)) else (if x4.length < 35184372088832 then ((some (x4 ++ [Go.bits .or .u32 (Go.bits .or .u32 (Go.bits .or .u32 (((rd_T42 x0 x5).f0) % 4294967296) (((((rd_T42 x0 x5).f1) % 4294967296) * 64) % 4294967296)) (((((rd_T42 x0 x5).f2) % 4294967296) * 512) % 4294967296)) (((((rd_T42 x0 x5).f3) % 4294967296) * 4096) % 4294967296)] : List Int)).bind fun y196 => (if ((rd_T42 x0 x5).f0) = 14 then ((some (([(IntKind.u64.wrap ((rd_T42 x0 x5).f4)) % 4294967296, ((IntKind.u64.wrap ((rd_T42 x0 x5).f4)) / 4294967296) % 4294967296] : List Int) : List Int)).bind fun y199 => (if y196.length + y199.length < 35184372088832 then (fullingref29_Encode.l0 k x0 (y196 ++ y199) (wrap64 (x5 + 1))) else (none))) else (fullingref29_Encode.l0 k x0 y196 (wrap64 (x5 + 1))))) else (none))))) else (some (([] : List Int), 204)))) else (none)) else (some (x4, 0))
def fullingref29_Encode.f (k : Nat) (l0 : List (S42)) : Option (List Int × Int) := fullingref29_Encode.l0 k l0 ([] : List Int) 0
theorem fullingref29_Encode.mono_l : ∀ k, (∀ y0 y1 y2, LeO (fullingref29_Encode.l0 k y0 y1 y2) (fullingref29_Encode.l0 (k + 1) y0 y1 y2))
  | 0 => fun _ _ _ r h => by simp [fullingref29_Encode.l0] at h
  | k + 1 => by
    have ih0 := fullingref29_Encode.mono_l k
    · intro y0 y1 y2
      unfold fullingref29_Encode.l0
      repeat' first
      | (with_reducible exact ih0 _ _ _)
      | (with_reducible exact LeO.refl _)
      | (with_reducible exact LeO.none _)
      | (with_reducible refine LeO.ite ?_ ?_)
      | (with_reducible refine LeO.bind ?_ (fun _ => ?_))
      | exact ih0 _ _ _
      | exact LeO.none _
      | refine LeO.ite ?_ ?_
      | refine LeO.bind ?_ (fun _ => ?_)
theorem fullingref29_Encode.mono : ∀ a0 k, LeO (fullingref29_Encode.f k a0) (fullingref29_Encode.f (k + 1) a0) := by
  intro a0 k
  have ih0 := fullingref29_Encode.mono_l k
  unfold fullingref29_Encode.f
  repeat' first
      | (with_reducible exact ih0 _ _ _)
      | (with_reducible exact LeO.refl _)
      | (with_reducible exact LeO.none _)
      | (with_reducible refine LeO.ite ?_ ?_)
      | (with_reducible refine LeO.bind ?_ (fun _ => ?_))
      | exact ih0 _ _ _
      | exact LeO.none _
      | refine LeO.ite ?_ ?_
      | refine LeO.bind ?_ (fun _ => ?_)
set_option maxHeartbeats 8000000 in
set_option maxRecDepth 100000 in
theorem fullingref29_Encode.calls (k : Nat) (A0 : Option Addr) (c0 : Nat) (l0 : List (S42)) (r1 : List Int) (r2 : Int) (w : World) (hr0 : Kd.C k42 w A0 l0.length l0) (hc0 : l0.length ≤ c0) (h : fullingref29_Encode.f k l0 = some (r1, r2)) :
    Calls Tryd.prog 37 #[.slice A0 l0.length c0] w fun e w' => ∃ v0_ : Value, e = .returned (.tuple #[v0_, .int .i64 r2]) ∧ Kd.R (Kd.int .u32) 53 w' w.heap.size (fun _ => True) v0_ r1 ∧ Below w.heap.size w w' := by
  have hu42 := Tryd.underlying42
  have HR0 := Aside0.mk hr0
  have HC0 := Aside0.mk hc0
  clear hr0 hc0
  have HB := Aside0.mk (Below.refl w.heap.size w)
  have H : (fullingref29_Encode.l0 k l0 ([] : List Int) 0) = some (r1, r2) := h
  clear h
  have H' := Aside0.mk H
  clear H
  go_enter Tryd.func37, Tryd.ntmps37
  go_wp2
  go_loopg [4, 5] k (fun kq v4 v5 w' => ∃ (x4_1 : List Int) (x5_1 : Int), v5 = .int .i64 x5_1 ∧ Aside0 (fullingref29_Encode.l0 kq l0 x4_1 x5_1 = some (r1, r2)) ∧ Aside0 (kq ≤ k) ∧ Aside0 (Kd.R (Kd.int .u32) 53 w' w.heap.size (fun _ => True) v4 x4_1) ∧ Aside0 (Below w.heap.size w w'))
  case atStart => exact ⟨(([] : List Int)), (0), (by first | rfl | (simp; done) | (simp [*]; done)), H', ⟨Nat.le_refl _⟩, ⟨by first | exact Kd.R_nil _ _ _ _ _ | exact Kd.N_nil _ _ _ _ _ | exact Kd.V_nil _ _ _ _ _ | exact Kd.Q_nil _ _ _ _ _ | exact Kd.S_nil _ _ _ _ _⟩, ⟨by repeat (first | (with_reducible first | exact HB.out | apply below_alloc | apply pw_below_drewN | apply below_drew1) | exact HB.out)⟩⟩
  case round =>
    clear H'
    obtain ⟨x4_1, x5_1, rfl, HA, HK1, HO_4, HB⟩ := hrel
    cases gk with
    | zero => exact absurd HA.out (by simp [fullingref29_Encode.l0])
    | succ k1 =>
      have H := HA.out
      clear HA
      simp only [fullingref29_Encode.l0] at H
      by_cases c2 : x5_1 < (l0.length : Int)
      · rw [if_pos c2] at H
        have c2b0 : decide (x5_1 < (l0.length : Int)) = true := decide_eq_true c2
        clear c2
        by_cases c3 : 0 ≤ x5_1
        · rw [if_pos c3] at H
          have c3b0 : decide (0 ≤ x5_1) = true := decide_eq_true c3
          clear c3
          replace H := Option.bind_eq_some_iff.mp H
          obtain ⟨t183, A40, H⟩ := H
          replace H : (if t183 = true then ((fullingref29_form.f ((rd_T42 l0 x5_1).f0)).bind fun t184 => ((fullingref29_field.f t184).bind fun bt185 => (if bt185.2 > 0 then (if 0 ≤ bt185.2 then (if 0 ≤ bt185.1 then (if x4_1.length < 35184372088832 then ((some (x4_1 ++ [Go.bits .or .u32 (Go.bits .or .u32 (Go.bits .or .u32 (Go.bits .or .u32 (((rd_T42 l0 x5_1).f0) % 4294967296) (((((rd_T42 l0 x5_1).f1) % 4294967296) * 64) % 4294967296)) (((((rd_T42 l0 x5_1).f2) % 4294967296) * 512) % 4294967296)) (((((rd_T42 l0 x5_1).f3) % 4294967296) * 4096) % 4294967296)) (shl .u32 ((Go.bits .and .u64 (IntKind.u64.wrap ((rd_T42 l0 x5_1).f4)) (IntKind.u64.wrap ((shl .u64 1 bt185.2) - 1))) % 4294967296) bt185.1)] : List Int)).bind fun y187 => (if ((rd_T42 l0 x5_1).f0) = 14 then ((some (([(IntKind.u64.wrap ((rd_T42 l0 x5_1).f4)) % 4294967296, ((IntKind.u64.wrap ((rd_T42 l0 x5_1).f4)) / 4294967296) % 4294967296] : List Int) : List Int)).bind fun y190 => (if y187.length + y190.length < 35184372088832 then (fullingref29_Encode.l0 k1 l0 (y187 ++ y190) (wrap64 (x5_1 + 1))) else (none))) else (fullingref29_Encode.l0 k1 l0 y187 (wrap64 (x5_1 + 1))))) else (none)) else (none)) else (none)) else (if x4_1.length < 35184372088832 then ((some (x4_1 ++ [Go.bits .or .u32 (Go.bits .or .u32 (Go.bits .or .u32 (((rd_T42 l0 x5_1).f0) % 4294967296) (((((rd_T42 l0 x5_1).f1) % 4294967296) * 64) % 4294967296)) (((((rd_T42 l0 x5_1).f2) % 4294967296) * 512) % 4294967296)) (((((rd_T42 l0 x5_1).f3) % 4294967296) * 4096) % 4294967296)] : List Int)).bind fun y196 => (if ((rd_T42 l0 x5_1).f0) = 14 then ((some (([(IntKind.u64.wrap ((rd_T42 l0 x5_1).f4)) % 4294967296, ((IntKind.u64.wrap ((rd_T42 l0 x5_1).f4)) / 4294967296) % 4294967296] : List Int) : List Int)).bind fun y199 => (if y196.length + y199.length < 35184372088832 then (fullingref29_Encode.l0 k1 l0 (y196 ++ y199) (wrap64 (x5_1 + 1))) else (none))) else (fullingref29_Encode.l0 k1 l0 y196 (wrap64 (x5_1 + 1))))) else (none))))) else (some (([] : List Int), 204))) = some (r1, r2) := H
          have A4 := Aside0.mk A40
          clear A40
          by_cases c5 : t183 = true
          · subst c5
            have H1 : ((fullingref29_form.f ((rd_T42 l0 x5_1).f0)).bind fun t184 => ((fullingref29_field.f t184).bind fun bt185 => (if bt185.2 > 0 then (if 0 ≤ bt185.2 then (if 0 ≤ bt185.1 then (if x4_1.length < 35184372088832 then ((some (x4_1 ++ [Go.bits .or .u32 (Go.bits .or .u32 (Go.bits .or .u32 (Go.bits .or .u32 (((rd_T42 l0 x5_1).f0) % 4294967296) (((((rd_T42 l0 x5_1).f1) % 4294967296) * 64) % 4294967296)) (((((rd_T42 l0 x5_1).f2) % 4294967296) * 512) % 4294967296)) (((((rd_T42 l0 x5_1).f3) % 4294967296) * 4096) % 4294967296)) (shl .u32 ((Go.bits .and .u64 (IntKind.u64.wrap ((rd_T42 l0 x5_1).f4)) (IntKind.u64.wrap ((shl .u64 1 bt185.2) - 1))) % 4294967296) bt185.1)] : List Int)).bind fun y187 => (if ((rd_T42 l0 x5_1).f0) = 14 then ((some (([(IntKind.u64.wrap ((rd_T42 l0 x5_1).f4)) % 4294967296, ((IntKind.u64.wrap ((rd_T42 l0 x5_1).f4)) / 4294967296) % 4294967296] : List Int) : List Int)).bind fun y190 => (if y187.length + y190.length < 35184372088832 then (fullingref29_Encode.l0 k1 l0 (y187 ++ y190) (wrap64 (x5_1 + 1))) else (none))) else (fullingref29_Encode.l0 k1 l0 y187 (wrap64 (x5_1 + 1))))) else (none)) else (none)) else (none)) else (if x4_1.length < 35184372088832 then ((some (x4_1 ++ [Go.bits .or .u32 (Go.bits .or .u32 (Go.bits .or .u32 (((rd_T42 l0 x5_1).f0) % 4294967296) (((((rd_T42 l0 x5_1).f1) % 4294967296) * 64) % 4294967296)) (((((rd_T42 l0 x5_1).f2) % 4294967296) * 512) % 4294967296)) (((((rd_T42 l0 x5_1).f3) % 4294967296) * 4096) % 4294967296)] : List Int)).bind fun y196 => (if ((rd_T42 l0 x5_1).f0) = 14 then ((some (([(IntKind.u64.wrap ((rd_T42 l0 x5_1).f4)) % 4294967296, ((IntKind.u64.wrap ((rd_T42 l0 x5_1).f4)) / 4294967296) % 4294967296] : List Int) : List Int)).bind fun y199 => (if y196.length + y199.length < 35184372088832 then (fullingref29_Encode.l0 k1 l0 (y196 ++ y199) (wrap64 (x5_1 + 1))) else (none))) else (fullingref29_Encode.l0 k1 l0 y196 (wrap64 (x5_1 + 1))))) else (none))))) = some (r1, r2) := by rw [if_pos rfl] at H; exact H
            clear H
            have H := H1
            clear H1
            replace H := Option.bind_eq_some_iff.mp H
            obtain ⟨t184, A60, H⟩ := H
            replace H : ((fullingref29_field.f t184).bind fun bt185 => (if bt185.2 > 0 then (if 0 ≤ bt185.2 then (if 0 ≤ bt185.1 then (if x4_1.length < 35184372088832 then ((some (x4_1 ++ [Go.bits .or .u32 (Go.bits .or .u32 (Go.bits .or .u32 (Go.bits .or .u32 (((rd_T42 l0 x5_1).f0) % 4294967296) (((((rd_T42 l0 x5_1).f1) % 4294967296) * 64) % 4294967296)) (((((rd_T42 l0 x5_1).f2) % 4294967296) * 512) % 4294967296)) (((((rd_T42 l0 x5_1).f3) % 4294967296) * 4096) % 4294967296)) (shl .u32 ((Go.bits .and .u64 (IntKind.u64.wrap ((rd_T42 l0 x5_1).f4)) (IntKind.u64.wrap ((shl .u64 1 bt185.2) - 1))) % 4294967296) bt185.1)] : List Int)).bind fun y187 => (if ((rd_T42 l0 x5_1).f0) = 14 then ((some (([(IntKind.u64.wrap ((rd_T42 l0 x5_1).f4)) % 4294967296, ((IntKind.u64.wrap ((rd_T42 l0 x5_1).f4)) / 4294967296) % 4294967296] : List Int) : List Int)).bind fun y190 => (if y187.length + y190.length < 35184372088832 then (fullingref29_Encode.l0 k1 l0 (y187 ++ y190) (wrap64 (x5_1 + 1))) else (none))) else (fullingref29_Encode.l0 k1 l0 y187 (wrap64 (x5_1 + 1))))) else (none)) else (none)) else (none)) else (if x4_1.length < 35184372088832 then ((some (x4_1 ++ [Go.bits .or .u32 (Go.bits .or .u32 (Go.bits .or .u32 (((rd_T42 l0 x5_1).f0) % 4294967296) (((((rd_T42 l0 x5_1).f1) % 4294967296) * 64) % 4294967296)) (((((rd_T42 l0 x5_1).f2) % 4294967296) * 512) % 4294967296)) (((((rd_T42 l0 x5_1).f3) % 4294967296) * 4096) % 4294967296)] : List Int)).bind fun y196 => (if ((rd_T42 l0 x5_1).f0) = 14 then ((some (([(IntKind.u64.wrap ((rd_T42 l0 x5_1).f4)) % 4294967296, ((IntKind.u64.wrap ((rd_T42 l0 x5_1).f4)) / 4294967296) % 4294967296] : List Int) : List Int)).bind fun y199 => (if y196.length + y199.length < 35184372088832 then (fullingref29_Encode.l0 k1 l0 (y196 ++ y199) (wrap64 (x5_1 + 1))) else (none))) else (fullingref29_Encode.l0 k1 l0 y196 (wrap64 (x5_1 + 1))))) else (none)))) = some (r1, r2) := H
            have A6 := Aside0.mk A60
            clear A60
            replace H := Option.bind_eq_some_iff.mp H
            obtain ⟨⟨t185, t186⟩, A70, H⟩ := H
            replace H : (if t186 > 0 then (if 0 ≤ t186 then (if 0 ≤ t185 then (if x4_1.length < 35184372088832 then ((some (x4_1 ++ [Go.bits .or .u32 (Go.bits .or .u32 (Go.bits .or .u32 (Go.bits .or .u32 (((rd_T42 l0 x5_1).f0) % 4294967296) (((((rd_T42 l0 x5_1).f1) % 4294967296) * 64) % 4294967296)) (((((rd_T42 l0 x5_1).f2) % 4294967296) * 512) % 4294967296)) (((((rd_T42 l0 x5_1).f3) % 4294967296) * 4096) % 4294967296)) (shl .u32 ((Go.bits .and .u64 (IntKind.u64.wrap ((rd_T42 l0 x5_1).f4)) (IntKind.u64.wrap ((shl .u64 1 t186) - 1))) % 4294967296) t185)] : List Int)).bind fun y187 => (if ((rd_T42 l0 x5_1).f0) = 14 then ((some (([(IntKind.u64.wrap ((rd_T42 l0 x5_1).f4)) % 4294967296, ((IntKind.u64.wrap ((rd_T42 l0 x5_1).f4)) / 4294967296) % 4294967296] : List Int) : List Int)).bind fun y190 => (if y187.length + y190.length < 35184372088832 then (fullingref29_Encode.l0 k1 l0 (y187 ++ y190) (wrap64 (x5_1 + 1))) else (none))) else (fullingref29_Encode.l0 k1 l0 y187 (wrap64 (x5_1 + 1))))) else (none)) else (none)) else (none)) else (if x4_1.length < 35184372088832 then ((some (x4_1 ++ [Go.bits .or .u32 (Go.bits .or .u32 (Go.bits .or .u32 (((rd_T42 l0 x5_1).f0) % 4294967296) (((((rd_T42 l0 x5_1).f1) % 4294967296) * 64) % 4294967296)) (((((rd_T42 l0 x5_1).f2) % 4294967296) * 512) % 4294967296)) (((((rd_T42 l0 x5_1).f3) % 4294967296) * 4096) % 4294967296)] : List Int)).bind fun y196 => (if ((rd_T42 l0 x5_1).f0) = 14 then ((some (([(IntKind.u64.wrap ((rd_T42 l0 x5_1).f4)) % 4294967296, ((IntKind.u64.wrap ((rd_T42 l0 x5_1).f4)) / 4294967296) % 4294967296] : List Int) : List Int)).bind fun y199 => (if y196.length + y199.length < 35184372088832 then (fullingref29_Encode.l0 k1 l0 (y196 ++ y199) (wrap64 (x5_1 + 1))) else (none))) else (fullingref29_Encode.l0 k1 l0 y196 (wrap64 (x5_1 + 1))))) else (none))) = some (r1, r2) := H
            have A7 := Aside0.mk A70
            clear A70
            by_cases c8 : t186 > 0
            · rw [if_pos c8] at H
              have c8b0 : decide (0 < t186) = true := decide_eq_true c8
              clear c8
              by_cases c9 : 0 ≤ t186
              · rw [if_pos c9] at H
                have c9b0 := eq_true c9
                have c9b1 : decide (0 ≤ t186) = true := decide_eq_true c9
                clear c9
                obtain ⟨ji10, hji10⟩ : ∃ j_ : Int, (shl .u64 1 t186) = j_ := ⟨_, rfl⟩
                replace H : (if 0 ≤ t185 then (if x4_1.length < 35184372088832 then ((some (x4_1 ++ [Go.bits .or .u32 (Go.bits .or .u32 (Go.bits .or .u32 (Go.bits .or .u32 (((rd_T42 l0 x5_1).f0) % 4294967296) (((((rd_T42 l0 x5_1).f1) % 4294967296) * 64) % 4294967296)) (((((rd_T42 l0 x5_1).f2) % 4294967296) * 512) % 4294967296)) (((((rd_T42 l0 x5_1).f3) % 4294967296) * 4096) % 4294967296)) (shl .u32 ((Go.bits .and .u64 (IntKind.u64.wrap ((rd_T42 l0 x5_1).f4)) (IntKind.u64.wrap ((ji10) - 1))) % 4294967296) t185)] : List Int)).bind fun y187 => (if ((rd_T42 l0 x5_1).f0) = 14 then ((some (([(IntKind.u64.wrap ((rd_T42 l0 x5_1).f4)) % 4294967296, ((IntKind.u64.wrap ((rd_T42 l0 x5_1).f4)) / 4294967296) % 4294967296] : List Int) : List Int)).bind fun y190 => (if y187.length + y190.length < 35184372088832 then (fullingref29_Encode.l0 k1 l0 (y187 ++ y190) (wrap64 (x5_1 + 1))) else (none))) else (fullingref29_Encode.l0 k1 l0 y187 (wrap64 (x5_1 + 1))))) else (none)) else (none)) = some (r1, r2) := by first | (rw [hji10] at H; exact H) | (simp only [hji10] at H ⊢; exact H)
                (try rw [hji10] at A4)
                (try rw [hji10] at A6)
                (try rw [hji10] at A7)
                have hji10_ : (IntKind.u64.wrap (1 * 2 ^ min t186.toNat 64)) = ji10 := hji10
                have hji10z : t186 ≤ 64 → (IntKind.u64.wrap (1 * 2 ^ t186.toNat)) = ji10 := shl_small hji10
                have hji10u : (IntKind.u64.wrap (2 ^ min t186.toNat 64)) = ji10 := by have h_ := hji10_; rw [Int.one_mul] at h_; exact h_
                have hji10v : t186 ≤ 64 → (IntKind.u64.wrap (2 ^ t186.toNat)) = ji10 := fun hle_ => by have h_ := hji10z hle_; rw [Int.one_mul] at h_; exact h_
                by_cases c11 : 0 ≤ t185
                · rw [if_pos c11] at H
                  have c11b0 := eq_true c11
                  have c11b1 : decide (0 ≤ t185) = true := decide_eq_true c11
                  clear c11
                  obtain ⟨ji12, hji12⟩ : ∃ j_ : Int, (shl .u32 ((Go.bits .and .u64 (IntKind.u64.wrap ((rd_T42 l0 x5_1).f4)) (IntKind.u64.wrap ((ji10) - 1))) % 4294967296) t185) = j_ := ⟨_, rfl⟩
                  replace H : (if x4_1.length < 35184372088832 then ((some (x4_1 ++ [Go.bits .or .u32 (Go.bits .or .u32 (Go.bits .or .u32 (Go.bits .or .u32 (((rd_T42 l0 x5_1).f0) % 4294967296) (((((rd_T42 l0 x5_1).f1) % 4294967296) * 64) % 4294967296)) (((((rd_T42 l0 x5_1).f2) % 4294967296) * 512) % 4294967296)) (((((rd_T42 l0 x5_1).f3) % 4294967296) * 4096) % 4294967296)) (ji12)] : List Int)).bind fun y187 => (if ((rd_T42 l0 x5_1).f0) = 14 then ((some (([(IntKind.u64.wrap ((rd_T42 l0 x5_1).f4)) % 4294967296, ((IntKind.u64.wrap ((rd_T42 l0 x5_1).f4)) / 4294967296) % 4294967296] : List Int) : List Int)).bind fun y190 => (if y187.length + y190.length < 35184372088832 then (fullingref29_Encode.l0 k1 l0 (y187 ++ y190) (wrap64 (x5_1 + 1))) else (none))) else (fullingref29_Encode.l0 k1 l0 y187 (wrap64 (x5_1 + 1))))) else (none)) = some (r1, r2) := by first | (rw [hji12] at H; exact H) | (simp only [hji12] at H ⊢; exact H)
                  (try rw [hji12] at A4)
                  (try rw [hji12] at A6)
                  (try rw [hji12] at A7)
                  have hji12_ : (IntKind.u32.wrap (((Go.bits .and .u64 (IntKind.u64.wrap ((rd_T42 l0 x5_1).f4)) (IntKind.u64.wrap ((ji10) - 1))) % 4294967296) * 2 ^ min t185.toNat 32)) = ji12 := hji12
                  have hji12z : t185 ≤ 32 → (IntKind.u32.wrap (((Go.bits .and .u64 (IntKind.u64.wrap ((rd_T42 l0 x5_1).f4)) (IntKind.u64.wrap ((ji10) - 1))) % 4294967296) * 2 ^ t185.toNat)) = ji12 := shl_small hji12
                  by_cases c13 : x4_1.length < 35184372088832
                  · rw [if_pos c13] at H
                    have LMc13 := Aside0.mk c13
                    clear c13
                    obtain ⟨y187, hy187⟩ : ∃ y_ : List Int, y_ = (x4_1 ++ [Go.bits .or .u32 (Go.bits .or .u32 (Go.bits .or .u32 (Go.bits .or .u32 (((rd_T42 l0 x5_1).f0) % 4294967296) (((((rd_T42 l0 x5_1).f1) % 4294967296) * 64) % 4294967296)) (((((rd_T42 l0 x5_1).f2) % 4294967296) * 512) % 4294967296)) (((((rd_T42 l0 x5_1).f3) % 4294967296) * 4096) % 4294967296)) (ji12)]) := ⟨_, rfl⟩
                    replace H : (if ((rd_T42 l0 x5_1).f0) = 14 then ((some (([(IntKind.u64.wrap ((rd_T42 l0 x5_1).f4)) % 4294967296, ((IntKind.u64.wrap ((rd_T42 l0 x5_1).f4)) / 4294967296) % 4294967296] : List Int) : List Int)).bind fun y190 => (if y187.length + y190.length < 35184372088832 then (fullingref29_Encode.l0 k1 l0 (y187 ++ y190) (wrap64 (x5_1 + 1))) else (none))) else (fullingref29_Encode.l0 k1 l0 y187 (wrap64 (x5_1 + 1)))) = some (r1, r2) := by first | (rw [hy187]; with_reducible exact H) | (have H2_ := (Option.bind_some _ _).symm.trans H; rw [hy187]; with_reducible exact H2_) | (have H2_ := (Option.bind_some _ _).symm.trans H; with_reducible exact H2_) | with_reducible exact H | (rw [hy187]; exact H) | exact H
                    have Ny187 := Aside0.mk hy187
                    clear hy187
                    by_cases c14 : ((rd_T42 l0 x5_1).f0) = 14
                    · rw [if_pos c14] at H
                      have c14b0 : (((rd_T42 l0 x5_1).f0) == 14) = true := beq_iff_eq.mpr c14
                      have c14b1 : (((rd_T42 l0 x5_1).f0) != 14) = false := bne_eq_false_iff_eq.mpr c14
                      clear c14
                      obtain ⟨y190, hy190⟩ : ∃ y_ : List Int, y_ = (([(IntKind.u64.wrap ((rd_T42 l0 x5_1).f4)) % 4294967296, ((IntKind.u64.wrap ((rd_T42 l0 x5_1).f4)) / 4294967296) % 4294967296] : List Int)) := ⟨_, rfl⟩
                      replace H : (if y187.length + y190.length < 35184372088832 then (fullingref29_Encode.l0 k1 l0 (y187 ++ y190) (wrap64 (x5_1 + 1))) else (none)) = some (r1, r2) := by first | (rw [hy190]; with_reducible exact H) | (have H2_ := (Option.bind_some _ _).symm.trans H; rw [hy190]; with_reducible exact H2_) | (have H2_ := (Option.bind_some _ _).symm.trans H; with_reducible exact H2_) | with_reducible exact H | (rw [hy190]; exact H) | exact H
                      have Ny190 := Aside0.mk hy190
                      clear hy190
                      by_cases c15 : y187.length + y190.length < 35184372088832
                      · rw [if_pos c15] at H
                        have LMc15 := Aside0.mk c15
                        clear c15
                        obtain ⟨y193, hy193⟩ : ∃ y_ : List Int, y_ = (y187 ++ y190) := ⟨_, rfl⟩
                        replace H : (fullingref29_Encode.l0 k1 l0 y193 (wrap64 (x5_1 + 1))) = some (r1, r2) := by first | (rw [hy193]; with_reducible exact H) | (have H2_ := (Option.bind_some _ _).symm.trans H; rw [hy193]; with_reducible exact H2_) | (have H2_ := (Option.bind_some _ _).symm.trans H; with_reducible exact H2_) | with_reducible exact H | (rw [hy193]; exact H) | exact H
                        have Ny193 := Aside0.mk hy193
                        clear hy193
                        have H' := Aside0.mk H
                        clear H
                        have p181 : 0 ≤ (x5_1 : Int) := of_decide_eq_true (by first | (with_reducible assumption) | assumption)
                        have q181 : x5_1 < (l0.length : Int) := of_decide_eq_true (by first | (with_reducible assumption) | assumption)
                        obtain ⟨ad181, e181, hx181_0, hx181_1, hx181_2, hx181_3, hx181_4⟩ := at_T42 HR0.out x5_1 p181 q181
                        cases e181
                        replace hx181_0 := (HB.out.cell (World.block_lt_of_cell? w _ hx181_0)).trans hx181_0
                        replace hx181_1 := (HB.out.cell (World.block_lt_of_cell? w _ hx181_1)).trans hx181_1
                        replace hx181_2 := (HB.out.cell (World.block_lt_of_cell? w _ hx181_2)).trans hx181_2
                        replace hx181_3 := (HB.out.cell (World.block_lt_of_cell? w _ hx181_3)).trans hx181_3
                        replace hx181_4 := (HB.out.cell (World.block_lt_of_cell? w _ hx181_4)).trans hx181_4
                        replace p181 := eq_true p181
                        replace q181 := eq_true q181
                        go_wp2_with (first | ((with_reducible refine gate_dst (N := 6) rfl ?_); refine box_event ?hg (N := 6) ?hd (cs := #[.int .i64 0, .int .i64 0, .int .i64 0, .int .i64 0, .int .i64 0]) (t := 42) ?hr ?_; (case hd => rfl); (case hg => rfl); (case hr => first | (go_simp; done) | (go_simp; rfl)); intro gb182 hg w16 hbox hb; have n0_ := Aside0.mk (Kd.R_below (by (with_reducible repeat (first | apply Kd.R_alloc | apply Kd.R_drewN | apply Kd.R_drew)); exact HO_4.out) hb); have n1_ := Aside0.mk (below_step (by repeat (first | (with_reducible first | exact HB.out | apply below_alloc | apply pw_below_drewN | apply below_drew1) | exact HB.out)) hb); have n2_ := Aside0.mk (hbox); have n3_ := Aside0.mk ((by rw [hg]; exact (below_size (by repeat (first | (with_reducible first | exact HB.out | apply below_alloc | apply pw_below_drewN | apply below_drew1) | exact HB.out))) : w.heap.size ≤ gb182)); have n4_ := Aside0.mk ((by rw [hg]; exact (below_size (by repeat (first | (with_reducible first | exact HB.out | apply below_alloc | apply pw_below_drewN | apply below_drew1) | exact HB.out))) : w.heap.size ≤ gb182)); clear HO_4; clear HB; have HO_4 := n0_; have HB := n1_; have BK182 := n2_; have GW182 := n3_; have GE182 := n4_; clear n0_ n1_ n2_ n3_ n4_; clear hb hbox hg; have hcz17_0 : w16.cell? ⟨gb182, 0, none⟩ = some (.int .i64 0) := (blk_cell BK182.out 0).trans rfl; have hcz17_1 : w16.cell? ⟨gb182, 1, none⟩ = some (.int .i64 0) := (blk_cell BK182.out 1).trans rfl; have hcz17_2 : w16.cell? ⟨gb182, 2, none⟩ = some (.int .i64 0) := (blk_cell BK182.out 2).trans rfl; have hcz17_3 : w16.cell? ⟨gb182, 3, none⟩ = some (.int .i64 0) := (blk_cell BK182.out 3).trans rfl; have hcz17_4 : w16.cell? ⟨gb182, 4, none⟩ = some (.int .i64 0) := (blk_cell BK182.out 4).trans rfl; have hfz17_0 := blk_frozen BK182.out 0; have hfz17_1 := blk_frozen BK182.out 1; have hfz17_2 := blk_frozen BK182.out 2; have hfz17_3 := blk_frozen BK182.out 3; have hfz17_4 := blk_frozen BK182.out 4) | ((with_reducible refine gate_callee (f := 38) rfl ?_); refine goesL_ (some 21) rfl rfl Tryd.func38 (by kernel_rfl) rfl #[.agg #[.int .i64 ((rd_T42 l0 x5_1).f0), .int .i64 ((rd_T42 l0 x5_1).f1), .int .i64 ((rd_T42 l0 x5_1).f2), .int .i64 ((rd_T42 l0 x5_1).f3), .int .i64 ((rd_T42 l0 x5_1).f4)]] rfl (by (try simp only [List.map_toArray, List.map_cons, List.map_nil]); first | done | rfl | (simp only [List.length_drop, List.length_take]; rfl)) ?_; (with_reducible refine (fullingref29_Valid.calls ((rd_T42 l0 x5_1).f0) ((rd_T42 l0 x5_1).f1) ((rd_T42 l0 x5_1).f2) ((rd_T42 l0 x5_1).f3) ((rd_T42 l0 x5_1).f4) true _ A4.out).mono ?_); rintro e w18 ⟨rfl, hb⟩; refine ⟨_, rfl, ?_⟩; have n0_ := Aside0.mk (Kd.R_below (by (with_reducible repeat (first | apply Kd.R_alloc | apply Kd.R_drewN | apply Kd.R_drew)); exact (Kd.R_mono (Kd.R_far (p := ⟨gb182, 4, none⟩) (Kd.R_far (p := ⟨gb182, 3, none⟩) (Kd.R_far (p := ⟨gb182, 2, none⟩) (Kd.R_far (p := ⟨gb182, 1, none⟩) (Kd.R_far (p := ⟨gb182, 0, none⟩) (Kd.R_types HO_4.out BK182.out (by decide)) (fun _ hk => hk.2) (.int .i64 ((rd_T42 l0 x5_1).f0))) (fun _ hk => hk.2) (.int .i64 ((rd_T42 l0 x5_1).f1))) (fun _ hk => hk.2) (.int .i64 ((rd_T42 l0 x5_1).f2))) (fun _ hk => hk.2) (.int .i64 ((rd_T42 l0 x5_1).f3))) (fun _ hk => hk.2) (.int .i64 ((rd_T42 l0 x5_1).f4))) (fun _ h_ => h_.1))) hb); have n1_ := Aside0.mk (blk_below (g := gb182) (o := .cells #[.int .i64 ((rd_T42 l0 x5_1).f0), .int .i64 ((rd_T42 l0 x5_1).f1), .int .i64 ((rd_T42 l0 x5_1).f2), .int .i64 ((rd_T42 l0 x5_1).f3), .int .i64 ((rd_T42 l0 x5_1).f4)] 42 (0, 0)) (by (with_reducible repeat (first | refine blk_drewN ?_ _ | refine blk_drew ?_ | refine blk_alloc ?_ _)); refine blk_put (cs := #[.int .i64 ((rd_T42 l0 x5_1).f0), .int .i64 ((rd_T42 l0 x5_1).f1), .int .i64 ((rd_T42 l0 x5_1).f2), .int .i64 ((rd_T42 l0 x5_1).f3), .int .i64 0]) ?_ 4 _ rfl; (with_reducible repeat (first | refine blk_drewN ?_ _ | refine blk_drew ?_ | refine blk_alloc ?_ _)); refine blk_put (cs := #[.int .i64 ((rd_T42 l0 x5_1).f0), .int .i64 ((rd_T42 l0 x5_1).f1), .int .i64 ((rd_T42 l0 x5_1).f2), .int .i64 0, .int .i64 0]) ?_ 3 _ rfl; (with_reducible repeat (first | refine blk_drewN ?_ _ | refine blk_drew ?_ | refine blk_alloc ?_ _)); refine blk_put (cs := #[.int .i64 ((rd_T42 l0 x5_1).f0), .int .i64 ((rd_T42 l0 x5_1).f1), .int .i64 0, .int .i64 0, .int .i64 0]) ?_ 2 _ rfl; (with_reducible repeat (first | refine blk_drewN ?_ _ | refine blk_drew ?_ | refine blk_alloc ?_ _)); refine blk_put (cs := #[.int .i64 ((rd_T42 l0 x5_1).f0), .int .i64 0, .int .i64 0, .int .i64 0, .int .i64 0]) ?_ 1 _ rfl; (with_reducible repeat (first | refine blk_drewN ?_ _ | refine blk_drew ?_ | refine blk_alloc ?_ _)); refine blk_put (cs := #[.int .i64 0, .int .i64 0, .int .i64 0, .int .i64 0, .int .i64 0]) ?_ 0 _ rfl; (with_reducible repeat (first | refine blk_drewN ?_ _ | refine blk_drew ?_ | refine blk_alloc ?_ _)); exact BK182.out) hb); have n2_ := Aside0.mk (below_step (by repeat (first | (with_reducible first | exact HB.out | apply below_alloc | apply pw_below_drewN | apply below_drew1 | refine below_set ?_ GE182.out) | exact HB.out)) hb); clear HO_4; clear BK182; clear HB; have HO_4 := n0_; have BK182 := n1_; have HB := n2_; clear n0_ n1_ n2_; (try clear hb); (try clear hb2); (try clear hk); (try clear hi); have hcz19_0 : w18.cell? ⟨gb182, 0, none⟩ = some (.int .i64 ((rd_T42 l0 x5_1).f0)) := (blk_cell BK182.out 0).trans rfl; have hcz19_1 : w18.cell? ⟨gb182, 1, none⟩ = some (.int .i64 ((rd_T42 l0 x5_1).f1)) := (blk_cell BK182.out 1).trans rfl; have hcz19_2 : w18.cell? ⟨gb182, 2, none⟩ = some (.int .i64 ((rd_T42 l0 x5_1).f2)) := (blk_cell BK182.out 2).trans rfl; have hcz19_3 : w18.cell? ⟨gb182, 3, none⟩ = some (.int .i64 ((rd_T42 l0 x5_1).f3)) := (blk_cell BK182.out 3).trans rfl; have hcz19_4 : w18.cell? ⟨gb182, 4, none⟩ = some (.int .i64 ((rd_T42 l0 x5_1).f4)) := (blk_cell BK182.out 4).trans rfl; have hfz19_0 := blk_frozen BK182.out 0; have hfz19_1 := blk_frozen BK182.out 1; have hfz19_2 := blk_frozen BK182.out 2; have hfz19_3 := blk_frozen BK182.out 3; have hfz19_4 := blk_frozen BK182.out 4) | ((with_reducible refine gate_callee (f := 67) rfl ?_); refine goesL_ (some 26) rfl rfl Tryd.func67 (by kernel_rfl) rfl #[.int .i64 ((rd_T42 l0 x5_1).f0)] rfl (by (try simp only [List.map_toArray, List.map_cons, List.map_nil]); first | done | rfl | (simp only [List.length_drop, List.length_take]; rfl)) ?_; (with_reducible refine (fullingref29_form.calls ((rd_T42 l0 x5_1).f0) t184 _ A6.out).mono ?_); rintro e w' ⟨rfl, ⟨nd, rfl⟩⟩; refine ⟨_, rfl, ?_⟩) | ((with_reducible refine gate_callee (f := 68) rfl ?_); refine goesL_ (some 27) rfl rfl Tryd.func68 (by kernel_rfl) rfl #[.int .i64 t184] rfl (by (try simp only [List.map_toArray, List.map_cons, List.map_nil]); first | done | rfl | (simp only [List.length_drop, List.length_take]; rfl)) ?_; (with_reducible refine (fullingref29_field.calls t184 t185 t186 _ A7.out).mono ?_); rintro e w' ⟨rfl, ⟨nd, rfl⟩⟩; refine ⟨_, rfl, ?_⟩) | ((with_reducible refine gate_builtin (b := .append) (xs := #[.tmp 62, .tmp 64]) rfl ?_); at_builtin; refine Kd.R_append (Kd.int .u32) (w0 := w) w.heap.size rfl (.tmp 62) (.tmp 64) 23 53 (.int .u32 0) 4 rfl Tryd.underlying23 info53 rfl (by decide) (by omega) u4 x4_1 (Go.bits .or .u32 (Go.bits .or .u32 (Go.bits .or .u32 (Go.bits .or .u32 (((rd_T42 l0 x5_1).f0) % 4294967296) (((((rd_T42 l0 x5_1).f1) % 4294967296) * 64) % 4294967296)) (((((rd_T42 l0 x5_1).f2) % 4294967296) * 512) % 4294967296)) (((((rd_T42 l0 x5_1).f3) % 4294967296) * 4096) % 4294967296)) (ji12)) [.int .u32 (Go.bits .or .u32 (Go.bits .or .u32 (Go.bits .or .u32 (Go.bits .or .u32 (((rd_T42 l0 x5_1).f0) % 4294967296) (((((rd_T42 l0 x5_1).f1) % 4294967296) * 64) % 4294967296)) (((((rd_T42 l0 x5_1).f2) % 4294967296) * 512) % 4294967296)) (((((rd_T42 l0 x5_1).f3) % 4294967296) * 4096) % 4294967296)) (ji12))] (fun _ => True) (fun _ => False) rfl rfl ?aP (fun _ hk => hk.elim) ?aF ?aO ?aB ?aS ?aL ?_; (case aP => exact rfl); (case aB => exact (by repeat (first | (with_reducible first | exact HB.out | apply below_alloc | apply pw_below_drewN | apply below_drew1 | refine below_set ?_ GE182.out) | exact HB.out))); (case aF => exact (fun _ _ => trivial)); (case aO => exact (by (with_reducible repeat (first | apply Kd.R_alloc | apply Kd.R_drewN | apply Kd.R_drew)); exact HO_4.out)); (case aS => exact (below_size (by repeat (first | (with_reducible first | exact HB.out | apply below_alloc | apply pw_below_drewN | apply below_drew1 | refine below_set ?_ GE182.out) | exact HB.out)))); (case aL => have := LMc13.out; omega); intro v188 w20 ho hb hg hat; rw [← Ny187.out] at ho; have n0_ := Aside0.mk (blk_grown (g := gb182) (o := .cells #[.int .i64 ((rd_T42 l0 x5_1).f0), .int .i64 ((rd_T42 l0 x5_1).f1), .int .i64 ((rd_T42 l0 x5_1).f2), .int .i64 ((rd_T42 l0 x5_1).f3), .int .i64 ((rd_T42 l0 x5_1).f4)] 42 (0, 0)) (by (with_reducible repeat (first | refine blk_drewN ?_ _ | refine blk_drew ?_ | refine blk_alloc ?_ _)); exact BK182.out) hg (Kd.R_ne HO_4.out BK182.out (by decide))); have n1_ := Aside0.mk (hb); have n2_ := Aside0.mk (ho); clear BK182; clear HB; clear HO_4; have BK182 := n0_; have HB := n1_; have HO189 := n2_; clear n0_ n1_ n2_; clear ho hb hg hat; have hcz21_0 : w20.cell? ⟨gb182, 0, none⟩ = some (.int .i64 ((rd_T42 l0 x5_1).f0)) := (blk_cell BK182.out 0).trans rfl; have hcz21_1 : w20.cell? ⟨gb182, 1, none⟩ = some (.int .i64 ((rd_T42 l0 x5_1).f1)) := (blk_cell BK182.out 1).trans rfl; have hcz21_2 : w20.cell? ⟨gb182, 2, none⟩ = some (.int .i64 ((rd_T42 l0 x5_1).f2)) := (blk_cell BK182.out 2).trans rfl; have hcz21_3 : w20.cell? ⟨gb182, 3, none⟩ = some (.int .i64 ((rd_T42 l0 x5_1).f3)) := (blk_cell BK182.out 3).trans rfl; have hcz21_4 : w20.cell? ⟨gb182, 4, none⟩ = some (.int .i64 ((rd_T42 l0 x5_1).f4)) := (blk_cell BK182.out 4).trans rfl; have hfz21_0 := blk_frozen BK182.out 0; have hfz21_1 := blk_frozen BK182.out 1; have hfz21_2 := blk_frozen BK182.out 2; have hfz21_3 := blk_frozen BK182.out 3; have hfz21_4 := blk_frozen BK182.out 4) | ((with_reducible refine gate_dst (N := 79) rfl ?_); refine Kd.R_lit (Kd.int .u32) _ 53 ?hg (N := 79) ?hd (xs := ([(IntKind.u64.wrap ((rd_T42 l0 x5_1).f4)) % 4294967296, ((IntKind.u64.wrap ((rd_T42 l0 x5_1).f4)) / 4294967296) % 4294967296] : List Int)) (inner := [.int .u32 ((IntKind.u64.wrap ((rd_T42 l0 x5_1).f4)) % 4294967296), .int .u32 (((IntKind.u64.wrap ((rd_T42 l0 x5_1).f4)) / 4294967296) % 4294967296)]) (ok := fun _ => True) (okp := fun _ => True) ?hr ?hp (fun _ hk => hk) trivial (Below.refl _ _) (Nat.le_refl _) (by simp) ?_; (case hd => rfl); (case hg => rfl); (case hr => first | (go_simp; done) | (go_simp; rfl)); (case hp => exact (Reps.one (show Kd.M (Kd.int .u32) _ _ _ ((IntKind.u64.wrap ((rd_T42 l0 x5_1).f4)) % 4294967296) [.int .u32 ((IntKind.u64.wrap ((rd_T42 l0 x5_1).f4)) % 4294967296)] from rfl) (Reps.one (show Kd.M (Kd.int .u32) _ _ _ (((IntKind.u64.wrap ((rd_T42 l0 x5_1).f4)) / 4294967296) % 4294967296) [.int .u32 (((IntKind.u64.wrap ((rd_T42 l0 x5_1).f4)) / 4294967296) % 4294967296)] from rfl) (Reps.none _ _)))); intro v191 w22 ho23 hb hg_ hnew_; clear hg_ hnew_; (first | rw [← Ny190.out] at ho23 | (simp only [Int.reduceToNat] at ho23; rw [← Ny190.out] at ho23)); have n0_ := Aside0.mk (Kd.R_elder' (by (with_reducible repeat (first | apply Kd.R_alloc | apply Kd.R_drewN | apply Kd.R_drew)); exact HO189.out) (Kd.R_base ho23) hb); have n1_ := Aside0.mk (Kd.R_lower (Kd.R_new' ho23 (Kd.R_lt (by (with_reducible repeat (first | apply Kd.R_alloc | apply Kd.R_drewN | apply Kd.R_drew)); exact HO189.out))) (below_size (by repeat (first | (with_reducible first | exact HB.out | apply below_alloc | apply pw_below_drewN | apply below_drew1 | refine below_set ?_ GE182.out) | exact HB.out)))); have n2_ := Aside0.mk (blk_below (g := gb182) (o := .cells #[.int .i64 ((rd_T42 l0 x5_1).f0), .int .i64 ((rd_T42 l0 x5_1).f1), .int .i64 ((rd_T42 l0 x5_1).f2), .int .i64 ((rd_T42 l0 x5_1).f3), .int .i64 ((rd_T42 l0 x5_1).f4)] 42 (0, 0)) (by (with_reducible repeat (first | refine blk_drewN ?_ _ | refine blk_drew ?_ | refine blk_alloc ?_ _)); exact BK182.out) hb); have n3_ := Aside0.mk (below_step (by repeat (first | (with_reducible first | exact HB.out | apply below_alloc | apply pw_below_drewN | apply below_drew1 | refine below_set ?_ GE182.out) | exact HB.out)) hb); clear HO189; clear BK182; clear HB; have HO189 := n0_; have HO192 := n1_; have BK182 := n2_; have HB := n3_; clear n0_ n1_ n2_ n3_; clear hb ho23; obtain ⟨Ao25, co25, eo25⟩ := Kd.R_slice HO192.out; subst eo25) | ((with_reducible refine gate_builtin (b := .append) (xs := #[(.tmp 69), .tmp 79]) rfl ?_); at_builtin; refine Kd.R_append_rows (Kd.int .u32) (w0 := w) w.heap.size rfl (.tmp 69) (.tmp 79) 23 53 (.int .u32 0) 4 rfl Tryd.underlying23 info53 rfl (by decide) (by omega) v188 y187 y190 _ _ _ (fun k_ => some k_ ≠ (.slice Ao25 y190.length co25 : Value).ownBlock) (fun _ => False) rfl rfl ?aO ?aR (fun _ _ h => h) (fun _ h => h.elim) ?aF ?aB ?aS ?aL ?_; (case aR => repeat (first | exact (Kd.R_reads' HO192.out).2.2 | (with_reducible refine Kd.C_alloc ?_ _) | (with_reducible refine Kd.C_drewN ?_ _) | (with_reducible refine Kd.C_drew ?_))); (case aB => exact (by repeat (first | (with_reducible first | exact HB.out | apply below_alloc | apply pw_below_drewN | apply below_drew1 | refine below_set ?_ GE182.out) | exact HB.out))); (case aF => exact (fun k_ hk => Kd.fresh' (Kd.R_lt (by (with_reducible repeat (first | apply Kd.R_alloc | apply Kd.R_drewN | apply Kd.R_drew)); exact HO192.out)) k_ hk)); (case aO => exact (by (with_reducible repeat (first | apply Kd.R_alloc | apply Kd.R_drewN | apply Kd.R_drew)); exact Kd.R_mono HO189.out (fun _ hk => hk.2))); (case aS => exact (below_size (by repeat (first | (with_reducible first | exact HB.out | apply below_alloc | apply pw_below_drewN | apply below_drew1 | refine below_set ?_ GE182.out) | exact HB.out)))); (case aL => have := LMc15.out; omega); intro v194 w24 ho hb hg hat; rw [← Ny193.out] at ho; have n0_ := Aside0.mk (blk_grown (g := gb182) (o := .cells #[.int .i64 ((rd_T42 l0 x5_1).f0), .int .i64 ((rd_T42 l0 x5_1).f1), .int .i64 ((rd_T42 l0 x5_1).f2), .int .i64 ((rd_T42 l0 x5_1).f3), .int .i64 ((rd_T42 l0 x5_1).f4)] 42 (0, 0)) (by (with_reducible repeat (first | refine blk_drewN ?_ _ | refine blk_drew ?_ | refine blk_alloc ?_ _)); exact BK182.out) hg (Kd.R_ne HO189.out BK182.out (by decide))); have n1_ := Aside0.mk (Kd.R_after (ok := (fun _ => True)) (by (with_reducible repeat (first | apply Kd.R_alloc | apply Kd.R_drewN | apply Kd.R_drew)); exact HO192.out) hg hat); have n2_ := Aside0.mk (hb); have n3_ := Aside0.mk (ho); clear BK182; clear HO192; clear HB; clear HO189; have BK182 := n0_; have HO192 := n1_; have HB := n2_; have HO195 := n3_; clear n0_ n1_ n2_ n3_; clear ho hb hg hat))
                        go_roundg k1
                        case measure => have := HK1.out; omega
                        case rel => exact ⟨(y193), (wrap64 (x5_1 + 1)), (by first | rfl | (simp; done) | (simp [*]; done)), H', ⟨by have := HK1.out; omega⟩, ⟨by (with_reducible repeat (first | apply Kd.R_alloc | apply Kd.R_drewN | apply Kd.R_drew)); exact Kd.R_mono HO195.out (fun _ hk => trivial)⟩, ⟨by repeat (first | (with_reducible first | exact HB.out | apply below_alloc | apply pw_below_drewN | apply below_drew1 | refine below_set ?_ GE182.out) | exact HB.out)⟩⟩
                      · rw [if_neg c15] at H
                        exact absurd H (by simp)
                    · rw [if_neg c14] at H
                      have c14b0 : (((rd_T42 l0 x5_1).f0) == 14) = false := beq_eq_false_iff_ne.mpr c14
                      have c14b1 : (((rd_T42 l0 x5_1).f0) != 14) = true := bne_iff_ne.mpr c14
                      have H' := Aside0.mk H
                      clear H
                      have p181 : 0 ≤ (x5_1 : Int) := of_decide_eq_true (by first | (with_reducible assumption) | assumption)
                      have q181 : x5_1 < (l0.length : Int) := of_decide_eq_true (by first | (with_reducible assumption) | assumption)
                      obtain ⟨ad181, e181, hx181_0, hx181_1, hx181_2, hx181_3, hx181_4⟩ := at_T42 HR0.out x5_1 p181 q181
                      cases e181
                      replace hx181_0 := (HB.out.cell (World.block_lt_of_cell? w _ hx181_0)).trans hx181_0
                      replace hx181_1 := (HB.out.cell (World.block_lt_of_cell? w _ hx181_1)).trans hx181_1
                      replace hx181_2 := (HB.out.cell (World.block_lt_of_cell? w _ hx181_2)).trans hx181_2
                      replace hx181_3 := (HB.out.cell (World.block_lt_of_cell? w _ hx181_3)).trans hx181_3
                      replace hx181_4 := (HB.out.cell (World.block_lt_of_cell? w _ hx181_4)).trans hx181_4
                      replace p181 := eq_true p181
                      replace q181 := eq_true q181
                      go_wp2_with (first | ((with_reducible refine gate_dst (N := 6) rfl ?_); refine box_event ?hg (N := 6) ?hd (cs := #[.int .i64 0, .int .i64 0, .int .i64 0, .int .i64 0, .int .i64 0]) (t := 42) ?hr ?_; (case hd => rfl); (case hg => rfl); (case hr => first | (go_simp; done) | (go_simp; rfl)); intro gb182 hg w26 hbox hb; have n0_ := Aside0.mk (Kd.R_below (by (with_reducible repeat (first | apply Kd.R_alloc | apply Kd.R_drewN | apply Kd.R_drew)); exact HO_4.out) hb); have n1_ := Aside0.mk (below_step (by repeat (first | (with_reducible first | exact HB.out | apply below_alloc | apply pw_below_drewN | apply below_drew1) | exact HB.out)) hb); have n2_ := Aside0.mk (hbox); have n3_ := Aside0.mk ((by rw [hg]; exact (below_size (by repeat (first | (with_reducible first | exact HB.out | apply below_alloc | apply pw_below_drewN | apply below_drew1) | exact HB.out))) : w.heap.size ≤ gb182)); have n4_ := Aside0.mk ((by rw [hg]; exact (below_size (by repeat (first | (with_reducible first | exact HB.out | apply below_alloc | apply pw_below_drewN | apply below_drew1) | exact HB.out))) : w.heap.size ≤ gb182)); clear HO_4; clear HB; have HO_4 := n0_; have HB := n1_; have BK182 := n2_; have GW182 := n3_; have GE182 := n4_; clear n0_ n1_ n2_ n3_ n4_; clear hb hbox hg; have hcz27_0 : w26.cell? ⟨gb182, 0, none⟩ = some (.int .i64 0) := (blk_cell BK182.out 0).trans rfl; have hcz27_1 : w26.cell? ⟨gb182, 1, none⟩ = some (.int .i64 0) := (blk_cell BK182.out 1).trans rfl; have hcz27_2 : w26.cell? ⟨gb182, 2, none⟩ = some (.int .i64 0) := (blk_cell BK182.out 2).trans rfl; have hcz27_3 : w26.cell? ⟨gb182, 3, none⟩ = some (.int .i64 0) := (blk_cell BK182.out 3).trans rfl; have hcz27_4 : w26.cell? ⟨gb182, 4, none⟩ = some (.int .i64 0) := (blk_cell BK182.out 4).trans rfl; have hfz27_0 := blk_frozen BK182.out 0; have hfz27_1 := blk_frozen BK182.out 1; have hfz27_2 := blk_frozen BK182.out 2; have hfz27_3 := blk_frozen BK182.out 3; have hfz27_4 := blk_frozen BK182.out 4) | ((with_reducible refine gate_callee (f := 38) rfl ?_); refine goesL_ (some 21) rfl rfl Tryd.func38 (by kernel_rfl) rfl #[.agg #[.int .i64 ((rd_T42 l0 x5_1).f0), .int .i64 ((rd_T42 l0 x5_1).f1), .int .i64 ((rd_T42 l0 x5_1).f2), .int .i64 ((rd_T42 l0 x5_1).f3), .int .i64 ((rd_T42 l0 x5_1).f4)]] rfl (by (try simp only [List.map_toArray, List.map_cons, List.map_nil]); first | done | rfl | (simp only [List.length_drop, List.length_take]; rfl)) ?_; (with_reducible refine (fullingref29_Valid.calls ((rd_T42 l0 x5_1).f0) ((rd_T42 l0 x5_1).f1) ((rd_T42 l0 x5_1).f2) ((rd_T42 l0 x5_1).f3) ((rd_T42 l0 x5_1).f4) true _ A4.out).mono ?_); rintro e w28 ⟨rfl, hb⟩; refine ⟨_, rfl, ?_⟩; have n0_ := Aside0.mk (Kd.R_below (by (with_reducible repeat (first | apply Kd.R_alloc | apply Kd.R_drewN | apply Kd.R_drew)); exact (Kd.R_mono (Kd.R_far (p := ⟨gb182, 4, none⟩) (Kd.R_far (p := ⟨gb182, 3, none⟩) (Kd.R_far (p := ⟨gb182, 2, none⟩) (Kd.R_far (p := ⟨gb182, 1, none⟩) (Kd.R_far (p := ⟨gb182, 0, none⟩) (Kd.R_types HO_4.out BK182.out (by decide)) (fun _ hk => hk.2) (.int .i64 ((rd_T42 l0 x5_1).f0))) (fun _ hk => hk.2) (.int .i64 ((rd_T42 l0 x5_1).f1))) (fun _ hk => hk.2) (.int .i64 ((rd_T42 l0 x5_1).f2))) (fun _ hk => hk.2) (.int .i64 ((rd_T42 l0 x5_1).f3))) (fun _ hk => hk.2) (.int .i64 ((rd_T42 l0 x5_1).f4))) (fun _ h_ => h_.1))) hb); have n1_ := Aside0.mk (blk_below (g := gb182) (o := .cells #[.int .i64 ((rd_T42 l0 x5_1).f0), .int .i64 ((rd_T42 l0 x5_1).f1), .int .i64 ((rd_T42 l0 x5_1).f2), .int .i64 ((rd_T42 l0 x5_1).f3), .int .i64 ((rd_T42 l0 x5_1).f4)] 42 (0, 0)) (by (with_reducible repeat (first | refine blk_drewN ?_ _ | refine blk_drew ?_ | refine blk_alloc ?_ _)); refine blk_put (cs := #[.int .i64 ((rd_T42 l0 x5_1).f0), .int .i64 ((rd_T42 l0 x5_1).f1), .int .i64 ((rd_T42 l0 x5_1).f2), .int .i64 ((rd_T42 l0 x5_1).f3), .int .i64 0]) ?_ 4 _ rfl; (with_reducible repeat (first | refine blk_drewN ?_ _ | refine blk_drew ?_ | refine blk_alloc ?_ _)); refine blk_put (cs := #[.int .i64 ((rd_T42 l0 x5_1).f0), .int .i64 ((rd_T42 l0 x5_1).f1), .int .i64 ((rd_T42 l0 x5_1).f2), .int .i64 0, .int .i64 0]) ?_ 3 _ rfl; (with_reducible repeat (first | refine blk_drewN ?_ _ | refine blk_drew ?_ | refine blk_alloc ?_ _)); refine blk_put (cs := #[.int .i64 ((rd_T42 l0 x5_1).f0), .int .i64 ((rd_T42 l0 x5_1).f1), .int .i64 0, .int .i64 0, .int .i64 0]) ?_ 2 _ rfl; (with_reducible repeat (first | refine blk_drewN ?_ _ | refine blk_drew ?_ | refine blk_alloc ?_ _)); refine blk_put (cs := #[.int .i64 ((rd_T42 l0 x5_1).f0), .int .i64 0, .int .i64 0, .int .i64 0, .int .i64 0]) ?_ 1 _ rfl; (with_reducible repeat (first | refine blk_drewN ?_ _ | refine blk_drew ?_ | refine blk_alloc ?_ _)); refine blk_put (cs := #[.int .i64 0, .int .i64 0, .int .i64 0, .int .i64 0, .int .i64 0]) ?_ 0 _ rfl; (with_reducible repeat (first | refine blk_drewN ?_ _ | refine blk_drew ?_ | refine blk_alloc ?_ _)); exact BK182.out) hb); have n2_ := Aside0.mk (below_step (by repeat (first | (with_reducible first | exact HB.out | apply below_alloc | apply pw_below_drewN | apply below_drew1 | refine below_set ?_ GE182.out) | exact HB.out)) hb); clear HO_4; clear BK182; clear HB; have HO_4 := n0_; have BK182 := n1_; have HB := n2_; clear n0_ n1_ n2_; (try clear hb); (try clear hb2); (try clear hk); (try clear hi); have hcz29_0 : w28.cell? ⟨gb182, 0, none⟩ = some (.int .i64 ((rd_T42 l0 x5_1).f0)) := (blk_cell BK182.out 0).trans rfl; have hcz29_1 : w28.cell? ⟨gb182, 1, none⟩ = some (.int .i64 ((rd_T42 l0 x5_1).f1)) := (blk_cell BK182.out 1).trans rfl; have hcz29_2 : w28.cell? ⟨gb182, 2, none⟩ = some (.int .i64 ((rd_T42 l0 x5_1).f2)) := (blk_cell BK182.out 2).trans rfl; have hcz29_3 : w28.cell? ⟨gb182, 3, none⟩ = some (.int .i64 ((rd_T42 l0 x5_1).f3)) := (blk_cell BK182.out 3).trans rfl; have hcz29_4 : w28.cell? ⟨gb182, 4, none⟩ = some (.int .i64 ((rd_T42 l0 x5_1).f4)) := (blk_cell BK182.out 4).trans rfl; have hfz29_0 := blk_frozen BK182.out 0; have hfz29_1 := blk_frozen BK182.out 1; have hfz29_2 := blk_frozen BK182.out 2; have hfz29_3 := blk_frozen BK182.out 3; have hfz29_4 := blk_frozen BK182.out 4) | ((with_reducible refine gate_callee (f := 67) rfl ?_); refine goesL_ (some 26) rfl rfl Tryd.func67 (by kernel_rfl) rfl #[.int .i64 ((rd_T42 l0 x5_1).f0)] rfl (by (try simp only [List.map_toArray, List.map_cons, List.map_nil]); first | done | rfl | (simp only [List.length_drop, List.length_take]; rfl)) ?_; (with_reducible refine (fullingref29_form.calls ((rd_T42 l0 x5_1).f0) t184 _ A6.out).mono ?_); rintro e w' ⟨rfl, ⟨nd, rfl⟩⟩; refine ⟨_, rfl, ?_⟩) | ((with_reducible refine gate_callee (f := 68) rfl ?_); refine goesL_ (some 27) rfl rfl Tryd.func68 (by kernel_rfl) rfl #[.int .i64 t184] rfl (by (try simp only [List.map_toArray, List.map_cons, List.map_nil]); first | done | rfl | (simp only [List.length_drop, List.length_take]; rfl)) ?_; (with_reducible refine (fullingref29_field.calls t184 t185 t186 _ A7.out).mono ?_); rintro e w' ⟨rfl, ⟨nd, rfl⟩⟩; refine ⟨_, rfl, ?_⟩) | ((with_reducible refine gate_builtin (b := .append) (xs := #[.tmp 62, .tmp 64]) rfl ?_); at_builtin; refine Kd.R_append (Kd.int .u32) (w0 := w) w.heap.size rfl (.tmp 62) (.tmp 64) 23 53 (.int .u32 0) 4 rfl Tryd.underlying23 info53 rfl (by decide) (by omega) u4 x4_1 (Go.bits .or .u32 (Go.bits .or .u32 (Go.bits .or .u32 (Go.bits .or .u32 (((rd_T42 l0 x5_1).f0) % 4294967296) (((((rd_T42 l0 x5_1).f1) % 4294967296) * 64) % 4294967296)) (((((rd_T42 l0 x5_1).f2) % 4294967296) * 512) % 4294967296)) (((((rd_T42 l0 x5_1).f3) % 4294967296) * 4096) % 4294967296)) (ji12)) [.int .u32 (Go.bits .or .u32 (Go.bits .or .u32 (Go.bits .or .u32 (Go.bits .or .u32 (((rd_T42 l0 x5_1).f0) % 4294967296) (((((rd_T42 l0 x5_1).f1) % 4294967296) * 64) % 4294967296)) (((((rd_T42 l0 x5_1).f2) % 4294967296) * 512) % 4294967296)) (((((rd_T42 l0 x5_1).f3) % 4294967296) * 4096) % 4294967296)) (ji12))] (fun _ => True) (fun _ => False) rfl rfl ?aP (fun _ hk => hk.elim) ?aF ?aO ?aB ?aS ?aL ?_; (case aP => exact rfl); (case aB => exact (by repeat (first | (with_reducible first | exact HB.out | apply below_alloc | apply pw_below_drewN | apply below_drew1 | refine below_set ?_ GE182.out) | exact HB.out))); (case aF => exact (fun _ _ => trivial)); (case aO => exact (by (with_reducible repeat (first | apply Kd.R_alloc | apply Kd.R_drewN | apply Kd.R_drew)); exact HO_4.out)); (case aS => exact (below_size (by repeat (first | (with_reducible first | exact HB.out | apply below_alloc | apply pw_below_drewN | apply below_drew1 | refine below_set ?_ GE182.out) | exact HB.out)))); (case aL => have := LMc13.out; omega); intro v188 w30 ho hb hg hat; rw [← Ny187.out] at ho; have n0_ := Aside0.mk (blk_grown (g := gb182) (o := .cells #[.int .i64 ((rd_T42 l0 x5_1).f0), .int .i64 ((rd_T42 l0 x5_1).f1), .int .i64 ((rd_T42 l0 x5_1).f2), .int .i64 ((rd_T42 l0 x5_1).f3), .int .i64 ((rd_T42 l0 x5_1).f4)] 42 (0, 0)) (by (with_reducible repeat (first | refine blk_drewN ?_ _ | refine blk_drew ?_ | refine blk_alloc ?_ _)); exact BK182.out) hg (Kd.R_ne HO_4.out BK182.out (by decide))); have n1_ := Aside0.mk (hb); have n2_ := Aside0.mk (ho); clear BK182; clear HB; clear HO_4; have BK182 := n0_; have HB := n1_; have HO189 := n2_; clear n0_ n1_ n2_; clear ho hb hg hat; have hcz31_0 : w30.cell? ⟨gb182, 0, none⟩ = some (.int .i64 ((rd_T42 l0 x5_1).f0)) := (blk_cell BK182.out 0).trans rfl; have hcz31_1 : w30.cell? ⟨gb182, 1, none⟩ = some (.int .i64 ((rd_T42 l0 x5_1).f1)) := (blk_cell BK182.out 1).trans rfl; have hcz31_2 : w30.cell? ⟨gb182, 2, none⟩ = some (.int .i64 ((rd_T42 l0 x5_1).f2)) := (blk_cell BK182.out 2).trans rfl; have hcz31_3 : w30.cell? ⟨gb182, 3, none⟩ = some (.int .i64 ((rd_T42 l0 x5_1).f3)) := (blk_cell BK182.out 3).trans rfl; have hcz31_4 : w30.cell? ⟨gb182, 4, none⟩ = some (.int .i64 ((rd_T42 l0 x5_1).f4)) := (blk_cell BK182.out 4).trans rfl; have hfz31_0 := blk_frozen BK182.out 0; have hfz31_1 := blk_frozen BK182.out 1; have hfz31_2 := blk_frozen BK182.out 2; have hfz31_3 := blk_frozen BK182.out 3; have hfz31_4 := blk_frozen BK182.out 4))
                      go_roundg k1
                      case measure => have := HK1.out; omega
                      case rel => exact ⟨(y187), (wrap64 (x5_1 + 1)), (by first | rfl | (simp; done) | (simp [*]; done)), H', ⟨by have := HK1.out; omega⟩, ⟨by (with_reducible repeat (first | apply Kd.R_alloc | apply Kd.R_drewN | apply Kd.R_drew)); exact HO189.out⟩, ⟨by repeat (first | (with_reducible first | exact HB.out | apply below_alloc | apply pw_below_drewN | apply below_drew1 | refine below_set ?_ GE182.out) | exact HB.out)⟩⟩
                  · rw [if_neg c13] at H
                    exact absurd H (by simp)
                · rw [if_neg c11] at H
                  exact absurd H (by simp)
              · rw [if_neg c9] at H
                exact absurd H (by simp)
            · rw [if_neg c8] at H
              have c8b0 : decide (0 < t186) = false := decide_eq_false c8
              clear c8
              by_cases c32 : x4_1.length < 35184372088832
              · rw [if_pos c32] at H
                have LMc32 := Aside0.mk c32
                clear c32
                obtain ⟨y196, hy196⟩ : ∃ y_ : List Int, y_ = (x4_1 ++ [Go.bits .or .u32 (Go.bits .or .u32 (Go.bits .or .u32 (((rd_T42 l0 x5_1).f0) % 4294967296) (((((rd_T42 l0 x5_1).f1) % 4294967296) * 64) % 4294967296)) (((((rd_T42 l0 x5_1).f2) % 4294967296) * 512) % 4294967296)) (((((rd_T42 l0 x5_1).f3) % 4294967296) * 4096) % 4294967296)]) := ⟨_, rfl⟩
                replace H : (if ((rd_T42 l0 x5_1).f0) = 14 then ((some (([(IntKind.u64.wrap ((rd_T42 l0 x5_1).f4)) % 4294967296, ((IntKind.u64.wrap ((rd_T42 l0 x5_1).f4)) / 4294967296) % 4294967296] : List Int) : List Int)).bind fun y199 => (if y196.length + y199.length < 35184372088832 then (fullingref29_Encode.l0 k1 l0 (y196 ++ y199) (wrap64 (x5_1 + 1))) else (none))) else (fullingref29_Encode.l0 k1 l0 y196 (wrap64 (x5_1 + 1)))) = some (r1, r2) := by first | (rw [hy196]; with_reducible exact H) | (have H2_ := (Option.bind_some _ _).symm.trans H; rw [hy196]; with_reducible exact H2_) | (have H2_ := (Option.bind_some _ _).symm.trans H; with_reducible exact H2_) | with_reducible exact H | (rw [hy196]; exact H) | exact H
                have Ny196 := Aside0.mk hy196
                clear hy196
                by_cases c33 : ((rd_T42 l0 x5_1).f0) = 14
                · rw [if_pos c33] at H
                  have c33b0 : (((rd_T42 l0 x5_1).f0) == 14) = true := beq_iff_eq.mpr c33
                  have c33b1 : (((rd_T42 l0 x5_1).f0) != 14) = false := bne_eq_false_iff_eq.mpr c33
                  clear c33
                  obtain ⟨y199, hy199⟩ : ∃ y_ : List Int, y_ = (([(IntKind.u64.wrap ((rd_T42 l0 x5_1).f4)) % 4294967296, ((IntKind.u64.wrap ((rd_T42 l0 x5_1).f4)) / 4294967296) % 4294967296] : List Int)) := ⟨_, rfl⟩
                  replace H : (if y196.length + y199.length < 35184372088832 then (fullingref29_Encode.l0 k1 l0 (y196 ++ y199) (wrap64 (x5_1 + 1))) else (none)) = some (r1, r2) := by first | (rw [hy199]; with_reducible exact H) | (have H2_ := (Option.bind_some _ _).symm.trans H; rw [hy199]; with_reducible exact H2_) | (have H2_ := (Option.bind_some _ _).symm.trans H; with_reducible exact H2_) | with_reducible exact H | (rw [hy199]; exact H) | exact H
                  have Ny199 := Aside0.mk hy199
                  clear hy199
                  by_cases c34 : y196.length + y199.length < 35184372088832
                  · rw [if_pos c34] at H
                    have LMc34 := Aside0.mk c34
                    clear c34
                    obtain ⟨y202, hy202⟩ : ∃ y_ : List Int, y_ = (y196 ++ y199) := ⟨_, rfl⟩
                    replace H : (fullingref29_Encode.l0 k1 l0 y202 (wrap64 (x5_1 + 1))) = some (r1, r2) := by first | (rw [hy202]; with_reducible exact H) | (have H2_ := (Option.bind_some _ _).symm.trans H; rw [hy202]; with_reducible exact H2_) | (have H2_ := (Option.bind_some _ _).symm.trans H; with_reducible exact H2_) | with_reducible exact H | (rw [hy202]; exact H) | exact H
                    have Ny202 := Aside0.mk hy202
                    clear hy202
                    have H' := Aside0.mk H
                    clear H
                    have p181 : 0 ≤ (x5_1 : Int) := of_decide_eq_true (by first | (with_reducible assumption) | assumption)
                    have q181 : x5_1 < (l0.length : Int) := of_decide_eq_true (by first | (with_reducible assumption) | assumption)
                    obtain ⟨ad181, e181, hx181_0, hx181_1, hx181_2, hx181_3, hx181_4⟩ := at_T42 HR0.out x5_1 p181 q181
                    cases e181
                    replace hx181_0 := (HB.out.cell (World.block_lt_of_cell? w _ hx181_0)).trans hx181_0
                    replace hx181_1 := (HB.out.cell (World.block_lt_of_cell? w _ hx181_1)).trans hx181_1
                    replace hx181_2 := (HB.out.cell (World.block_lt_of_cell? w _ hx181_2)).trans hx181_2
                    replace hx181_3 := (HB.out.cell (World.block_lt_of_cell? w _ hx181_3)).trans hx181_3
                    replace hx181_4 := (HB.out.cell (World.block_lt_of_cell? w _ hx181_4)).trans hx181_4
                    replace p181 := eq_true p181
                    replace q181 := eq_true q181
                    go_wp2_with (first | ((with_reducible refine gate_dst (N := 6) rfl ?_); refine box_event ?hg (N := 6) ?hd (cs := #[.int .i64 0, .int .i64 0, .int .i64 0, .int .i64 0, .int .i64 0]) (t := 42) ?hr ?_; (case hd => rfl); (case hg => rfl); (case hr => first | (go_simp; done) | (go_simp; rfl)); intro gb182 hg w35 hbox hb; have n0_ := Aside0.mk (Kd.R_below (by (with_reducible repeat (first | apply Kd.R_alloc | apply Kd.R_drewN | apply Kd.R_drew)); exact HO_4.out) hb); have n1_ := Aside0.mk (below_step (by repeat (first | (with_reducible first | exact HB.out | apply below_alloc | apply pw_below_drewN | apply below_drew1) | exact HB.out)) hb); have n2_ := Aside0.mk (hbox); have n3_ := Aside0.mk ((by rw [hg]; exact (below_size (by repeat (first | (with_reducible first | exact HB.out | apply below_alloc | apply pw_below_drewN | apply below_drew1) | exact HB.out))) : w.heap.size ≤ gb182)); have n4_ := Aside0.mk ((by rw [hg]; exact (below_size (by repeat (first | (with_reducible first | exact HB.out | apply below_alloc | apply pw_below_drewN | apply below_drew1) | exact HB.out))) : w.heap.size ≤ gb182)); clear HO_4; clear HB; have HO_4 := n0_; have HB := n1_; have BK182 := n2_; have GW182 := n3_; have GE182 := n4_; clear n0_ n1_ n2_ n3_ n4_; clear hb hbox hg; have hcz36_0 : w35.cell? ⟨gb182, 0, none⟩ = some (.int .i64 0) := (blk_cell BK182.out 0).trans rfl; have hcz36_1 : w35.cell? ⟨gb182, 1, none⟩ = some (.int .i64 0) := (blk_cell BK182.out 1).trans rfl; have hcz36_2 : w35.cell? ⟨gb182, 2, none⟩ = some (.int .i64 0) := (blk_cell BK182.out 2).trans rfl; have hcz36_3 : w35.cell? ⟨gb182, 3, none⟩ = some (.int .i64 0) := (blk_cell BK182.out 3).trans rfl; have hcz36_4 : w35.cell? ⟨gb182, 4, none⟩ = some (.int .i64 0) := (blk_cell BK182.out 4).trans rfl; have hfz36_0 := blk_frozen BK182.out 0; have hfz36_1 := blk_frozen BK182.out 1; have hfz36_2 := blk_frozen BK182.out 2; have hfz36_3 := blk_frozen BK182.out 3; have hfz36_4 := blk_frozen BK182.out 4) | ((with_reducible refine gate_callee (f := 38) rfl ?_); refine goesL_ (some 21) rfl rfl Tryd.func38 (by kernel_rfl) rfl #[.agg #[.int .i64 ((rd_T42 l0 x5_1).f0), .int .i64 ((rd_T42 l0 x5_1).f1), .int .i64 ((rd_T42 l0 x5_1).f2), .int .i64 ((rd_T42 l0 x5_1).f3), .int .i64 ((rd_T42 l0 x5_1).f4)]] rfl (by (try simp only [List.map_toArray, List.map_cons, List.map_nil]); first | done | rfl | (simp only [List.length_drop, List.length_take]; rfl)) ?_; (with_reducible refine (fullingref29_Valid.calls ((rd_T42 l0 x5_1).f0) ((rd_T42 l0 x5_1).f1) ((rd_T42 l0 x5_1).f2) ((rd_T42 l0 x5_1).f3) ((rd_T42 l0 x5_1).f4) true _ A4.out).mono ?_); rintro e w37 ⟨rfl, hb⟩; refine ⟨_, rfl, ?_⟩; have n0_ := Aside0.mk (Kd.R_below (by (with_reducible repeat (first | apply Kd.R_alloc | apply Kd.R_drewN | apply Kd.R_drew)); exact (Kd.R_mono (Kd.R_far (p := ⟨gb182, 4, none⟩) (Kd.R_far (p := ⟨gb182, 3, none⟩) (Kd.R_far (p := ⟨gb182, 2, none⟩) (Kd.R_far (p := ⟨gb182, 1, none⟩) (Kd.R_far (p := ⟨gb182, 0, none⟩) (Kd.R_types HO_4.out BK182.out (by decide)) (fun _ hk => hk.2) (.int .i64 ((rd_T42 l0 x5_1).f0))) (fun _ hk => hk.2) (.int .i64 ((rd_T42 l0 x5_1).f1))) (fun _ hk => hk.2) (.int .i64 ((rd_T42 l0 x5_1).f2))) (fun _ hk => hk.2) (.int .i64 ((rd_T42 l0 x5_1).f3))) (fun _ hk => hk.2) (.int .i64 ((rd_T42 l0 x5_1).f4))) (fun _ h_ => h_.1))) hb); have n1_ := Aside0.mk (blk_below (g := gb182) (o := .cells #[.int .i64 ((rd_T42 l0 x5_1).f0), .int .i64 ((rd_T42 l0 x5_1).f1), .int .i64 ((rd_T42 l0 x5_1).f2), .int .i64 ((rd_T42 l0 x5_1).f3), .int .i64 ((rd_T42 l0 x5_1).f4)] 42 (0, 0)) (by (with_reducible repeat (first | refine blk_drewN ?_ _ | refine blk_drew ?_ | refine blk_alloc ?_ _)); refine blk_put (cs := #[.int .i64 ((rd_T42 l0 x5_1).f0), .int .i64 ((rd_T42 l0 x5_1).f1), .int .i64 ((rd_T42 l0 x5_1).f2), .int .i64 ((rd_T42 l0 x5_1).f3), .int .i64 0]) ?_ 4 _ rfl; (with_reducible repeat (first | refine blk_drewN ?_ _ | refine blk_drew ?_ | refine blk_alloc ?_ _)); refine blk_put (cs := #[.int .i64 ((rd_T42 l0 x5_1).f0), .int .i64 ((rd_T42 l0 x5_1).f1), .int .i64 ((rd_T42 l0 x5_1).f2), .int .i64 0, .int .i64 0]) ?_ 3 _ rfl; (with_reducible repeat (first | refine blk_drewN ?_ _ | refine blk_drew ?_ | refine blk_alloc ?_ _)); refine blk_put (cs := #[.int .i64 ((rd_T42 l0 x5_1).f0), .int .i64 ((rd_T42 l0 x5_1).f1), .int .i64 0, .int .i64 0, .int .i64 0]) ?_ 2 _ rfl; (with_reducible repeat (first | refine blk_drewN ?_ _ | refine blk_drew ?_ | refine blk_alloc ?_ _)); refine blk_put (cs := #[.int .i64 ((rd_T42 l0 x5_1).f0), .int .i64 0, .int .i64 0, .int .i64 0, .int .i64 0]) ?_ 1 _ rfl; (with_reducible repeat (first | refine blk_drewN ?_ _ | refine blk_drew ?_ | refine blk_alloc ?_ _)); refine blk_put (cs := #[.int .i64 0, .int .i64 0, .int .i64 0, .int .i64 0, .int .i64 0]) ?_ 0 _ rfl; (with_reducible repeat (first | refine blk_drewN ?_ _ | refine blk_drew ?_ | refine blk_alloc ?_ _)); exact BK182.out) hb); have n2_ := Aside0.mk (below_step (by repeat (first | (with_reducible first | exact HB.out | apply below_alloc | apply pw_below_drewN | apply below_drew1 | refine below_set ?_ GE182.out) | exact HB.out)) hb); clear HO_4; clear BK182; clear HB; have HO_4 := n0_; have BK182 := n1_; have HB := n2_; clear n0_ n1_ n2_; (try clear hb); (try clear hb2); (try clear hk); (try clear hi); have hcz38_0 : w37.cell? ⟨gb182, 0, none⟩ = some (.int .i64 ((rd_T42 l0 x5_1).f0)) := (blk_cell BK182.out 0).trans rfl; have hcz38_1 : w37.cell? ⟨gb182, 1, none⟩ = some (.int .i64 ((rd_T42 l0 x5_1).f1)) := (blk_cell BK182.out 1).trans rfl; have hcz38_2 : w37.cell? ⟨gb182, 2, none⟩ = some (.int .i64 ((rd_T42 l0 x5_1).f2)) := (blk_cell BK182.out 2).trans rfl; have hcz38_3 : w37.cell? ⟨gb182, 3, none⟩ = some (.int .i64 ((rd_T42 l0 x5_1).f3)) := (blk_cell BK182.out 3).trans rfl; have hcz38_4 : w37.cell? ⟨gb182, 4, none⟩ = some (.int .i64 ((rd_T42 l0 x5_1).f4)) := (blk_cell BK182.out 4).trans rfl; have hfz38_0 := blk_frozen BK182.out 0; have hfz38_1 := blk_frozen BK182.out 1; have hfz38_2 := blk_frozen BK182.out 2; have hfz38_3 := blk_frozen BK182.out 3; have hfz38_4 := blk_frozen BK182.out 4) | ((with_reducible refine gate_callee (f := 67) rfl ?_); refine goesL_ (some 26) rfl rfl Tryd.func67 (by kernel_rfl) rfl #[.int .i64 ((rd_T42 l0 x5_1).f0)] rfl (by (try simp only [List.map_toArray, List.map_cons, List.map_nil]); first | done | rfl | (simp only [List.length_drop, List.length_take]; rfl)) ?_; (with_reducible refine (fullingref29_form.calls ((rd_T42 l0 x5_1).f0) t184 _ A6.out).mono ?_); rintro e w' ⟨rfl, ⟨nd, rfl⟩⟩; refine ⟨_, rfl, ?_⟩) | ((with_reducible refine gate_callee (f := 68) rfl ?_); refine goesL_ (some 27) rfl rfl Tryd.func68 (by kernel_rfl) rfl #[.int .i64 t184] rfl (by (try simp only [List.map_toArray, List.map_cons, List.map_nil]); first | done | rfl | (simp only [List.length_drop, List.length_take]; rfl)) ?_; (with_reducible refine (fullingref29_field.calls t184 t185 t186 _ A7.out).mono ?_); rintro e w' ⟨rfl, ⟨nd, rfl⟩⟩; refine ⟨_, rfl, ?_⟩) | ((with_reducible refine gate_builtin (b := .append) (xs := #[.tmp 62, .tmp 64]) rfl ?_); at_builtin; refine Kd.R_append (Kd.int .u32) (w0 := w) w.heap.size rfl (.tmp 62) (.tmp 64) 23 53 (.int .u32 0) 4 rfl Tryd.underlying23 info53 rfl (by decide) (by omega) u4 x4_1 (Go.bits .or .u32 (Go.bits .or .u32 (Go.bits .or .u32 (((rd_T42 l0 x5_1).f0) % 4294967296) (((((rd_T42 l0 x5_1).f1) % 4294967296) * 64) % 4294967296)) (((((rd_T42 l0 x5_1).f2) % 4294967296) * 512) % 4294967296)) (((((rd_T42 l0 x5_1).f3) % 4294967296) * 4096) % 4294967296)) [.int .u32 (Go.bits .or .u32 (Go.bits .or .u32 (Go.bits .or .u32 (((rd_T42 l0 x5_1).f0) % 4294967296) (((((rd_T42 l0 x5_1).f1) % 4294967296) * 64) % 4294967296)) (((((rd_T42 l0 x5_1).f2) % 4294967296) * 512) % 4294967296)) (((((rd_T42 l0 x5_1).f3) % 4294967296) * 4096) % 4294967296))] (fun _ => True) (fun _ => False) rfl rfl ?aP (fun _ hk => hk.elim) ?aF ?aO ?aB ?aS ?aL ?_; (case aP => exact rfl); (case aB => exact (by repeat (first | (with_reducible first | exact HB.out | apply below_alloc | apply pw_below_drewN | apply below_drew1 | refine below_set ?_ GE182.out) | exact HB.out))); (case aF => exact (fun _ _ => trivial)); (case aO => exact (by (with_reducible repeat (first | apply Kd.R_alloc | apply Kd.R_drewN | apply Kd.R_drew)); exact HO_4.out)); (case aS => exact (below_size (by repeat (first | (with_reducible first | exact HB.out | apply below_alloc | apply pw_below_drewN | apply below_drew1 | refine below_set ?_ GE182.out) | exact HB.out)))); (case aL => have := LMc32.out; omega); intro v197 w39 ho hb hg hat; rw [← Ny196.out] at ho; have n0_ := Aside0.mk (blk_grown (g := gb182) (o := .cells #[.int .i64 ((rd_T42 l0 x5_1).f0), .int .i64 ((rd_T42 l0 x5_1).f1), .int .i64 ((rd_T42 l0 x5_1).f2), .int .i64 ((rd_T42 l0 x5_1).f3), .int .i64 ((rd_T42 l0 x5_1).f4)] 42 (0, 0)) (by (with_reducible repeat (first | refine blk_drewN ?_ _ | refine blk_drew ?_ | refine blk_alloc ?_ _)); exact BK182.out) hg (Kd.R_ne HO_4.out BK182.out (by decide))); have n1_ := Aside0.mk (hb); have n2_ := Aside0.mk (ho); clear BK182; clear HB; clear HO_4; have BK182 := n0_; have HB := n1_; have HO198 := n2_; clear n0_ n1_ n2_; clear ho hb hg hat; have hcz40_0 : w39.cell? ⟨gb182, 0, none⟩ = some (.int .i64 ((rd_T42 l0 x5_1).f0)) := (blk_cell BK182.out 0).trans rfl; have hcz40_1 : w39.cell? ⟨gb182, 1, none⟩ = some (.int .i64 ((rd_T42 l0 x5_1).f1)) := (blk_cell BK182.out 1).trans rfl; have hcz40_2 : w39.cell? ⟨gb182, 2, none⟩ = some (.int .i64 ((rd_T42 l0 x5_1).f2)) := (blk_cell BK182.out 2).trans rfl; have hcz40_3 : w39.cell? ⟨gb182, 3, none⟩ = some (.int .i64 ((rd_T42 l0 x5_1).f3)) := (blk_cell BK182.out 3).trans rfl; have hcz40_4 : w39.cell? ⟨gb182, 4, none⟩ = some (.int .i64 ((rd_T42 l0 x5_1).f4)) := (blk_cell BK182.out 4).trans rfl; have hfz40_0 := blk_frozen BK182.out 0; have hfz40_1 := blk_frozen BK182.out 1; have hfz40_2 := blk_frozen BK182.out 2; have hfz40_3 := blk_frozen BK182.out 3; have hfz40_4 := blk_frozen BK182.out 4) | ((with_reducible refine gate_dst (N := 79) rfl ?_); refine Kd.R_lit (Kd.int .u32) _ 53 ?hg (N := 79) ?hd (xs := ([(IntKind.u64.wrap ((rd_T42 l0 x5_1).f4)) % 4294967296, ((IntKind.u64.wrap ((rd_T42 l0 x5_1).f4)) / 4294967296) % 4294967296] : List Int)) (inner := [.int .u32 ((IntKind.u64.wrap ((rd_T42 l0 x5_1).f4)) % 4294967296), .int .u32 (((IntKind.u64.wrap ((rd_T42 l0 x5_1).f4)) / 4294967296) % 4294967296)]) (ok := fun _ => True) (okp := fun _ => True) ?hr ?hp (fun _ hk => hk) trivial (Below.refl _ _) (Nat.le_refl _) (by simp) ?_; (case hd => rfl); (case hg => rfl); (case hr => first | (go_simp; done) | (go_simp; rfl)); (case hp => exact (Reps.one (show Kd.M (Kd.int .u32) _ _ _ ((IntKind.u64.wrap ((rd_T42 l0 x5_1).f4)) % 4294967296) [.int .u32 ((IntKind.u64.wrap ((rd_T42 l0 x5_1).f4)) % 4294967296)] from rfl) (Reps.one (show Kd.M (Kd.int .u32) _ _ _ (((IntKind.u64.wrap ((rd_T42 l0 x5_1).f4)) / 4294967296) % 4294967296) [.int .u32 (((IntKind.u64.wrap ((rd_T42 l0 x5_1).f4)) / 4294967296) % 4294967296)] from rfl) (Reps.none _ _)))); intro v200 w41 ho42 hb hg_ hnew_; clear hg_ hnew_; (first | rw [← Ny199.out] at ho42 | (simp only [Int.reduceToNat] at ho42; rw [← Ny199.out] at ho42)); have n0_ := Aside0.mk (Kd.R_elder' (by (with_reducible repeat (first | apply Kd.R_alloc | apply Kd.R_drewN | apply Kd.R_drew)); exact HO198.out) (Kd.R_base ho42) hb); have n1_ := Aside0.mk (Kd.R_lower (Kd.R_new' ho42 (Kd.R_lt (by (with_reducible repeat (first | apply Kd.R_alloc | apply Kd.R_drewN | apply Kd.R_drew)); exact HO198.out))) (below_size (by repeat (first | (with_reducible first | exact HB.out | apply below_alloc | apply pw_below_drewN | apply below_drew1 | refine below_set ?_ GE182.out) | exact HB.out)))); have n2_ := Aside0.mk (blk_below (g := gb182) (o := .cells #[.int .i64 ((rd_T42 l0 x5_1).f0), .int .i64 ((rd_T42 l0 x5_1).f1), .int .i64 ((rd_T42 l0 x5_1).f2), .int .i64 ((rd_T42 l0 x5_1).f3), .int .i64 ((rd_T42 l0 x5_1).f4)] 42 (0, 0)) (by (with_reducible repeat (first | refine blk_drewN ?_ _ | refine blk_drew ?_ | refine blk_alloc ?_ _)); exact BK182.out) hb); have n3_ := Aside0.mk (below_step (by repeat (first | (with_reducible first | exact HB.out | apply below_alloc | apply pw_below_drewN | apply below_drew1 | refine below_set ?_ GE182.out) | exact HB.out)) hb); clear HO198; clear BK182; clear HB; have HO198 := n0_; have HO201 := n1_; have BK182 := n2_; have HB := n3_; clear n0_ n1_ n2_ n3_; clear hb ho42; obtain ⟨Ao44, co44, eo44⟩ := Kd.R_slice HO201.out; subst eo44) | ((with_reducible refine gate_builtin (b := .append) (xs := #[(.tmp 69), .tmp 79]) rfl ?_); at_builtin; refine Kd.R_append_rows (Kd.int .u32) (w0 := w) w.heap.size rfl (.tmp 69) (.tmp 79) 23 53 (.int .u32 0) 4 rfl Tryd.underlying23 info53 rfl (by decide) (by omega) v197 y196 y199 _ _ _ (fun k_ => some k_ ≠ (.slice Ao44 y199.length co44 : Value).ownBlock) (fun _ => False) rfl rfl ?aO ?aR (fun _ _ h => h) (fun _ h => h.elim) ?aF ?aB ?aS ?aL ?_; (case aR => repeat (first | exact (Kd.R_reads' HO201.out).2.2 | (with_reducible refine Kd.C_alloc ?_ _) | (with_reducible refine Kd.C_drewN ?_ _) | (with_reducible refine Kd.C_drew ?_))); (case aB => exact (by repeat (first | (with_reducible first | exact HB.out | apply below_alloc | apply pw_below_drewN | apply below_drew1 | refine below_set ?_ GE182.out) | exact HB.out))); (case aF => exact (fun k_ hk => Kd.fresh' (Kd.R_lt (by (with_reducible repeat (first | apply Kd.R_alloc | apply Kd.R_drewN | apply Kd.R_drew)); exact HO201.out)) k_ hk)); (case aO => exact (by (with_reducible repeat (first | apply Kd.R_alloc | apply Kd.R_drewN | apply Kd.R_drew)); exact Kd.R_mono HO198.out (fun _ hk => hk.2))); (case aS => exact (below_size (by repeat (first | (with_reducible first | exact HB.out | apply below_alloc | apply pw_below_drewN | apply below_drew1 | refine below_set ?_ GE182.out) | exact HB.out)))); (case aL => have := LMc34.out; omega); intro v203 w43 ho hb hg hat; rw [← Ny202.out] at ho; have n0_ := Aside0.mk (blk_grown (g := gb182) (o := .cells #[.int .i64 ((rd_T42 l0 x5_1).f0), .int .i64 ((rd_T42 l0 x5_1).f1), .int .i64 ((rd_T42 l0 x5_1).f2), .int .i64 ((rd_T42 l0 x5_1).f3), .int .i64 ((rd_T42 l0 x5_1).f4)] 42 (0, 0)) (by (with_reducible repeat (first | refine blk_drewN ?_ _ | refine blk_drew ?_ | refine blk_alloc ?_ _)); exact BK182.out) hg (Kd.R_ne HO198.out BK182.out (by decide))); have n1_ := Aside0.mk (Kd.R_after (ok := (fun _ => True)) (by (with_reducible repeat (first | apply Kd.R_alloc | apply Kd.R_drewN | apply Kd.R_drew)); exact HO201.out) hg hat); have n2_ := Aside0.mk (hb); have n3_ := Aside0.mk (ho); clear BK182; clear HO201; clear HB; clear HO198; have BK182 := n0_; have HO201 := n1_; have HB := n2_; have HO204 := n3_; clear n0_ n1_ n2_ n3_; clear ho hb hg hat))
                    go_roundg k1
                    case measure => have := HK1.out; omega
                    case rel => exact ⟨(y202), (wrap64 (x5_1 + 1)), (by first | rfl | (simp; done) | (simp [*]; done)), H', ⟨by have := HK1.out; omega⟩, ⟨by (with_reducible repeat (first | apply Kd.R_alloc | apply Kd.R_drewN | apply Kd.R_drew)); exact Kd.R_mono HO204.out (fun _ hk => trivial)⟩, ⟨by repeat (first | (with_reducible first | exact HB.out | apply below_alloc | apply pw_below_drewN | apply below_drew1 | refine below_set ?_ GE182.out) | exact HB.out)⟩⟩
                  · rw [if_neg c34] at H
                    exact absurd H (by simp)
                · rw [if_neg c33] at H
                  have c33b0 : (((rd_T42 l0 x5_1).f0) == 14) = false := beq_eq_false_iff_ne.mpr c33
                  have c33b1 : (((rd_T42 l0 x5_1).f0) != 14) = true := bne_iff_ne.mpr c33
                  have H' := Aside0.mk H
                  clear H
                  have p181 : 0 ≤ (x5_1 : Int) := of_decide_eq_true (by first | (with_reducible assumption) | assumption)
                  have q181 : x5_1 < (l0.length : Int) := of_decide_eq_true (by first | (with_reducible assumption) | assumption)
                  obtain ⟨ad181, e181, hx181_0, hx181_1, hx181_2, hx181_3, hx181_4⟩ := at_T42 HR0.out x5_1 p181 q181
                  cases e181
                  replace hx181_0 := (HB.out.cell (World.block_lt_of_cell? w _ hx181_0)).trans hx181_0
                  replace hx181_1 := (HB.out.cell (World.block_lt_of_cell? w _ hx181_1)).trans hx181_1
                  replace hx181_2 := (HB.out.cell (World.block_lt_of_cell? w _ hx181_2)).trans hx181_2
                  replace hx181_3 := (HB.out.cell (World.block_lt_of_cell? w _ hx181_3)).trans hx181_3
                  replace hx181_4 := (HB.out.cell (World.block_lt_of_cell? w _ hx181_4)).trans hx181_4
                  replace p181 := eq_true p181
                  replace q181 := eq_true q181
                  go_wp2_with (first | ((with_reducible refine gate_dst (N := 6) rfl ?_); refine box_event ?hg (N := 6) ?hd (cs := #[.int .i64 0, .int .i64 0, .int .i64 0, .int .i64 0, .int .i64 0]) (t := 42) ?hr ?_; (case hd => rfl); (case hg => rfl); (case hr => first | (go_simp; done) | (go_simp; rfl)); intro gb182 hg w45 hbox hb; have n0_ := Aside0.mk (Kd.R_below (by (with_reducible repeat (first | apply Kd.R_alloc | apply Kd.R_drewN | apply Kd.R_drew)); exact HO_4.out) hb); have n1_ := Aside0.mk (below_step (by repeat (first | (with_reducible first | exact HB.out | apply below_alloc | apply pw_below_drewN | apply below_drew1) | exact HB.out)) hb); have n2_ := Aside0.mk (hbox); have n3_ := Aside0.mk ((by rw [hg]; exact (below_size (by repeat (first | (with_reducible first | exact HB.out | apply below_alloc | apply pw_below_drewN | apply below_drew1) | exact HB.out))) : w.heap.size ≤ gb182)); have n4_ := Aside0.mk ((by rw [hg]; exact (below_size (by repeat (first | (with_reducible first | exact HB.out | apply below_alloc | apply pw_below_drewN | apply below_drew1) | exact HB.out))) : w.heap.size ≤ gb182)); clear HO_4; clear HB; have HO_4 := n0_; have HB := n1_; have BK182 := n2_; have GW182 := n3_; have GE182 := n4_; clear n0_ n1_ n2_ n3_ n4_; clear hb hbox hg; have hcz46_0 : w45.cell? ⟨gb182, 0, none⟩ = some (.int .i64 0) := (blk_cell BK182.out 0).trans rfl; have hcz46_1 : w45.cell? ⟨gb182, 1, none⟩ = some (.int .i64 0) := (blk_cell BK182.out 1).trans rfl; have hcz46_2 : w45.cell? ⟨gb182, 2, none⟩ = some (.int .i64 0) := (blk_cell BK182.out 2).trans rfl; have hcz46_3 : w45.cell? ⟨gb182, 3, none⟩ = some (.int .i64 0) := (blk_cell BK182.out 3).trans rfl; have hcz46_4 : w45.cell? ⟨gb182, 4, none⟩ = some (.int .i64 0) := (blk_cell BK182.out 4).trans rfl; have hfz46_0 := blk_frozen BK182.out 0; have hfz46_1 := blk_frozen BK182.out 1; have hfz46_2 := blk_frozen BK182.out 2; have hfz46_3 := blk_frozen BK182.out 3; have hfz46_4 := blk_frozen BK182.out 4) | ((with_reducible refine gate_callee (f := 38) rfl ?_); refine goesL_ (some 21) rfl rfl Tryd.func38 (by kernel_rfl) rfl #[.agg #[.int .i64 ((rd_T42 l0 x5_1).f0), .int .i64 ((rd_T42 l0 x5_1).f1), .int .i64 ((rd_T42 l0 x5_1).f2), .int .i64 ((rd_T42 l0 x5_1).f3), .int .i64 ((rd_T42 l0 x5_1).f4)]] rfl (by (try simp only [List.map_toArray, List.map_cons, List.map_nil]); first | done | rfl | (simp only [List.length_drop, List.length_take]; rfl)) ?_; (with_reducible refine (fullingref29_Valid.calls ((rd_T42 l0 x5_1).f0) ((rd_T42 l0 x5_1).f1) ((rd_T42 l0 x5_1).f2) ((rd_T42 l0 x5_1).f3) ((rd_T42 l0 x5_1).f4) true _ A4.out).mono ?_); rintro e w47 ⟨rfl, hb⟩; refine ⟨_, rfl, ?_⟩; have n0_ := Aside0.mk (Kd.R_below (by (with_reducible repeat (first | apply Kd.R_alloc | apply Kd.R_drewN | apply Kd.R_drew)); exact (Kd.R_mono (Kd.R_far (p := ⟨gb182, 4, none⟩) (Kd.R_far (p := ⟨gb182, 3, none⟩) (Kd.R_far (p := ⟨gb182, 2, none⟩) (Kd.R_far (p := ⟨gb182, 1, none⟩) (Kd.R_far (p := ⟨gb182, 0, none⟩) (Kd.R_types HO_4.out BK182.out (by decide)) (fun _ hk => hk.2) (.int .i64 ((rd_T42 l0 x5_1).f0))) (fun _ hk => hk.2) (.int .i64 ((rd_T42 l0 x5_1).f1))) (fun _ hk => hk.2) (.int .i64 ((rd_T42 l0 x5_1).f2))) (fun _ hk => hk.2) (.int .i64 ((rd_T42 l0 x5_1).f3))) (fun _ hk => hk.2) (.int .i64 ((rd_T42 l0 x5_1).f4))) (fun _ h_ => h_.1))) hb); have n1_ := Aside0.mk (blk_below (g := gb182) (o := .cells #[.int .i64 ((rd_T42 l0 x5_1).f0), .int .i64 ((rd_T42 l0 x5_1).f1), .int .i64 ((rd_T42 l0 x5_1).f2), .int .i64 ((rd_T42 l0 x5_1).f3), .int .i64 ((rd_T42 l0 x5_1).f4)] 42 (0, 0)) (by (with_reducible repeat (first | refine blk_drewN ?_ _ | refine blk_drew ?_ | refine blk_alloc ?_ _)); refine blk_put (cs := #[.int .i64 ((rd_T42 l0 x5_1).f0), .int .i64 ((rd_T42 l0 x5_1).f1), .int .i64 ((rd_T42 l0 x5_1).f2), .int .i64 ((rd_T42 l0 x5_1).f3), .int .i64 0]) ?_ 4 _ rfl; (with_reducible repeat (first | refine blk_drewN ?_ _ | refine blk_drew ?_ | refine blk_alloc ?_ _)); refine blk_put (cs := #[.int .i64 ((rd_T42 l0 x5_1).f0), .int .i64 ((rd_T42 l0 x5_1).f1), .int .i64 ((rd_T42 l0 x5_1).f2), .int .i64 0, .int .i64 0]) ?_ 3 _ rfl; (with_reducible repeat (first | refine blk_drewN ?_ _ | refine blk_drew ?_ | refine blk_alloc ?_ _)); refine blk_put (cs := #[.int .i64 ((rd_T42 l0 x5_1).f0), .int .i64 ((rd_T42 l0 x5_1).f1), .int .i64 0, .int .i64 0, .int .i64 0]) ?_ 2 _ rfl; (with_reducible repeat (first | refine blk_drewN ?_ _ | refine blk_drew ?_ | refine blk_alloc ?_ _)); refine blk_put (cs := #[.int .i64 ((rd_T42 l0 x5_1).f0), .int .i64 0, .int .i64 0, .int .i64 0, .int .i64 0]) ?_ 1 _ rfl; (with_reducible repeat (first | refine blk_drewN ?_ _ | refine blk_drew ?_ | refine blk_alloc ?_ _)); refine blk_put (cs := #[.int .i64 0, .int .i64 0, .int .i64 0, .int .i64 0, .int .i64 0]) ?_ 0 _ rfl; (with_reducible repeat (first | refine blk_drewN ?_ _ | refine blk_drew ?_ | refine blk_alloc ?_ _)); exact BK182.out) hb); have n2_ := Aside0.mk (below_step (by repeat (first | (with_reducible first | exact HB.out | apply below_alloc | apply pw_below_drewN | apply below_drew1 | refine below_set ?_ GE182.out) | exact HB.out)) hb); clear HO_4; clear BK182; clear HB; have HO_4 := n0_; have BK182 := n1_; have HB := n2_; clear n0_ n1_ n2_; (try clear hb); (try clear hb2); (try clear hk); (try clear hi); have hcz48_0 : w47.cell? ⟨gb182, 0, none⟩ = some (.int .i64 ((rd_T42 l0 x5_1).f0)) := (blk_cell BK182.out 0).trans rfl; have hcz48_1 : w47.cell? ⟨gb182, 1, none⟩ = some (.int .i64 ((rd_T42 l0 x5_1).f1)) := (blk_cell BK182.out 1).trans rfl; have hcz48_2 : w47.cell? ⟨gb182, 2, none⟩ = some (.int .i64 ((rd_T42 l0 x5_1).f2)) := (blk_cell BK182.out 2).trans rfl; have hcz48_3 : w47.cell? ⟨gb182, 3, none⟩ = some (.int .i64 ((rd_T42 l0 x5_1).f3)) := (blk_cell BK182.out 3).trans rfl; have hcz48_4 : w47.cell? ⟨gb182, 4, none⟩ = some (.int .i64 ((rd_T42 l0 x5_1).f4)) := (blk_cell BK182.out 4).trans rfl; have hfz48_0 := blk_frozen BK182.out 0; have hfz48_1 := blk_frozen BK182.out 1; have hfz48_2 := blk_frozen BK182.out 2; have hfz48_3 := blk_frozen BK182.out 3; have hfz48_4 := blk_frozen BK182.out 4) | ((with_reducible refine gate_callee (f := 67) rfl ?_); refine goesL_ (some 26) rfl rfl Tryd.func67 (by kernel_rfl) rfl #[.int .i64 ((rd_T42 l0 x5_1).f0)] rfl (by (try simp only [List.map_toArray, List.map_cons, List.map_nil]); first | done | rfl | (simp only [List.length_drop, List.length_take]; rfl)) ?_; (with_reducible refine (fullingref29_form.calls ((rd_T42 l0 x5_1).f0) t184 _ A6.out).mono ?_); rintro e w' ⟨rfl, ⟨nd, rfl⟩⟩; refine ⟨_, rfl, ?_⟩) | ((with_reducible refine gate_callee (f := 68) rfl ?_); refine goesL_ (some 27) rfl rfl Tryd.func68 (by kernel_rfl) rfl #[.int .i64 t184] rfl (by (try simp only [List.map_toArray, List.map_cons, List.map_nil]); first | done | rfl | (simp only [List.length_drop, List.length_take]; rfl)) ?_; (with_reducible refine (fullingref29_field.calls t184 t185 t186 _ A7.out).mono ?_); rintro e w' ⟨rfl, ⟨nd, rfl⟩⟩; refine ⟨_, rfl, ?_⟩) | ((with_reducible refine gate_builtin (b := .append) (xs := #[.tmp 62, .tmp 64]) rfl ?_); at_builtin; refine Kd.R_append (Kd.int .u32) (w0 := w) w.heap.size rfl (.tmp 62) (.tmp 64) 23 53 (.int .u32 0) 4 rfl Tryd.underlying23 info53 rfl (by decide) (by omega) u4 x4_1 (Go.bits .or .u32 (Go.bits .or .u32 (Go.bits .or .u32 (((rd_T42 l0 x5_1).f0) % 4294967296) (((((rd_T42 l0 x5_1).f1) % 4294967296) * 64) % 4294967296)) (((((rd_T42 l0 x5_1).f2) % 4294967296) * 512) % 4294967296)) (((((rd_T42 l0 x5_1).f3) % 4294967296) * 4096) % 4294967296)) [.int .u32 (Go.bits .or .u32 (Go.bits .or .u32 (Go.bits .or .u32 (((rd_T42 l0 x5_1).f0) % 4294967296) (((((rd_T42 l0 x5_1).f1) % 4294967296) * 64) % 4294967296)) (((((rd_T42 l0 x5_1).f2) % 4294967296) * 512) % 4294967296)) (((((rd_T42 l0 x5_1).f3) % 4294967296) * 4096) % 4294967296))] (fun _ => True) (fun _ => False) rfl rfl ?aP (fun _ hk => hk.elim) ?aF ?aO ?aB ?aS ?aL ?_; (case aP => exact rfl); (case aB => exact (by repeat (first | (with_reducible first | exact HB.out | apply below_alloc | apply pw_below_drewN | apply below_drew1 | refine below_set ?_ GE182.out) | exact HB.out))); (case aF => exact (fun _ _ => trivial)); (case aO => exact (by (with_reducible repeat (first | apply Kd.R_alloc | apply Kd.R_drewN | apply Kd.R_drew)); exact HO_4.out)); (case aS => exact (below_size (by repeat (first | (with_reducible first | exact HB.out | apply below_alloc | apply pw_below_drewN | apply below_drew1 | refine below_set ?_ GE182.out) | exact HB.out)))); (case aL => have := LMc32.out; omega); intro v197 w49 ho hb hg hat; rw [← Ny196.out] at ho; have n0_ := Aside0.mk (blk_grown (g := gb182) (o := .cells #[.int .i64 ((rd_T42 l0 x5_1).f0), .int .i64 ((rd_T42 l0 x5_1).f1), .int .i64 ((rd_T42 l0 x5_1).f2), .int .i64 ((rd_T42 l0 x5_1).f3), .int .i64 ((rd_T42 l0 x5_1).f4)] 42 (0, 0)) (by (with_reducible repeat (first | refine blk_drewN ?_ _ | refine blk_drew ?_ | refine blk_alloc ?_ _)); exact BK182.out) hg (Kd.R_ne HO_4.out BK182.out (by decide))); have n1_ := Aside0.mk (hb); have n2_ := Aside0.mk (ho); clear BK182; clear HB; clear HO_4; have BK182 := n0_; have HB := n1_; have HO198 := n2_; clear n0_ n1_ n2_; clear ho hb hg hat; have hcz50_0 : w49.cell? ⟨gb182, 0, none⟩ = some (.int .i64 ((rd_T42 l0 x5_1).f0)) := (blk_cell BK182.out 0).trans rfl; have hcz50_1 : w49.cell? ⟨gb182, 1, none⟩ = some (.int .i64 ((rd_T42 l0 x5_1).f1)) := (blk_cell BK182.out 1).trans rfl; have hcz50_2 : w49.cell? ⟨gb182, 2, none⟩ = some (.int .i64 ((rd_T42 l0 x5_1).f2)) := (blk_cell BK182.out 2).trans rfl; have hcz50_3 : w49.cell? ⟨gb182, 3, none⟩ = some (.int .i64 ((rd_T42 l0 x5_1).f3)) := (blk_cell BK182.out 3).trans rfl; have hcz50_4 : w49.cell? ⟨gb182, 4, none⟩ = some (.int .i64 ((rd_T42 l0 x5_1).f4)) := (blk_cell BK182.out 4).trans rfl; have hfz50_0 := blk_frozen BK182.out 0; have hfz50_1 := blk_frozen BK182.out 1; have hfz50_2 := blk_frozen BK182.out 2; have hfz50_3 := blk_frozen BK182.out 3; have hfz50_4 := blk_frozen BK182.out 4))
                  go_roundg k1
                  case measure => have := HK1.out; omega
                  case rel => exact ⟨(y196), (wrap64 (x5_1 + 1)), (by first | rfl | (simp; done) | (simp [*]; done)), H', ⟨by have := HK1.out; omega⟩, ⟨by (with_reducible repeat (first | apply Kd.R_alloc | apply Kd.R_drewN | apply Kd.R_drew)); exact HO198.out⟩, ⟨by repeat (first | (with_reducible first | exact HB.out | apply below_alloc | apply pw_below_drewN | apply below_drew1 | refine below_set ?_ GE182.out) | exact HB.out)⟩⟩
              · rw [if_neg c32] at H
                exact absurd H (by simp)
          · replace c5 := Bool.eq_false_iff.mpr c5
            subst c5
            have H1 : (some (([] : List Int), 204)) = some (r1, r2) := by rw [if_neg (show ¬ (false = true) by decide)] at H; exact H
            clear H
            have H := H1
            clear H1
            simp only [Option.some.injEq, Prod.mk.injEq] at H
            obtain ⟨rfl, rfl⟩ := H
            have p181 : 0 ≤ (x5_1 : Int) := of_decide_eq_true (by first | (with_reducible assumption) | assumption)
            have q181 : x5_1 < (l0.length : Int) := of_decide_eq_true (by first | (with_reducible assumption) | assumption)
            obtain ⟨ad181, e181, hx181_0, hx181_1, hx181_2, hx181_3, hx181_4⟩ := at_T42 HR0.out x5_1 p181 q181
            cases e181
            replace hx181_0 := (HB.out.cell (World.block_lt_of_cell? w _ hx181_0)).trans hx181_0
            replace hx181_1 := (HB.out.cell (World.block_lt_of_cell? w _ hx181_1)).trans hx181_1
            replace hx181_2 := (HB.out.cell (World.block_lt_of_cell? w _ hx181_2)).trans hx181_2
            replace hx181_3 := (HB.out.cell (World.block_lt_of_cell? w _ hx181_3)).trans hx181_3
            replace hx181_4 := (HB.out.cell (World.block_lt_of_cell? w _ hx181_4)).trans hx181_4
            replace p181 := eq_true p181
            replace q181 := eq_true q181
            go_wp2_with (first | ((with_reducible refine gate_dst (N := 6) rfl ?_); refine box_event ?hg (N := 6) ?hd (cs := #[.int .i64 0, .int .i64 0, .int .i64 0, .int .i64 0, .int .i64 0]) (t := 42) ?hr ?_; (case hd => rfl); (case hg => rfl); (case hr => first | (go_simp; done) | (go_simp; rfl)); intro gb182 hg w51 hbox hb; have n0_ := Aside0.mk (Kd.R_below (by (with_reducible repeat (first | apply Kd.R_alloc | apply Kd.R_drewN | apply Kd.R_drew)); exact HO_4.out) hb); have n1_ := Aside0.mk (below_step (by repeat (first | (with_reducible first | exact HB.out | apply below_alloc | apply pw_below_drewN | apply below_drew1) | exact HB.out)) hb); have n2_ := Aside0.mk (hbox); have n3_ := Aside0.mk ((by rw [hg]; exact (below_size (by repeat (first | (with_reducible first | exact HB.out | apply below_alloc | apply pw_below_drewN | apply below_drew1) | exact HB.out))) : w.heap.size ≤ gb182)); have n4_ := Aside0.mk ((by rw [hg]; exact (below_size (by repeat (first | (with_reducible first | exact HB.out | apply below_alloc | apply pw_below_drewN | apply below_drew1) | exact HB.out))) : w.heap.size ≤ gb182)); clear HO_4; clear HB; have HO_4 := n0_; have HB := n1_; have BK182 := n2_; have GW182 := n3_; have GE182 := n4_; clear n0_ n1_ n2_ n3_ n4_; clear hb hbox hg; have hcz52_0 : w51.cell? ⟨gb182, 0, none⟩ = some (.int .i64 0) := (blk_cell BK182.out 0).trans rfl; have hcz52_1 : w51.cell? ⟨gb182, 1, none⟩ = some (.int .i64 0) := (blk_cell BK182.out 1).trans rfl; have hcz52_2 : w51.cell? ⟨gb182, 2, none⟩ = some (.int .i64 0) := (blk_cell BK182.out 2).trans rfl; have hcz52_3 : w51.cell? ⟨gb182, 3, none⟩ = some (.int .i64 0) := (blk_cell BK182.out 3).trans rfl; have hcz52_4 : w51.cell? ⟨gb182, 4, none⟩ = some (.int .i64 0) := (blk_cell BK182.out 4).trans rfl; have hfz52_0 := blk_frozen BK182.out 0; have hfz52_1 := blk_frozen BK182.out 1; have hfz52_2 := blk_frozen BK182.out 2; have hfz52_3 := blk_frozen BK182.out 3; have hfz52_4 := blk_frozen BK182.out 4) | ((with_reducible refine gate_callee (f := 38) rfl ?_); refine goesL_ (some 21) rfl rfl Tryd.func38 (by kernel_rfl) rfl #[.agg #[.int .i64 ((rd_T42 l0 x5_1).f0), .int .i64 ((rd_T42 l0 x5_1).f1), .int .i64 ((rd_T42 l0 x5_1).f2), .int .i64 ((rd_T42 l0 x5_1).f3), .int .i64 ((rd_T42 l0 x5_1).f4)]] rfl (by (try simp only [List.map_toArray, List.map_cons, List.map_nil]); first | done | rfl | (simp only [List.length_drop, List.length_take]; rfl)) ?_; (with_reducible refine (fullingref29_Valid.calls ((rd_T42 l0 x5_1).f0) ((rd_T42 l0 x5_1).f1) ((rd_T42 l0 x5_1).f2) ((rd_T42 l0 x5_1).f3) ((rd_T42 l0 x5_1).f4) false _ A4.out).mono ?_); rintro e w53 ⟨rfl, hb⟩; refine ⟨_, rfl, ?_⟩; have n0_ := Aside0.mk (Kd.R_below (by (with_reducible repeat (first | apply Kd.R_alloc | apply Kd.R_drewN | apply Kd.R_drew)); exact (Kd.R_mono (Kd.R_far (p := ⟨gb182, 4, none⟩) (Kd.R_far (p := ⟨gb182, 3, none⟩) (Kd.R_far (p := ⟨gb182, 2, none⟩) (Kd.R_far (p := ⟨gb182, 1, none⟩) (Kd.R_far (p := ⟨gb182, 0, none⟩) (Kd.R_types HO_4.out BK182.out (by decide)) (fun _ hk => hk.2) (.int .i64 ((rd_T42 l0 x5_1).f0))) (fun _ hk => hk.2) (.int .i64 ((rd_T42 l0 x5_1).f1))) (fun _ hk => hk.2) (.int .i64 ((rd_T42 l0 x5_1).f2))) (fun _ hk => hk.2) (.int .i64 ((rd_T42 l0 x5_1).f3))) (fun _ hk => hk.2) (.int .i64 ((rd_T42 l0 x5_1).f4))) (fun _ h_ => h_.1))) hb); have n1_ := Aside0.mk (blk_below (g := gb182) (o := .cells #[.int .i64 ((rd_T42 l0 x5_1).f0), .int .i64 ((rd_T42 l0 x5_1).f1), .int .i64 ((rd_T42 l0 x5_1).f2), .int .i64 ((rd_T42 l0 x5_1).f3), .int .i64 ((rd_T42 l0 x5_1).f4)] 42 (0, 0)) (by (with_reducible repeat (first | refine blk_drewN ?_ _ | refine blk_drew ?_ | refine blk_alloc ?_ _)); refine blk_put (cs := #[.int .i64 ((rd_T42 l0 x5_1).f0), .int .i64 ((rd_T42 l0 x5_1).f1), .int .i64 ((rd_T42 l0 x5_1).f2), .int .i64 ((rd_T42 l0 x5_1).f3), .int .i64 0]) ?_ 4 _ rfl; (with_reducible repeat (first | refine blk_drewN ?_ _ | refine blk_drew ?_ | refine blk_alloc ?_ _)); refine blk_put (cs := #[.int .i64 ((rd_T42 l0 x5_1).f0), .int .i64 ((rd_T42 l0 x5_1).f1), .int .i64 ((rd_T42 l0 x5_1).f2), .int .i64 0, .int .i64 0]) ?_ 3 _ rfl; (with_reducible repeat (first | refine blk_drewN ?_ _ | refine blk_drew ?_ | refine blk_alloc ?_ _)); refine blk_put (cs := #[.int .i64 ((rd_T42 l0 x5_1).f0), .int .i64 ((rd_T42 l0 x5_1).f1), .int .i64 0, .int .i64 0, .int .i64 0]) ?_ 2 _ rfl; (with_reducible repeat (first | refine blk_drewN ?_ _ | refine blk_drew ?_ | refine blk_alloc ?_ _)); refine blk_put (cs := #[.int .i64 ((rd_T42 l0 x5_1).f0), .int .i64 0, .int .i64 0, .int .i64 0, .int .i64 0]) ?_ 1 _ rfl; (with_reducible repeat (first | refine blk_drewN ?_ _ | refine blk_drew ?_ | refine blk_alloc ?_ _)); refine blk_put (cs := #[.int .i64 0, .int .i64 0, .int .i64 0, .int .i64 0, .int .i64 0]) ?_ 0 _ rfl; (with_reducible repeat (first | refine blk_drewN ?_ _ | refine blk_drew ?_ | refine blk_alloc ?_ _)); exact BK182.out) hb); have n2_ := Aside0.mk (below_step (by repeat (first | (with_reducible first | exact HB.out | apply below_alloc | apply pw_below_drewN | apply below_drew1 | refine below_set ?_ GE182.out) | exact HB.out)) hb); clear HO_4; clear BK182; clear HB; have HO_4 := n0_; have BK182 := n1_; have HB := n2_; clear n0_ n1_ n2_; (try clear hb); (try clear hb2); (try clear hk); (try clear hi)))
            go_ret2
            exact ⟨_, by first | rfl | (simp [errW_none, errW_some] <;> rfl) | (simp [*, errW_none, errW_some] <;> rfl), by first | exact Kd.R_nil _ _ _ _ _ | exact Kd.N_nil _ _ _ _ _ | exact Kd.V_nil _ _ _ _ _ | exact Kd.Q_nil _ _ _ _ _ | exact Kd.S_nil _ _ _ _ _, by repeat (first | (with_reducible first | exact HB.out | apply below_alloc | apply pw_below_drewN | apply below_drew1 | refine below_set ?_ GE182.out) | exact HB.out)⟩
        · rw [if_neg c3] at H
          exact absurd H (by simp)
      · rw [if_neg c2] at H
        have c2b0 : decide (x5_1 < (l0.length : Int)) = false := decide_eq_false c2
        clear c2
        simp only [Option.some.injEq, Prod.mk.injEq] at H
        obtain ⟨rfl, rfl⟩ := H
        go_wp2
        go_ret2
        exact ⟨_, by first | rfl | (simp [errW_none, errW_some] <;> rfl) | (simp [*, errW_none, errW_some] <;> rfl), by (with_reducible repeat (first | apply Kd.R_alloc | apply Kd.R_drewN | apply Kd.R_drew)); exact HO_4.out, by repeat (first | (with_reducible first | exact HB.out | apply below_alloc | apply pw_below_drewN | apply below_drew1) | exact HB.out)⟩
end Go.Proofs.YtcjidibdidijaaaDoor.PCod
namespace Go.Proofs.YtcjidibdidijaaaDoor
open Go.RowKit Go.Proofs.YtcjidibdidijaaaDoor.PCod Go.Proofs.YtcjidibdidijaaaDoorW.PrintWords Go.Proofs.YtcjidibdidijaaaDoorW.PrintMore
set_option linter.unusedVariables false
set_option linter.unusedSimpArgs false
theorem mask26 : IntKind.u64.wrap (shl .u64 1 26 - 1) = ((2 ^ 26 - 1 : Nat) : Int) := by decide +kernel
theorem mask23 : IntKind.u64.wrap (shl .u64 1 23 - 1) = ((2 ^ 23 - 1 : Nat) : Int) := by decide +kernel
theorem mask20 : IntKind.u64.wrap (shl .u64 1 20 - 1) = ((2 ^ 20 - 1 : Nat) : Int) := by decide +kernel
theorem imm26 (n : Int) : shl .u32 ((Go.bits .and .u64 (IntKind.u64.wrap n) (IntKind.u64.wrap (shl .u64 1 26 - 1))) % 4294967296) 6 = n % 67108864 * 64 := by
  rw [mask26, and64_mask _ 26 (by omega) (by rw [u64w]; omega) (by rw [u64w]; omega), u64w, shl32 _ 6 6 rfl (by omega)]
  show n % 18446744073709551616 % 67108864 % 4294967296 * 64 % 4294967296 = _
  omega
theorem imm23 (n : Int) : shl .u32 ((Go.bits .and .u64 (IntKind.u64.wrap n) (IntKind.u64.wrap (shl .u64 1 23 - 1))) % 4294967296) 9 = n % 8388608 * 512 := by
  rw [mask23, and64_mask _ 23 (by omega) (by rw [u64w]; omega) (by rw [u64w]; omega), u64w, shl32 _ 9 9 rfl (by omega)]
  show n % 18446744073709551616 % 8388608 % 4294967296 * 512 % 4294967296 = _
  omega
theorem imm20 (n : Int) : shl .u32 ((Go.bits .and .u64 (IntKind.u64.wrap n) (IntKind.u64.wrap (shl .u64 1 20 - 1))) % 4294967296) 12 = n % 1048576 * 4096 := by
  rw [mask20, and64_mask _ 20 (by omega) (by rw [u64w]; omega) (by rw [u64w]; omega), u64w, shl32 _ 12 12 rfl (by omega)]
  show n % 18446744073709551616 % 1048576 % 4294967296 * 4096 % 4294967296 = _
  omega
theorem renc_step (l : List S42) (hl : 3 * l.length < 35184372088830) (j : Nat) (hlt : j < l.length) (acc : List Int) (ha : acc.length ≤ 3 * j) (hv : vI l[j] = true) (k : Nat) :
    fullingref29_Encode.l0 (k + 1) l acc (j : Int) = fullingref29_Encode.l0 k l (acc ++ wI l[j]) ((j + 1 : Nat) : Int) := by
  have hV := vI_val hv
  have hc := val_cases hV
  obtain ⟨h1, h2, a0, a1, b0, b1, c0, c1, n0, n1, hc⟩ := hc
  have hsum := word_sum l[j].f0 l[j].f1 l[j].f2 l[j].f3 (by omega) (by omega) a0 a1 b0 b1 c0 c1
  unfold wordOf at hsum
  have hs := wrap_succ j (by omega)
  have h3 : fullingref29_Valid.f l[j].f0 l[j].f1 l[j].f2 l[j].f3 l[j].f4 = some true := congrArg some hv
  have h4 : fullingref29_form.f l[j].f0 = some (formOf l[j].f0) := rfl
  have hw : wI l[j] = _ := appW_eq hV
  rw [fullingref29_Encode.l0, if_pos (by omega), if_pos (by omega), rd42 l j hlt, h3, Option.bind_some, if_pos rfl, h4, Option.bind_some, hw]
  unfold word1 fullingref29_field.f
  have h14 := formOf_iff6 l[j].f0
  rcases hc with ⟨hf, hc⟩ | ⟨hf, hc⟩ | ⟨hf, hc⟩ | ⟨hf, hc⟩ | ⟨hf, hc⟩ | ⟨hf, hc⟩ | ⟨hf, hc⟩ | ⟨hf, hc⟩ <;> rw [hf] at h14 ⊢ <;> simp only [Int.reduceEq, ↓reduceIte, Option.bind_some, Int.reduceLE, Int.reduceGT, Int.reduceLT, hsum, hs, imm26, imm23, imm20, Int.add_zero]
  · rw [if_pos (by omega), if_neg (by omega)]
  · rw [if_pos (by omega), if_neg (by omega)]
  · rw [if_pos (by omega), if_neg (by omega)]
  · rw [if_pos (by omega), if_neg (by omega)]
  · rw [if_pos (by omega), if_neg (by omega), or9 _ _ (by omega) (by omega) (by omega) (by omega)]
  · rw [if_pos (by omega), if_pos (by omega), if_pos (by simp only [List.length_append, List.length_cons, List.length_nil]; omega), List.append_assoc, u64w]
    rw [show l[j].f4 % 18446744073709551616 % 4294967296 = l[j].f4 % 4294967296 by omega, show l[j].f4 % 18446744073709551616 / 4294967296 % 4294967296 = l[j].f4 % 18446744073709551616 / 4294967296 by omega]
    rfl
  · rw [if_pos (by omega), if_neg (by omega), or12 _ _ (by omega) (by omega) (by omega) (by omega)]
  · rw [if_pos (by omega), if_neg (by omega), or6 _ _ (by omega) (by omega) (by omega) (by omega)]
theorem renc_loop (l : List S42) (hl : 3 * l.length < 35184372088830) : ∀ (d j : Nat) (acc : List Int), l.length - j = d → j ≤ l.length → acc.length ≤ 3 * j →
    Ev (fun k => fullingref29_Encode.l0 k l acc (j : Int)) (if (l.drop j).all vI then (acc ++ (l.drop j).flatMap wI, 0) else ([], 204))
  | 0, j, acc, hd, hj, ha => by
    obtain rfl : j = l.length := by omega
    refine Ev.step (f := fun _ => some (acc, 0)) (fun k => ?_) ?_
    · rw [fullingref29_Encode.l0, if_neg (by omega)]
    · rw [List.drop_length]
      simp only [List.all_nil, if_true, List.flatMap_nil, List.append_nil]
      exact Ev.now _
  | d + 1, j, acc, hd, hj, ha => by
    have hlt : j < l.length := by omega
    have e : l.drop j = l[j] :: l.drop (j + 1) := List.drop_eq_getElem_cons hlt
    by_cases hv : vI l[j] = true
    · have ih := renc_loop l hl d (j + 1) (acc ++ wI l[j]) (by omega) (by omega) (by have := wI_len3 hv; rw [List.length_append]; omega)
      rw [e]
      simp only [List.all_cons, hv, Bool.true_and, List.flatMap_cons]
      rw [← List.append_assoc]
      exact Ev.step (fun k => renc_step l hl j hlt acc ha hv k) ih
    · rw [e]
      have hv' : vI l[j] = false := by simpa using hv
      simp only [List.all_cons, hv', Bool.false_and, Bool.false_eq_true, if_false]
      refine Ev.step (f := fun _ => some ([], 204)) (fun k => ?_) (Ev.now _)
      have h1 : fullingref29_Valid.f l[j].f0 l[j].f1 l[j].f2 l[j].f3 l[j].f4 = some false := congrArg some hv'
      rw [fullingref29_Encode.l0, if_pos (by omega), if_pos (by omega), rd42 l j hlt, h1, Option.bind_some, if_neg (by decide)]
theorem renc_ev (l : List S42) (hl : 3 * l.length < 35184372088830) : Ev (fun k => fullingref29_Encode.f k l) (encL l) := by
  have h := renc_loop l hl l.length 0 [] (by omega) (by omega) (by simp)
  simp only [List.drop_zero, List.nil_append] at h
  exact h
end Go.Proofs.YtcjidibdidijaaaDoor
namespace Go.Proofs.YtcjidibdidijaaaDoor
open Go.RowKit Go.Proofs.YtcjidibdidijaaaDoor.PCod Go.Proofs.YtcjidibdidijaaaDoorW.PrintWords Go.Proofs.YtcjidibdidijaaaDoorW.PrintMore
set_option linter.unusedVariables false
set_option linter.unusedSimpArgs false
theorem kcX {W w1 : World} (hb : Below W.heap.size W w1) (b o : Nat) (z : Int) (hc : W.cell? ⟨b, o, none⟩ = some (.int .i64 z)) (hf : W.frozen? ⟨b, o, none⟩ = false) : w1.cell? ⟨b, o, none⟩ = some (.int .i64 z) ∧ w1.frozen? ⟨b, o, none⟩ = false :=
  ⟨(hb.cell (World.block_lt_of_cell? _ _ hc)).trans hc, (hb.frozen (p := ⟨b, o, none⟩) (World.block_lt_of_cell? _ _ hc)).trans hf⟩
def insCells (l : List S42) : List Value := l.flatMap fun i => [.int .i64 i.f0, .int .i64 i.f1, .int .i64 i.f2, .int .i64 i.f3, .int .i64 i.f4]
theorem insCells_get : ∀ (l : List S42) (j : Nat) (p : S42), l[j]? = some p → ∀ i u, ([.int .i64 p.f0, .int .i64 p.f1, .int .i64 p.f2, .int .i64 p.f3, .int .i64 p.f4] : List Value)[i]? = some u → (insCells l)[j * 5 + i]? = some u
  | [], j, p, h, i, u, hu => by simp at h
  | s :: t, 0, p, h, i, u, hu => by
    have e : s = p := by simpa using h
    subst e
    have hi : i < 5 := (List.getElem?_eq_some_iff.1 hu).1
    unfold insCells
    rw [List.flatMap_cons, List.getElem?_append_left (by simp; omega), Nat.zero_mul, Nat.zero_add]
    exact hu
  | s :: t, j + 1, p, h, i, u, hu => by
    have ih := insCells_get t j p (by simpa using h) i u hu
    unfold insCells at ih ⊢
    rw [List.flatMap_cons, List.getElem?_append_right (by simp; omega)]
    simp only [List.length_cons, List.length_nil]
    rw [show (j + 1) * 5 + i - (0 + 1 + 1 + 1 + 1 + 1) = j * 5 + i by omega]
    exact ih
theorem C42_blk {W : World} {b : Nat} {l : List S42} (h : W.heap[b]? = some (.cells (insCells l).toArray 42 (0, 0))) (hl : l.length ≤ 9223372036854775807) : Kd.C k42 W (some ⟨b, 0, none⟩) l.length l :=
  ⟨rfl, hl, fun _ => ⟨_, rfl, fun j p hj => ⟨_, rfl, k42_mk W p, fun i u hu => by
    have hs : k42.sz = 5 := rfl
    rw [add_plain, hs, blk_cell h, List.getElem?_toArray]
    exact insCells_get l j p hj i u hu⟩⟩⟩
theorem C32_blk {W : World} {b : Nat} {k : IntKind} {e : TypeId} {l : List Int} (h : W.heap[b]? = some (.cells (nums k l).toArray e (0, 0))) (hl : l.length ≤ 9223372036854775807) : Kd.C (Kd.int k) W (some ⟨b, 0, none⟩) l.length l := by
  refine Kd.C_of_reads (d := (0 : Int)) (h1 := fun _ => rfl) ⟨rfl, hl, fun _ => ⟨_, rfl, fun j hj => ?_⟩⟩
  rw [add_plain, blk_cell h, List.getElem?_toArray, nums, List.getElem?_map, List.getElem?_eq_getElem hj, List.getD_eq_getElem?_getD, List.getElem?_eq_getElem hj]
  rfl
end Go.Proofs.YtcjidibdidijaaaDoor
namespace Go.Proofs.YtcjidibdidijaaaDoor
open Go.RowKit Go.Proofs.YtcjidibdidijaaaDoor.PCod Go.Proofs.YtcjidibdidijaaaDoorW.PrintWords Go.Proofs.YtcjidibdidijaaaDoorW.PrintMore
set_option linter.unusedVariables false
set_option linter.unusedSimpArgs false
def decV (d : Int × Int × Int × Int × Int × Int × Int) : Value := .tuple #[.agg #[.int .i64 d.1, .int .i64 d.2.1, .int .i64 d.2.2.1, .int .i64 d.2.2.2.1, .int .i64 d.2.2.2.2.1], .int .i64 d.2.2.2.2.2.1, .int .i64 d.2.2.2.2.2.2]
def RPost (w : World) (x : Int) (i : S42) (size : Int) (e : Ending) (w' : World) : Prop := e = .returned (decV (if vI i = true ∧ word1 i.f0 i.f1 i.f2 i.f3 i.f4 = x then (i.f0, i.f1, i.f2, i.f3, i.f4, size, 0) else errD)) ∧ Below w.heap.size w w'
def EncPost (W : World) (i : S42) (e : Ending) (w' : World) : Prop := ∃ v0 : Value, e = .returned (.tuple #[v0, .int .i64 (encL [i]).2]) ∧ Kd.R (Kd.int .u32) 53 w' W.heap.size (fun _ => True) v0 (encL [i]).1 ∧ Below W.heap.size W w'
theorem renc_one {b : Nat} (i : S42) (W : World) (hc : Kd.C k42 W (some ⟨b, 0, none⟩) 1 [i]) : Calls Tryd.prog 37 #[.slice (some ⟨b, 0, none⟩) 1 1] W (EncPost W i) := by
  obtain ⟨k, hk⟩ := (renc_ev [i] (by simp)).rounds
  exact fullingref29_Encode.calls k _ 1 [i] _ _ W hc (by simp) hk
theorem field_any (f : Int) (w : World) : Calls Tryd.prog 68 #[.int .i64 f] w fun e w' => e = .returned (.tuple #[.int .u64 (if f = 8 then 6 else if f = 5 then 9 else if f = 7 then 12 else 0), .int .u64 (if f = 8 then 26 else if f = 5 then 23 else if f = 7 then 20 else 0)]) ∧ w = w' := by
  by_cases h8 : f = 8
  · subst h8
    go_enter Tryd.func68, Tryd.ntmps68
    go_wp2
    go_ret2
    exact ⟨rfl, rfl⟩
  · by_cases h5 : f = 5
    · subst h5
      go_enter Tryd.func68, Tryd.ntmps68
      go_wp2
      go_ret2
      exact ⟨rfl, rfl⟩
    · by_cases h7 : f = 7
      · subst h7
        go_enter Tryd.func68, Tryd.ntmps68
        go_wp2
        go_ret2
        exact ⟨rfl, rfl⟩
      · have b8 : (f == 8) = false := beq_eq_false_iff_ne.2 h8
        have b5 : (f == 5) = false := beq_eq_false_iff_ne.2 h5
        have b7 : (f == 7) = false := beq_eq_false_iff_ne.2 h7
        rw [if_neg h8, if_neg h5, if_neg h7, if_neg h8, if_neg h5, if_neg h7]
        go_enter Tryd.func68, Tryd.ntmps68
        go_wp2
        go_ret2
        exact ⟨rfl, rfl⟩
theorem still_tail {P : Program} {id : Nat} {Q : Exit → Act → World → Prop} {a : Act} {w : World} {l : List Oper} (n : Nat) (hm : P.follows .mixedOrders = true) (hB : Region.lexTailB .any l.toArray n = true)
    (h : wpStill P l.toArray w.drew (fun a' => wpList P l.toArray Q (l.drop n) a' w.drew) (l.take n) a) : (Code.region id l.toArray true).wp P Q a w := wp_region_still_tail n hm hB h
theorem encL_one {i : S42} (h : vI i = true) : encL [i] = (wI i, 0) := by
  unfold encL
  rw [if_pos (by simp [h])]
  simp
theorem encL_bad {i : S42} (h : ¬ vI i = true) : encL [i] = ([], 204) := by
  unfold encL
  rw [if_neg (by simpa using h)]
theorem first_word {W : World} {base : Nat} {P : Nat → Prop} {v : Value} {i : S42} (h : vI i = true) (hR : Kd.R (Kd.int .u32) 53 W base P v (wI i)) :
    ∃ ad m c, v = .slice (some ad) m c ∧ 0 < m ∧ W.cell? ad = some (.int .u32 (word1 i.f0 i.f1 i.f2 i.f3 i.f4)) := by
  obtain ⟨A, c, rfl, _, hC⟩ := Kd.R_reads hR
  have hl := (wI_len3 h).1
  obtain ⟨ad, rfl, hcell⟩ := (readsInt_of.2 (Kd.reads_of_C (d := (0 : Int)) hC)).at_ 0 (by omega) (by omega)
  refine ⟨ad, _, c, rfl, by omega, ?_⟩
  have e : rd (wI i) 0 = word1 i.f0 i.f1 i.f2 i.f3 i.f4 := by
    have hw : wI i = _ := appW_eq (vI_val h)
    rw [hw]
    split <;> rfl
  rw [← e]
  simpa [Addr.add] using hcell
theorem end27 {a : Act} {W : World} {b : Nat} (op A B C X s er : Int) {Q : Ending → World → Prop} (hp : a.tmps.getD 4 undef = .pointer (some ⟨b, 0, none⟩)) (h5 : a.tmps.getD 5 undef = .int .i64 s) (h6 : a.tmps.getD 6 undef = .int .i64 er) (hd : a.defers = [])
    (c0 : W.cell? ⟨b, 0, none⟩ = some (.int .i64 op)) (c1 : W.cell? ⟨b, 1, none⟩ = some (.int .i64 A)) (c2 : W.cell? ⟨b, 2, none⟩ = some (.int .i64 B))
    (c3 : W.cell? ⟨b, 3, none⟩ = some (.int .i64 C)) (c4 : W.cell? ⟨b, 4, none⟩ = some (.int .i64 X)) (hq : Q (.returned (decV (op, A, B, C, X, s, er))) W) : bodyPost Tryd.prog Tryd.f27 Q .ret a W := by
  refine bodyPost_ret (v := decV (op, A, B, C, X, s, er)) ?_ hd hq
  have hp2 : a.tmps[4]?.getD undef = .pointer (some ⟨b, 0, none⟩) := by simpa using hp
  have h52 : a.tmps[5]?.getD undef = .int .i64 s := by simpa using h5
  have h62 : a.tmps[6]?.getD undef = .int .i64 er := by simpa using h6
  simp [results, Tryd.results27, go_sem, hp2, h52, h62, c0, c1, c2, c3, c4, decV]
end Go.Proofs.YtcjidibdidijaaaDoor
