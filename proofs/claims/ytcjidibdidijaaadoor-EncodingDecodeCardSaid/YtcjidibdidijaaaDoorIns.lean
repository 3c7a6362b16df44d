/- fullingkeep2.Instr: what it hands back, for every number. -/
import Derived.Test.YtcjidibdidijaaaDoorIns0
import Derived.Test.YtcjidibdidijaaaDoorIns1
namespace Go.Proofs.YtcjidibdidijaaaDoor
set_option linter.unusedVariables false
open Go.RowKit Go.Proofs.YtcjidibdidijaaaDoorW.PrintWords

theorem ins_any (n : Int) (w : World) : Calls Tryd.prog 39 #[.int .i64 n] w fun e w' => e = .returned (insV (instrF n)) ∧ Below w.heap.size w w' := by
  have hr := pickN_range n 37 (by omega) (by omega)
  unfold instrF
  have h : pickN n 37 = 0 ∨ pickN n 37 = 1 ∨ pickN n 37 = 2 ∨ pickN n 37 = 3 ∨ pickN n 37 = 4 ∨ pickN n 37 = 5 ∨ pickN n 37 = 6 ∨ pickN n 37 = 7 ∨ pickN n 37 = 8 ∨ pickN n 37 = 9 ∨ pickN n 37 = 10 ∨ pickN n 37 = 11 ∨ pickN n 37 = 12 ∨ pickN n 37 = 13 ∨ pickN n 37 = 14 ∨ pickN n 37 = 15 ∨ pickN n 37 = 16 ∨ pickN n 37 = 17 ∨ pickN n 37 = 18 ∨ pickN n 37 = 19 ∨ pickN n 37 = 20 ∨ pickN n 37 = 21 ∨ pickN n 37 = 22 ∨ pickN n 37 = 23 ∨ pickN n 37 = 24 ∨ pickN n 37 = 25 ∨ pickN n 37 = 26 ∨ pickN n 37 = 27 ∨ pickN n 37 = 28 ∨ pickN n 37 = 29 ∨ pickN n 37 = 30 ∨ pickN n 37 = 31 ∨ pickN n 37 = 32 ∨ pickN n 37 = 33 ∨ pickN n 37 = 34 ∨ pickN n 37 = 35 ∨ pickN n 37 = 36 := by omega
  rcases h with h | h | h | h | h | h | h | h | h | h | h | h | h | h | h | h | h | h | h | h | h | h | h | h | h | h | h | h | h | h | h | h | h | h | h | h | h
  · rw [h]; exact ins_1 n w (Lib.hid h)
  · rw [h]; exact ins_2 n w (Lib.hid h)
  · rw [h]; exact ins_3 n w (Lib.hid h)
  · rw [h]; exact ins_4 n w (Lib.hid h)
  · rw [h]; exact ins_5 n w (Lib.hid h)
  · rw [h]; exact ins_6 n w (Lib.hid h)
  · rw [h]; exact ins_7 n w (Lib.hid h)
  · rw [h]; exact ins_8 n w (Lib.hid h)
  · rw [h]; exact ins_9 n w (Lib.hid h)
  · rw [h]; exact ins_10 n w (Lib.hid h)
  · rw [h]; exact ins_11 n w (Lib.hid h)
  · rw [h]; exact ins_12 n w (Lib.hid h)
  · rw [h]; exact ins_13 n w (Lib.hid h)
  · rw [h]; exact ins_14 n w (Lib.hid h)
  · rw [h]; exact ins_15 n w (Lib.hid h)
  · rw [h]; exact ins_16 n w (Lib.hid h)
  · rw [h]; exact ins_17 n w (Lib.hid h)
  · rw [h]; exact ins_18 n w (Lib.hid h)
  · rw [h]; exact ins_19 n w (Lib.hid h)
  · rw [h]; exact ins_20 n w (Lib.hid h)
  · rw [h]; exact ins_21 n w (Lib.hid h)
  · rw [h]; exact ins_22 n w (Lib.hid h)
  · rw [h]; exact ins_23 n w (Lib.hid h)
  · rw [h]; exact ins_24 n w (Lib.hid h)
  · rw [h]; exact ins_25 n w (Lib.hid h)
  · rw [h]; exact ins_26 n w (Lib.hid h)
  · rw [h]; exact ins_27 n w (Lib.hid h)
  · rw [h]; exact ins_28 n w (Lib.hid h)
  · rw [h]; exact ins_29 n w (Lib.hid h)
  · rw [h]; exact ins_30 n w (Lib.hid h)
  · rw [h]; exact ins_31 n w (Lib.hid h)
  · rw [h]; exact ins_32 n w (Lib.hid h)
  · rw [h]; exact ins_33 n w (Lib.hid h)
  · rw [h]; exact ins_34 n w (Lib.hid h)
  · rw [h]; exact ins_35 n w (Lib.hid h)
  · rw [h]; exact ins_36 n w (Lib.hid h)
  · rw [h]; exact ins_37 n w (Lib.hid h)
theorem ins_calls (a0 r1 r2 r3 r4 r5 : Int) (w : World) (h : some (instrF a0) = some (r1, r2, r3, r4, r5)) :
    Calls Tryd.prog 39 #[.int .i64 a0] w fun e w' => e = .returned (.agg #[.int .i64 r1, .int .i64 r2, .int .i64 r3, .int .i64 r4, .int .i64 r5]) ∧ Below w.heap.size w w' := by
  have h := Option.some.inj h
  refine (ins_any a0 w).mono fun e w' ⟨he, hb⟩ => ⟨?_, hb⟩
  rw [he, h]
  rfl
end Go.Proofs.YtcjidibdidijaaaDoor
