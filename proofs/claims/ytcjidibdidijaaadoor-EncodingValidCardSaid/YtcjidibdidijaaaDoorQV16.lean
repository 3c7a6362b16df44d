/- Parts of this proof in one text: RInfo. -/
import Derived.Test.YtcjidibdidijaaaDoorQV12
import Derived.Test.YtcjidibdidijaaaDoorQV13
import Derived.Test.YtcjidibdidijaaaDoorQV14
import Derived.Test.YtcjidibdidijaaaDoorQV15
namespace Go.Proofs.YtcjidibdidijaaaDoor
set_option linter.unusedVariables false
set_option linter.unusedSimpArgs false
open Go.RowKit Go.Proofs.YtcjidibdidijaaaDoorW.PrintWords
set_option maxRecDepth 100000 in
set_option maxHeartbeats 1000000 in
theorem rinfo_out (a0 : Int) (h : a0 < 1 ∨ a0 > 37) (w : World) : Calls Tryd.prog 55 #[.int .i64 a0] w fun e w' =>
    e = .returned (.tuple #[.agg #[.string ⟨#[]⟩, .int .i64 0, .bool false, .bool false, .bool false, .bool false, .int .i64 0], .bool false]) ∧ Below w.heap.size w w' := by
  have q1 : (a0 == 1) = false := beq_eq_false_iff_ne.2 (by omega)
  have q2 : (a0 == 2) = false := beq_eq_false_iff_ne.2 (by omega)
  have q3 : (a0 == 3) = false := beq_eq_false_iff_ne.2 (by omega)
  have q4 : (a0 == 4) = false := beq_eq_false_iff_ne.2 (by omega)
  have q5 : (a0 == 5) = false := beq_eq_false_iff_ne.2 (by omega)
  have q6 : (a0 == 6) = false := beq_eq_false_iff_ne.2 (by omega)
  have q7 : (a0 == 7) = false := beq_eq_false_iff_ne.2 (by omega)
  have q8 : (a0 == 8) = false := beq_eq_false_iff_ne.2 (by omega)
  have q9 : (a0 == 9) = false := beq_eq_false_iff_ne.2 (by omega)
  have q10 : (a0 == 10) = false := beq_eq_false_iff_ne.2 (by omega)
  have q11 : (a0 == 11) = false := beq_eq_false_iff_ne.2 (by omega)
  have q12 : (a0 == 12) = false := beq_eq_false_iff_ne.2 (by omega)
  have q13 : (a0 == 13) = false := beq_eq_false_iff_ne.2 (by omega)
  have q14 : (a0 == 14) = false := beq_eq_false_iff_ne.2 (by omega)
  have q15 : (a0 == 15) = false := beq_eq_false_iff_ne.2 (by omega)
  have q16 : (a0 == 16) = false := beq_eq_false_iff_ne.2 (by omega)
  have q17 : (a0 == 17) = false := beq_eq_false_iff_ne.2 (by omega)
  have q18 : (a0 == 18) = false := beq_eq_false_iff_ne.2 (by omega)
  have q19 : (a0 == 19) = false := beq_eq_false_iff_ne.2 (by omega)
  have q20 : (a0 == 20) = false := beq_eq_false_iff_ne.2 (by omega)
  have q21 : (a0 == 21) = false := beq_eq_false_iff_ne.2 (by omega)
  have q22 : (a0 == 22) = false := beq_eq_false_iff_ne.2 (by omega)
  have q23 : (a0 == 23) = false := beq_eq_false_iff_ne.2 (by omega)
  have q24 : (a0 == 24) = false := beq_eq_false_iff_ne.2 (by omega)
  have q25 : (a0 == 25) = false := beq_eq_false_iff_ne.2 (by omega)
  have q26 : (a0 == 26) = false := beq_eq_false_iff_ne.2 (by omega)
  have q27 : (a0 == 27) = false := beq_eq_false_iff_ne.2 (by omega)
  have q28 : (a0 == 28) = false := beq_eq_false_iff_ne.2 (by omega)
  have q29 : (a0 == 29) = false := beq_eq_false_iff_ne.2 (by omega)
  have q30 : (a0 == 30) = false := beq_eq_false_iff_ne.2 (by omega)
  have q31 : (a0 == 31) = false := beq_eq_false_iff_ne.2 (by omega)
  have q32 : (a0 == 32) = false := beq_eq_false_iff_ne.2 (by omega)
  have q33 : (a0 == 33) = false := beq_eq_false_iff_ne.2 (by omega)
  have q34 : (a0 == 34) = false := beq_eq_false_iff_ne.2 (by omega)
  have q35 : (a0 == 35) = false := beq_eq_false_iff_ne.2 (by omega)
  have q36 : (a0 == 36) = false := beq_eq_false_iff_ne.2 (by omega)
  have q37 : (a0 == 37) = false := beq_eq_false_iff_ne.2 (by omega)
  by_cases c : a0 < 1
  · have d1 : decide (17 ≤ a0) = false := decide_eq_false (by omega)
    have d2 : decide (a0 ≤ 32) = true := decide_eq_true (by omega)
    go_enter Tryd.func55, Tryd.ntmps55
    go_wp2
    refine bodyPost_ret (v := .tuple #[.agg #[.string ⟨#[]⟩, .int .i64 0, .bool false, .bool false, .bool false, .bool false, .int .i64 0], .bool false]) (by simp [results, Tryd.results55, go_sem]) rfl ⟨rfl, ?_⟩
    exact (Below.refl _ _).alloc (Nat.le_refl _) _
  · have d1 : decide (17 ≤ a0) = true := decide_eq_true (by omega)
    have d2 : decide (a0 ≤ 32) = false := decide_eq_false (by omega)
    go_enter Tryd.func55, Tryd.ntmps55
    go_wp2
    refine bodyPost_ret (v := .tuple #[.agg #[.string ⟨#[]⟩, .int .i64 0, .bool false, .bool false, .bool false, .bool false, .int .i64 0], .bool false]) (by simp [results, Tryd.results55, go_sem]) rfl ⟨rfl, ?_⟩
    exact (Below.refl _ _).alloc (Nat.le_refl _) _
theorem rinfo_of {a0 : Int} {r1 : ByteArray} {r2 : Int} {r3 r4 r5 r6 : Bool} {r7 : Int} {r8 : Bool} {s1 : ByteArray} {s2 : Int} {s3 s4 s5 s6 : Bool} {s7 : Int} {s8 : Bool} {w : World} (h : infoF a0 = some (r1, r2, r3, r4, r5, r6, r7, r8))
    (H : Calls Tryd.prog 55 #[.int .i64 a0] w fun e w' => e = .returned (.tuple #[.agg #[.string s1, .int .i64 s2, .bool s3, .bool s4, .bool s5, .bool s6, .int .i64 s7], .bool s8]) ∧ Below w.heap.size w w')
    (hq : infoF a0 = some (s1, s2, s3, s4, s5, s6, s7, s8)) :
    Calls Tryd.prog 55 #[.int .i64 a0] w fun e w' => e = .returned (.tuple #[.agg #[.string r1, .int .i64 r2, .bool r3, .bool r4, .bool r5, .bool r6, .int .i64 r7], .bool r8]) ∧ Below w.heap.size w w' := by
  rw [hq] at h
  simp only [Option.some.injEq, Prod.mk.injEq] at h
  obtain ⟨rfl, rfl, rfl, rfl, rfl, rfl, rfl, rfl⟩ := h
  exact H
theorem rinfo_calls (a0 : Int) (r1 : ByteArray) (r2 : Int) (r3 r4 r5 r6 : Bool) (r7 : Int) (r8 : Bool) (w : World) (h : infoF a0 = some (r1, r2, r3, r4, r5, r6, r7, r8)) :
    Calls Tryd.prog 55 #[.int .i64 a0] w fun e w' => e = .returned (.tuple #[.agg #[.string r1, .int .i64 r2, .bool r3, .bool r4, .bool r5, .bool r6, .int .i64 r7], .bool r8]) ∧ Below w.heap.size w w' := by
  by_cases c : a0 < 1 ∨ a0 > 37
  · have e : infoF a0 = some (⟨#[]⟩, 0, false, false, false, false, 0, false) := by
      unfold infoF
      by_cases d : a0 < 1
      · rw [if_pos d]
      · rw [if_neg d, if_pos (by omega)]
    rw [e] at h
    simp only [Option.some.injEq, Prod.mk.injEq] at h
    obtain ⟨rfl, rfl, rfl, rfl, rfl, rfl, rfl, rfl⟩ := h
    exact rinfo_out a0 c w
  · have : a0 = 1 ∨ a0 = 2 ∨ a0 = 3 ∨ a0 = 4 ∨ a0 = 5 ∨ a0 = 6 ∨ a0 = 7 ∨ a0 = 8 ∨ a0 = 9 ∨ a0 = 10 ∨ a0 = 11 ∨ a0 = 12 ∨ a0 = 13 ∨ a0 = 14 ∨ a0 = 15 ∨ a0 = 16 ∨ a0 = 17 ∨ a0 = 18 ∨ a0 = 19 ∨ a0 = 20 ∨ a0 = 21 ∨ a0 = 22 ∨ a0 = 23 ∨ a0 = 24 ∨ a0 = 25 ∨ a0 = 26 ∨ a0 = 27 ∨ a0 = 28 ∨ a0 = 29 ∨ a0 = 30 ∨ a0 = 31 ∨ a0 = 32 ∨ a0 = 33 ∨ a0 = 34 ∨ a0 = 35 ∨ a0 = 36 ∨ a0 = 37 := by omega
    rcases this with rfl | rfl | rfl | rfl | rfl | rfl | rfl | rfl | rfl | rfl | rfl | rfl | rfl | rfl | rfl | rfl | rfl | rfl | rfl | rfl | rfl | rfl | rfl | rfl | rfl | rfl | rfl | rfl | rfl | rfl | rfl | rfl | rfl | rfl | rfl | rfl | rfl
    · exact rinfo_of h (rinfo1 w) rfl
    · exact rinfo_of h (rinfo2 w) rfl
    · exact rinfo_of h (rinfo3 w) rfl
    · exact rinfo_of h (rinfo4 w) rfl
    · exact rinfo_of h (rinfo5 w) rfl
    · exact rinfo_of h (rinfo6 w) rfl
    · exact rinfo_of h (rinfo7 w) rfl
    · exact rinfo_of h (rinfo8 w) rfl
    · exact rinfo_of h (rinfo9 w) rfl
    · exact rinfo_of h (rinfo10 w) rfl
    · exact rinfo_of h (rinfo11 w) rfl
    · exact rinfo_of h (rinfo12 w) rfl
    · exact rinfo_of h (rinfo13 w) rfl
    · exact rinfo_of h (rinfo14 w) rfl
    · exact rinfo_of h (rinfo15 w) rfl
    · exact rinfo_of h (rinfo16 w) rfl
    · exact rinfo_of h (rinfo17 w) rfl
    · exact rinfo_of h (rinfo18 w) rfl
    · exact rinfo_of h (rinfo19 w) rfl
    · exact rinfo_of h (rinfo20 w) rfl
    · exact rinfo_of h (rinfo21 w) rfl
    · exact rinfo_of h (rinfo22 w) rfl
    · exact rinfo_of h (rinfo23 w) rfl
    · exact rinfo_of h (rinfo24 w) rfl
    · exact rinfo_of h (rinfo25 w) rfl
    · exact rinfo_of h (rinfo26 w) rfl
    · exact rinfo_of h (rinfo27 w) rfl
    · exact rinfo_of h (rinfo28 w) rfl
    · exact rinfo_of h (rinfo29 w) rfl
    · exact rinfo_of h (rinfo30 w) rfl
    · exact rinfo_of h (rinfo31 w) rfl
    · exact rinfo_of h (rinfo32 w) rfl
    · exact rinfo_of h (rinfo33 w) rfl
    · exact rinfo_of h (rinfo34 w) rfl
    · exact rinfo_of h (rinfo35 w) rfl
    · exact rinfo_of h (rinfo36 w) rfl
    · exact rinfo_of h (rinfo37 w) rfl
end Go.Proofs.YtcjidibdidijaaaDoor
