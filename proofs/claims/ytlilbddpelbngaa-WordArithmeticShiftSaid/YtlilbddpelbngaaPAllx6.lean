/- One part of this proof, by a program of this session (turned from the kit printer): what Go functions answer, as plain Lean functions, with the proof that the calls answer so. -/
import Derived.Test.YtlilbddpelbngaaPAllx0
import Derived.Test.YtlilbddpelbngaaPAllx2
import Derived.Test.YtlilbddpelbngaaPAllx3
namespace Go.Proofs.Ytlilbddpelbngaa.PAll
open Go.RowKit Go.Proofs.YtlilbddpelbngaaW.PrintWords Go.Proofs.YtlilbddpelbngaaW.PrintLast Go.Proofs.YtlilbddpelbngaaW.PrintMore
attribute [local go_sem] max2_int min2_int max_two min_two max_three min_three max_four min_four   -- for this text's walks alone
set_option linter.unusedVariables false
set_option linter.unusedSimpArgs false

/-! ### fullinglaw1_WordUndefined: function 12 -/
def fullinglaw1_WordUndefined.f (k : Nat) (a0 : Int) (a1 : Int) (a2 : Int) : Option (Bool) := if a0 = 20 then (if a0 ≥ 4 then (if a0 ≤ 19 then ((fullinglaw1_WordExamples.f k).bind fun t235 => (some t235)) else ((word_Binary.f a0 a1 a2).bind fun t236 => (if t236 = 0 then ((fullinglaw1_WordExamples.f k).bind fun t237 => (some t237)) else (some false)))) else ((word_Binary.f a0 a1 a2).bind fun t238 => (if t238 = 0 then ((fullinglaw1_WordExamples.f k).bind fun t239 => (some t239)) else (some false)))) else (if a0 ≥ 4 then (if a0 = 21 then (if a0 ≤ 19 then ((fullinglaw1_WordExamples.f k).bind fun t240 => (some t240)) else ((word_Binary.f a0 a1 a2).bind fun t241 => (if t241 = 0 then ((fullinglaw1_WordExamples.f k).bind fun t242 => (some t242)) else (some false)))) else ((word_Unary.f a0 a1).bind fun t243 => (if t243 = 0 then (if a0 ≤ 19 then ((fullinglaw1_WordExamples.f k).bind fun t244 => (some t244)) else ((word_Binary.f a0 a1 a2).bind fun t245 => (if t245 = 0 then ((fullinglaw1_WordExamples.f k).bind fun t246 => (some t246)) else (some false)))) else (some false)))) else (if a0 = 21 then ((word_Binary.f a0 a1 a2).bind fun t247 => (if t247 = 0 then ((fullinglaw1_WordExamples.f k).bind fun t248 => (some t248)) else (some false))) else ((word_Unary.f a0 a1).bind fun t249 => (if t249 = 0 then ((word_Binary.f a0 a1 a2).bind fun t250 => (if t250 = 0 then ((fullinglaw1_WordExamples.f k).bind fun t251 => (some t251)) else (some false))) else (some false)))))
theorem fullinglaw1_WordUndefined.mono : ∀ a0 a1 a2 k, LeO (fullinglaw1_WordUndefined.f k a0 a1 a2) (fullinglaw1_WordUndefined.f (k + 1) a0 a1 a2) := by
  intro a0 a1 a2 k
  unfold fullinglaw1_WordUndefined.f
  repeat' first
      | (with_reducible exact fullinglaw1_WordExamples.mono _)
      | (with_reducible exact LeO.refl _)
      | (with_reducible exact LeO.none _)
      | (with_reducible refine LeO.ite ?_ ?_)
      | (with_reducible refine LeO.bind ?_ (fun _ => ?_))
      | exact fullinglaw1_WordExamples.mono _
      | exact LeO.none _
      | refine LeO.ite ?_ ?_
      | refine LeO.bind ?_ (fun _ => ?_)
set_option maxHeartbeats 8000000 in
set_option maxRecDepth 100000 in
theorem fullinglaw1_WordUndefined.calls (k : Nat) (a0 : Int) (a1 : Int) (a2 : Int) (r : Bool) (w : World) (h : fullinglaw1_WordUndefined.f k a0 a1 a2 = some r) :
    Calls Try.prog 12 #[.int .i64 a0, .int .i64 a1, .int .i64 a2] w fun e w' => e = .returned (.bool r) ∧ Below w.heap.size w w' := by
  have HB := Aside0.mk (Below.refl w.heap.size w)
  have H : (if a0 = 20 then (if a0 ≥ 4 then (if a0 ≤ 19 then ((fullinglaw1_WordExamples.f k).bind fun t235 => (some t235)) else ((word_Binary.f a0 a1 a2).bind fun t236 => (if t236 = 0 then ((fullinglaw1_WordExamples.f k).bind fun t237 => (some t237)) else (some false)))) else ((word_Binary.f a0 a1 a2).bind fun t238 => (if t238 = 0 then ((fullinglaw1_WordExamples.f k).bind fun t239 => (some t239)) else (some false)))) else (if a0 ≥ 4 then (if a0 = 21 then (if a0 ≤ 19 then ((fullinglaw1_WordExamples.f k).bind fun t240 => (some t240)) else ((word_Binary.f a0 a1 a2).bind fun t241 => (if t241 = 0 then ((fullinglaw1_WordExamples.f k).bind fun t242 => (some t242)) else (some false)))) else ((word_Unary.f a0 a1).bind fun t243 => (if t243 = 0 then (if a0 ≤ 19 then ((fullinglaw1_WordExamples.f k).bind fun t244 => (some t244)) else ((word_Binary.f a0 a1 a2).bind fun t245 => (if t245 = 0 then ((fullinglaw1_WordExamples.f k).bind fun t246 => (some t246)) else (some false)))) else (some false)))) else (if a0 = 21 then ((word_Binary.f a0 a1 a2).bind fun t247 => (if t247 = 0 then ((fullinglaw1_WordExamples.f k).bind fun t248 => (some t248)) else (some false))) else ((word_Unary.f a0 a1).bind fun t249 => (if t249 = 0 then ((word_Binary.f a0 a1 a2).bind fun t250 => (if t250 = 0 then ((fullinglaw1_WordExamples.f k).bind fun t251 => (some t251)) else (some false))) else (some false)))))) = some r := h
  clear h
  by_cases c4 : a0 = 20
  · rw [if_pos c4] at H
    have c4b0 : (a0 == 20) = true := beq_iff_eq.mpr c4
    have c4b1 : (a0 != 20) = false := bne_eq_false_iff_eq.mpr c4
    clear c4
    by_cases c5 : a0 ≥ 4
    · rw [if_pos c5] at H
      have c5b0 : decide (4 ≤ a0) = true := decide_eq_true c5
      clear c5
      by_cases c6 : a0 ≤ 19
      · rw [if_pos c6] at H
        have c6b0 : decide (a0 ≤ 19) = true := decide_eq_true c6
        clear c6
        replace H := Option.bind_eq_some_iff.mp H
        obtain ⟨t235, A70, H⟩ := H
        replace H : (some t235) = some r := H
        have A7 := Aside0.mk A70
        clear A70
        obtain rfl := Option.some.inj H
        go_enter Try.func12, Try.ntmps12
        go_wp2_with (first | (go_at_call 3; (with_reducible refine (fullinglaw1_WordExamples.calls k  t235 _ A7.out).mono ?_); rintro e w8 ⟨rfl, hb⟩; have n0_ := Aside0.mk (below_step (by repeat (first | (with_reducible first | exact HB.out | apply below_alloc | apply pw_below_drewN | apply below_drew1) | exact HB.out)) hb); clear HB; have HB := n0_; clear n0_; (try clear hb); (try clear hb2); (try clear hk); (try clear hi)))
        go_ret
        exact ⟨by first | rfl | (simp [errW_none, errW_some] <;> rfl) | (simp [*, errW_none, errW_some] <;> rfl), by repeat (first | (with_reducible first | exact HB.out | apply below_alloc | apply pw_below_drewN | apply below_drew1) | exact HB.out)⟩
      · rw [if_neg c6] at H
        have c6b0 : decide (a0 ≤ 19) = false := decide_eq_false c6
        clear c6
        replace H := Option.bind_eq_some_iff.mp H
        obtain ⟨t236, A90, H⟩ := H
        replace H : (if t236 = 0 then ((fullinglaw1_WordExamples.f k).bind fun t237 => (some t237)) else (some false)) = some r := H
        have A9 := Aside0.mk A90
        clear A90
        by_cases c10 : t236 = 0
        · rw [if_pos c10] at H
          have c10b0 : (t236 == 0) = true := beq_iff_eq.mpr c10
          have c10b1 : (t236 != 0) = false := bne_eq_false_iff_eq.mpr c10
          clear c10
          replace H := Option.bind_eq_some_iff.mp H
          obtain ⟨t237, A110, H⟩ := H
          replace H : (some t237) = some r := H
          have A11 := Aside0.mk A110
          clear A110
          obtain rfl := Option.some.inj H
          go_enter Try.func12, Try.ntmps12
          go_wp2_with (first | (go_at_call 14; (with_reducible refine (word_Binary.calls a0 a1 a2 t236 _ A9.out).mono ?_); rintro e w' ⟨rfl, ⟨nd, rfl⟩⟩) | (go_at_call 3; (with_reducible refine (fullinglaw1_WordExamples.calls k  t237 _ A11.out).mono ?_); rintro e w12 ⟨rfl, hb⟩; have n0_ := Aside0.mk (below_step (by repeat (first | (with_reducible first | exact HB.out | apply below_alloc | apply pw_below_drewN | apply below_drew1) | exact HB.out)) hb); clear HB; have HB := n0_; clear n0_; (try clear hb); (try clear hb2); (try clear hk); (try clear hi)))
          go_ret
          exact ⟨by first | rfl | (simp [errW_none, errW_some] <;> rfl) | (simp [*, errW_none, errW_some] <;> rfl), by repeat (first | (with_reducible first | exact HB.out | apply below_alloc | apply pw_below_drewN | apply below_drew1) | exact HB.out)⟩
        · rw [if_neg c10] at H
          have c10b0 : (t236 == 0) = false := beq_eq_false_iff_ne.mpr c10
          have c10b1 : (t236 != 0) = true := bne_iff_ne.mpr c10
          obtain rfl := Option.some.inj H
          go_enter Try.func12, Try.ntmps12
          go_wp2_with (first | (go_at_call 14; (with_reducible refine (word_Binary.calls a0 a1 a2 t236 _ A9.out).mono ?_); rintro e w' ⟨rfl, ⟨nd, rfl⟩⟩))
          go_ret
          exact ⟨by first | rfl | (simp [errW_none, errW_some] <;> rfl) | (simp [*, errW_none, errW_some] <;> rfl), by repeat (first | (with_reducible first | exact HB.out | apply below_alloc | apply pw_below_drewN | apply below_drew1) | exact HB.out)⟩
    · rw [if_neg c5] at H
      have c5b0 : decide (4 ≤ a0) = false := decide_eq_false c5
      clear c5
      replace H := Option.bind_eq_some_iff.mp H
      obtain ⟨t238, A130, H⟩ := H
      replace H : (if t238 = 0 then ((fullinglaw1_WordExamples.f k).bind fun t239 => (some t239)) else (some false)) = some r := H
      have A13 := Aside0.mk A130
      clear A130
      by_cases c14 : t238 = 0
      · rw [if_pos c14] at H
        have c14b0 : (t238 == 0) = true := beq_iff_eq.mpr c14
        have c14b1 : (t238 != 0) = false := bne_eq_false_iff_eq.mpr c14
        clear c14
        replace H := Option.bind_eq_some_iff.mp H
        obtain ⟨t239, A150, H⟩ := H
        replace H : (some t239) = some r := H
        have A15 := Aside0.mk A150
        clear A150
        obtain rfl := Option.some.inj H
        go_enter Try.func12, Try.ntmps12
        go_wp2_with (first | (go_at_call 14; (with_reducible refine (word_Binary.calls a0 a1 a2 t238 _ A13.out).mono ?_); rintro e w' ⟨rfl, ⟨nd, rfl⟩⟩) | (go_at_call 3; (with_reducible refine (fullinglaw1_WordExamples.calls k  t239 _ A15.out).mono ?_); rintro e w16 ⟨rfl, hb⟩; have n0_ := Aside0.mk (below_step (by repeat (first | (with_reducible first | exact HB.out | apply below_alloc | apply pw_below_drewN | apply below_drew1) | exact HB.out)) hb); clear HB; have HB := n0_; clear n0_; (try clear hb); (try clear hb2); (try clear hk); (try clear hi)))
        go_ret
        exact ⟨by first | rfl | (simp [errW_none, errW_some] <;> rfl) | (simp [*, errW_none, errW_some] <;> rfl), by repeat (first | (with_reducible first | exact HB.out | apply below_alloc | apply pw_below_drewN | apply below_drew1) | exact HB.out)⟩
      · rw [if_neg c14] at H
        have c14b0 : (t238 == 0) = false := beq_eq_false_iff_ne.mpr c14
        have c14b1 : (t238 != 0) = true := bne_iff_ne.mpr c14
        obtain rfl := Option.some.inj H
        go_enter Try.func12, Try.ntmps12
        go_wp2_with (first | (go_at_call 14; (with_reducible refine (word_Binary.calls a0 a1 a2 t238 _ A13.out).mono ?_); rintro e w' ⟨rfl, ⟨nd, rfl⟩⟩))
        go_ret
        exact ⟨by first | rfl | (simp [errW_none, errW_some] <;> rfl) | (simp [*, errW_none, errW_some] <;> rfl), by repeat (first | (with_reducible first | exact HB.out | apply below_alloc | apply pw_below_drewN | apply below_drew1) | exact HB.out)⟩
  · rw [if_neg c4] at H
    have c4b0 : (a0 == 20) = false := beq_eq_false_iff_ne.mpr c4
    have c4b1 : (a0 != 20) = true := bne_iff_ne.mpr c4
    by_cases c17 : a0 ≥ 4
    · rw [if_pos c17] at H
      have c17b0 : decide (4 ≤ a0) = true := decide_eq_true c17
      clear c17
      by_cases c18 : a0 = 21
      · rw [if_pos c18] at H
        have c18b0 : (a0 == 21) = true := beq_iff_eq.mpr c18
        have c18b1 : (a0 != 21) = false := bne_eq_false_iff_eq.mpr c18
        clear c18
        by_cases c19 : a0 ≤ 19
        · rw [if_pos c19] at H
          have c19b0 : decide (a0 ≤ 19) = true := decide_eq_true c19
          clear c19
          replace H := Option.bind_eq_some_iff.mp H
          obtain ⟨t240, A200, H⟩ := H
          replace H : (some t240) = some r := H
          have A20 := Aside0.mk A200
          clear A200
          obtain rfl := Option.some.inj H
          go_enter Try.func12, Try.ntmps12
          go_wp2_with (first | (go_at_call 3; (with_reducible refine (fullinglaw1_WordExamples.calls k  t240 _ A20.out).mono ?_); rintro e w21 ⟨rfl, hb⟩; have n0_ := Aside0.mk (below_step (by repeat (first | (with_reducible first | exact HB.out | apply below_alloc | apply pw_below_drewN | apply below_drew1) | exact HB.out)) hb); clear HB; have HB := n0_; clear n0_; (try clear hb); (try clear hb2); (try clear hk); (try clear hi)))
          go_ret
          exact ⟨by first | rfl | (simp [errW_none, errW_some] <;> rfl) | (simp [*, errW_none, errW_some] <;> rfl), by repeat (first | (with_reducible first | exact HB.out | apply below_alloc | apply pw_below_drewN | apply below_drew1) | exact HB.out)⟩
        · rw [if_neg c19] at H
          have c19b0 : decide (a0 ≤ 19) = false := decide_eq_false c19
          clear c19
          replace H := Option.bind_eq_some_iff.mp H
          obtain ⟨t241, A220, H⟩ := H
          replace H : (if t241 = 0 then ((fullinglaw1_WordExamples.f k).bind fun t242 => (some t242)) else (some false)) = some r := H
          have A22 := Aside0.mk A220
          clear A220
          by_cases c23 : t241 = 0
          · rw [if_pos c23] at H
            have c23b0 : (t241 == 0) = true := beq_iff_eq.mpr c23
            have c23b1 : (t241 != 0) = false := bne_eq_false_iff_eq.mpr c23
            clear c23
            replace H := Option.bind_eq_some_iff.mp H
            obtain ⟨t242, A240, H⟩ := H
            replace H : (some t242) = some r := H
            have A24 := Aside0.mk A240
            clear A240
            obtain rfl := Option.some.inj H
            go_enter Try.func12, Try.ntmps12
            go_wp2_with (first | (go_at_call 14; (with_reducible refine (word_Binary.calls a0 a1 a2 t241 _ A22.out).mono ?_); rintro e w' ⟨rfl, ⟨nd, rfl⟩⟩) | (go_at_call 3; (with_reducible refine (fullinglaw1_WordExamples.calls k  t242 _ A24.out).mono ?_); rintro e w25 ⟨rfl, hb⟩; have n0_ := Aside0.mk (below_step (by repeat (first | (with_reducible first | exact HB.out | apply below_alloc | apply pw_below_drewN | apply below_drew1) | exact HB.out)) hb); clear HB; have HB := n0_; clear n0_; (try clear hb); (try clear hb2); (try clear hk); (try clear hi)))
            go_ret
            exact ⟨by first | rfl | (simp [errW_none, errW_some] <;> rfl) | (simp [*, errW_none, errW_some] <;> rfl), by repeat (first | (with_reducible first | exact HB.out | apply below_alloc | apply pw_below_drewN | apply below_drew1) | exact HB.out)⟩
          · rw [if_neg c23] at H
            have c23b0 : (t241 == 0) = false := beq_eq_false_iff_ne.mpr c23
            have c23b1 : (t241 != 0) = true := bne_iff_ne.mpr c23
            obtain rfl := Option.some.inj H
            go_enter Try.func12, Try.ntmps12
            go_wp2_with (first | (go_at_call 14; (with_reducible refine (word_Binary.calls a0 a1 a2 t241 _ A22.out).mono ?_); rintro e w' ⟨rfl, ⟨nd, rfl⟩⟩))
            go_ret
            exact ⟨by first | rfl | (simp [errW_none, errW_some] <;> rfl) | (simp [*, errW_none, errW_some] <;> rfl), by repeat (first | (with_reducible first | exact HB.out | apply below_alloc | apply pw_below_drewN | apply below_drew1) | exact HB.out)⟩
      · rw [if_neg c18] at H
        have c18b0 : (a0 == 21) = false := beq_eq_false_iff_ne.mpr c18
        have c18b1 : (a0 != 21) = true := bne_iff_ne.mpr c18
        replace H := Option.bind_eq_some_iff.mp H
        obtain ⟨t243, A260, H⟩ := H
        replace H : (if t243 = 0 then (if a0 ≤ 19 then ((fullinglaw1_WordExamples.f k).bind fun t244 => (some t244)) else ((word_Binary.f a0 a1 a2).bind fun t245 => (if t245 = 0 then ((fullinglaw1_WordExamples.f k).bind fun t246 => (some t246)) else (some false)))) else (some false)) = some r := H
        have A26 := Aside0.mk A260
        clear A260
        by_cases c27 : t243 = 0
        · rw [if_pos c27] at H
          have c27b0 : (t243 == 0) = true := beq_iff_eq.mpr c27
          have c27b1 : (t243 != 0) = false := bne_eq_false_iff_eq.mpr c27
          clear c27
          by_cases c28 : a0 ≤ 19
          · rw [if_pos c28] at H
            have c28b0 : decide (a0 ≤ 19) = true := decide_eq_true c28
            clear c28
            replace H := Option.bind_eq_some_iff.mp H
            obtain ⟨t244, A290, H⟩ := H
            replace H : (some t244) = some r := H
            have A29 := Aside0.mk A290
            clear A290
            obtain rfl := Option.some.inj H
            go_enter Try.func12, Try.ntmps12
            go_wp2_with (first | (go_at_call 18; (with_reducible refine (word_Unary.calls a0 a1 t243 _ A26.out).mono ?_); rintro e w' ⟨rfl, ⟨nd, rfl⟩⟩) | (go_at_call 3; (with_reducible refine (fullinglaw1_WordExamples.calls k  t244 _ A29.out).mono ?_); rintro e w30 ⟨rfl, hb⟩; have n0_ := Aside0.mk (below_step (by repeat (first | (with_reducible first | exact HB.out | apply below_alloc | apply pw_below_drewN | apply below_drew1) | exact HB.out)) hb); clear HB; have HB := n0_; clear n0_; (try clear hb); (try clear hb2); (try clear hk); (try clear hi)))
            go_ret
            exact ⟨by first | rfl | (simp [errW_none, errW_some] <;> rfl) | (simp [*, errW_none, errW_some] <;> rfl), by repeat (first | (with_reducible first | exact HB.out | apply below_alloc | apply pw_below_drewN | apply below_drew1) | exact HB.out)⟩
          · rw [if_neg c28] at H
            have c28b0 : decide (a0 ≤ 19) = false := decide_eq_false c28
            clear c28
            replace H := Option.bind_eq_some_iff.mp H
            obtain ⟨t245, A310, H⟩ := H
            replace H : (if t245 = 0 then ((fullinglaw1_WordExamples.f k).bind fun t246 => (some t246)) else (some false)) = some r := H
            have A31 := Aside0.mk A310
            clear A310
            by_cases c32 : t245 = 0
            · rw [if_pos c32] at H
              have c32b0 : (t245 == 0) = true := beq_iff_eq.mpr c32
              have c32b1 : (t245 != 0) = false := bne_eq_false_iff_eq.mpr c32
              clear c32
              replace H := Option.bind_eq_some_iff.mp H
              obtain ⟨t246, A330, H⟩ := H
              replace H : (some t246) = some r := H
              have A33 := Aside0.mk A330
              clear A330
              obtain rfl := Option.some.inj H
              go_enter Try.func12, Try.ntmps12
              go_wp2_with (first | (go_at_call 18; (with_reducible refine (word_Unary.calls a0 a1 t243 _ A26.out).mono ?_); rintro e w' ⟨rfl, ⟨nd, rfl⟩⟩) | (go_at_call 14; (with_reducible refine (word_Binary.calls a0 a1 a2 t245 _ A31.out).mono ?_); rintro e w' ⟨rfl, ⟨nd, rfl⟩⟩) | (go_at_call 3; (with_reducible refine (fullinglaw1_WordExamples.calls k  t246 _ A33.out).mono ?_); rintro e w34 ⟨rfl, hb⟩; have n0_ := Aside0.mk (below_step (by repeat (first | (with_reducible first | exact HB.out | apply below_alloc | apply pw_below_drewN | apply below_drew1) | exact HB.out)) hb); clear HB; have HB := n0_; clear n0_; (try clear hb); (try clear hb2); (try clear hk); (try clear hi)))
              go_ret
              exact ⟨by first | rfl | (simp [errW_none, errW_some] <;> rfl) | (simp [*, errW_none, errW_some] <;> rfl), by repeat (first | (with_reducible first | exact HB.out | apply below_alloc | apply pw_below_drewN | apply below_drew1) | exact HB.out)⟩
            · rw [if_neg c32] at H
              have c32b0 : (t245 == 0) = false := beq_eq_false_iff_ne.mpr c32
              have c32b1 : (t245 != 0) = true := bne_iff_ne.mpr c32
              obtain rfl := Option.some.inj H
              go_enter Try.func12, Try.ntmps12
              go_wp2_with (first | (go_at_call 18; (with_reducible refine (word_Unary.calls a0 a1 t243 _ A26.out).mono ?_); rintro e w' ⟨rfl, ⟨nd, rfl⟩⟩) | (go_at_call 14; (with_reducible refine (word_Binary.calls a0 a1 a2 t245 _ A31.out).mono ?_); rintro e w' ⟨rfl, ⟨nd, rfl⟩⟩))
              go_ret
              exact ⟨by first | rfl | (simp [errW_none, errW_some] <;> rfl) | (simp [*, errW_none, errW_some] <;> rfl), by repeat (first | (with_reducible first | exact HB.out | apply below_alloc | apply pw_below_drewN | apply below_drew1) | exact HB.out)⟩
        · rw [if_neg c27] at H
          have c27b0 : (t243 == 0) = false := beq_eq_false_iff_ne.mpr c27
          have c27b1 : (t243 != 0) = true := bne_iff_ne.mpr c27
          obtain rfl := Option.some.inj H
          go_enter Try.func12, Try.ntmps12
          go_wp2_with (first | (go_at_call 18; (with_reducible refine (word_Unary.calls a0 a1 t243 _ A26.out).mono ?_); rintro e w' ⟨rfl, ⟨nd, rfl⟩⟩))
          go_ret
          exact ⟨by first | rfl | (simp [errW_none, errW_some] <;> rfl) | (simp [*, errW_none, errW_some] <;> rfl), by repeat (first | (with_reducible first | exact HB.out | apply below_alloc | apply pw_below_drewN | apply below_drew1) | exact HB.out)⟩
    · rw [if_neg c17] at H
      have c17b0 : decide (4 ≤ a0) = false := decide_eq_false c17
      clear c17
      by_cases c35 : a0 = 21
      · rw [if_pos c35] at H
        have c35b0 : (a0 == 21) = true := beq_iff_eq.mpr c35
        have c35b1 : (a0 != 21) = false := bne_eq_false_iff_eq.mpr c35
        clear c35
        replace H := Option.bind_eq_some_iff.mp H
        obtain ⟨t247, A360, H⟩ := H
        replace H : (if t247 = 0 then ((fullinglaw1_WordExamples.f k).bind fun t248 => (some t248)) else (some false)) = some r := H
        have A36 := Aside0.mk A360
        clear A360
        by_cases c37 : t247 = 0
        · rw [if_pos c37] at H
          have c37b0 : (t247 == 0) = true := beq_iff_eq.mpr c37
          have c37b1 : (t247 != 0) = false := bne_eq_false_iff_eq.mpr c37
          clear c37
          replace H := Option.bind_eq_some_iff.mp H
          obtain ⟨t248, A380, H⟩ := H
          replace H : (some t248) = some r := H
          have A38 := Aside0.mk A380
          clear A380
          obtain rfl := Option.some.inj H
          go_enter Try.func12, Try.ntmps12
          go_wp2_with (first | (go_at_call 14; (with_reducible refine (word_Binary.calls a0 a1 a2 t247 _ A36.out).mono ?_); rintro e w' ⟨rfl, ⟨nd, rfl⟩⟩) | (go_at_call 3; (with_reducible refine (fullinglaw1_WordExamples.calls k  t248 _ A38.out).mono ?_); rintro e w39 ⟨rfl, hb⟩; have n0_ := Aside0.mk (below_step (by repeat (first | (with_reducible first | exact HB.out | apply below_alloc | apply pw_below_drewN | apply below_drew1) | exact HB.out)) hb); clear HB; have HB := n0_; clear n0_; (try clear hb); (try clear hb2); (try clear hk); (try clear hi)))
          go_ret
          exact ⟨by first | rfl | (simp [errW_none, errW_some] <;> rfl) | (simp [*, errW_none, errW_some] <;> rfl), by repeat (first | (with_reducible first | exact HB.out | apply below_alloc | apply pw_below_drewN | apply below_drew1) | exact HB.out)⟩
        · rw [if_neg c37] at H
          have c37b0 : (t247 == 0) = false := beq_eq_false_iff_ne.mpr c37
          have c37b1 : (t247 != 0) = true := bne_iff_ne.mpr c37
          obtain rfl := Option.some.inj H
          go_enter Try.func12, Try.ntmps12
          go_wp2_with (first | (go_at_call 14; (with_reducible refine (word_Binary.calls a0 a1 a2 t247 _ A36.out).mono ?_); rintro e w' ⟨rfl, ⟨nd, rfl⟩⟩))
          go_ret
          exact ⟨by first | rfl | (simp [errW_none, errW_some] <;> rfl) | (simp [*, errW_none, errW_some] <;> rfl), by repeat (first | (with_reducible first | exact HB.out | apply below_alloc | apply pw_below_drewN | apply below_drew1) | exact HB.out)⟩
      · rw [if_neg c35] at H
        have c35b0 : (a0 == 21) = false := beq_eq_false_iff_ne.mpr c35
        have c35b1 : (a0 != 21) = true := bne_iff_ne.mpr c35
        replace H := Option.bind_eq_some_iff.mp H
        obtain ⟨t249, A400, H⟩ := H
        replace H : (if t249 = 0 then ((word_Binary.f a0 a1 a2).bind fun t250 => (if t250 = 0 then ((fullinglaw1_WordExamples.f k).bind fun t251 => (some t251)) else (some false))) else (some false)) = some r := H
        have A40 := Aside0.mk A400
        clear A400
        by_cases c41 : t249 = 0
        · rw [if_pos c41] at H
          have c41b0 : (t249 == 0) = true := beq_iff_eq.mpr c41
          have c41b1 : (t249 != 0) = false := bne_eq_false_iff_eq.mpr c41
          clear c41
          replace H := Option.bind_eq_some_iff.mp H
          obtain ⟨t250, A420, H⟩ := H
          replace H : (if t250 = 0 then ((fullinglaw1_WordExamples.f k).bind fun t251 => (some t251)) else (some false)) = some r := H
          have A42 := Aside0.mk A420
          clear A420
          by_cases c43 : t250 = 0
          · rw [if_pos c43] at H
            have c43b0 : (t250 == 0) = true := beq_iff_eq.mpr c43
            have c43b1 : (t250 != 0) = false := bne_eq_false_iff_eq.mpr c43
            clear c43
            replace H := Option.bind_eq_some_iff.mp H
            obtain ⟨t251, A440, H⟩ := H
            replace H : (some t251) = some r := H
            have A44 := Aside0.mk A440
            clear A440
            obtain rfl := Option.some.inj H
            go_enter Try.func12, Try.ntmps12
            go_wp2_with (first | (go_at_call 18; (with_reducible refine (word_Unary.calls a0 a1 t249 _ A40.out).mono ?_); rintro e w' ⟨rfl, ⟨nd, rfl⟩⟩) | (go_at_call 14; (with_reducible refine (word_Binary.calls a0 a1 a2 t250 _ A42.out).mono ?_); rintro e w' ⟨rfl, ⟨nd, rfl⟩⟩) | (go_at_call 3; (with_reducible refine (fullinglaw1_WordExamples.calls k  t251 _ A44.out).mono ?_); rintro e w45 ⟨rfl, hb⟩; have n0_ := Aside0.mk (below_step (by repeat (first | (with_reducible first | exact HB.out | apply below_alloc | apply pw_below_drewN | apply below_drew1) | exact HB.out)) hb); clear HB; have HB := n0_; clear n0_; (try clear hb); (try clear hb2); (try clear hk); (try clear hi)))
            go_ret
            exact ⟨by first | rfl | (simp [errW_none, errW_some] <;> rfl) | (simp [*, errW_none, errW_some] <;> rfl), by repeat (first | (with_reducible first | exact HB.out | apply below_alloc | apply pw_below_drewN | apply below_drew1) | exact HB.out)⟩
          · rw [if_neg c43] at H
            have c43b0 : (t250 == 0) = false := beq_eq_false_iff_ne.mpr c43
            have c43b1 : (t250 != 0) = true := bne_iff_ne.mpr c43
            obtain rfl := Option.some.inj H
            go_enter Try.func12, Try.ntmps12
            go_wp2_with (first | (go_at_call 18; (with_reducible refine (word_Unary.calls a0 a1 t249 _ A40.out).mono ?_); rintro e w' ⟨rfl, ⟨nd, rfl⟩⟩) | (go_at_call 14; (with_reducible refine (word_Binary.calls a0 a1 a2 t250 _ A42.out).mono ?_); rintro e w' ⟨rfl, ⟨nd, rfl⟩⟩))
            go_ret
            exact ⟨by first | rfl | (simp [errW_none, errW_some] <;> rfl) | (simp [*, errW_none, errW_some] <;> rfl), by repeat (first | (with_reducible first | exact HB.out | apply below_alloc | apply pw_below_drewN | apply below_drew1) | exact HB.out)⟩
        · rw [if_neg c41] at H
          have c41b0 : (t249 == 0) = false := beq_eq_false_iff_ne.mpr c41
          have c41b1 : (t249 != 0) = true := bne_iff_ne.mpr c41
          obtain rfl := Option.some.inj H
          go_enter Try.func12, Try.ntmps12
          go_wp2_with (first | (go_at_call 18; (with_reducible refine (word_Unary.calls a0 a1 t249 _ A40.out).mono ?_); rintro e w' ⟨rfl, ⟨nd, rfl⟩⟩))
          go_ret
          exact ⟨by first | rfl | (simp [errW_none, errW_some] <;> rfl) | (simp [*, errW_none, errW_some] <;> rfl), by repeat (first | (with_reducible first | exact HB.out | apply below_alloc | apply pw_below_drewN | apply below_drew1) | exact HB.out)⟩

/-- THE ONE PURE STATEMENT of fullinglaw1_WordUndefined: yours. -/
def fullinglaw1_WordUndefined.Pure : Prop := ∀ (a0 : Int) (a1 : Int) (a2 : Int), (Lit.int .i64 a0).wf = true → (Lit.int .i64 a1).wf = true → (Lit.int .i64 a2).wf = true → ∃ k, fullinglaw1_WordUndefined.f k a0 a1 a2 = some true
theorem fullinglaw1_WordUndefined.walk (P : fullinglaw1_WordUndefined.Pure) (a0 : Int) (a1 : Int) (a2 : Int) (w : World) (w0 : (Lit.int .i64 a0).wf = true) (w1 : (Lit.int .i64 a1).wf = true) (w2 : (Lit.int .i64 a2).wf = true) :
    Calls Try.prog 12 #[.int .i64 a0, .int .i64 a1, .int .i64 a2] w fun e w' => e = .returned (.bool true) ∧ Below w.heap.size w w' := by
  obtain ⟨k, h⟩ := P a0 a1 a2 w0 w1 w2
  refine (fullinglaw1_WordUndefined.calls k a0 a1 a2 true w h).mono ?_
  rintro e w' ⟨rfl, hd⟩
  exact ⟨rfl, hd⟩

end Go.Proofs.Ytlilbddpelbngaa.PAll
