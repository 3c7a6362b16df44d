/- One part of this proof, by a program of this session (turned from the kit printer): what Go functions answer, as plain Lean functions, with the proof that the calls answer so. -/
import Derived.Test.YtlilbddpelbngaaPAllx0
import Derived.Test.YtlilbddpelbngaaPAllx1
import Derived.Test.YtlilbddpelbngaaPAllx2
namespace Go.Proofs.Ytlilbddpelbngaa.PAll
open Go.RowKit Go.Proofs.YtlilbddpelbngaaW.PrintWords Go.Proofs.YtlilbddpelbngaaW.PrintLast Go.Proofs.YtlilbddpelbngaaW.PrintMore
attribute [local go_sem] max2_int min2_int max_two min_two max_three min_three max_four min_four   -- for this text's walks alone
set_option linter.unusedVariables false
set_option linter.unusedSimpArgs false

/-! ### fullinglaw1_WordRoundTrip: function 7 -/
def fullinglaw1_WordRoundTrip.f (k : Nat) (a0 : Int) (a1 : Int) (a2 : Int) (a3 : Int) : Option (Bool) := (fullingkeep_Word.f a0 a2).bind fun t145 => ((fullingkeep_Word.f a1 a3).bind fun t146 => ((word_Text.f t145).bind fun t147 => ((word_Parse.f k t147).bind fun bt148 => (if bt148.2 = true then (if bt148.1 = t145 then ((word_Text.f t145).bind fun t150 => ((word_Text.f t146).bind fun t151 => (if ((t150.toList == t151.toList) == (t145 == t146)) = true then ((fullinglaw1_WordExamples.f k).bind fun t152 => (some t152)) else (some false)))) else (some false)) else (some false)))))
theorem fullinglaw1_WordRoundTrip.mono : ∀ a0 a1 a2 a3 k, LeO (fullinglaw1_WordRoundTrip.f k a0 a1 a2 a3) (fullinglaw1_WordRoundTrip.f (k + 1) a0 a1 a2 a3) := by
  intro a0 a1 a2 a3 k
  unfold fullinglaw1_WordRoundTrip.f
  repeat' first
      | (with_reducible exact fullinglaw1_WordExamples.mono _)
      | (with_reducible exact word_Parse.mono _ _)
      | (with_reducible exact LeO.refl _)
      | (with_reducible exact LeO.none _)
      | (with_reducible refine LeO.ite ?_ ?_)
      | (with_reducible refine LeO.bind ?_ (fun _ => ?_))
      | exact fullinglaw1_WordExamples.mono _
      | exact word_Parse.mono _ _
      | exact LeO.none _
      | refine LeO.ite ?_ ?_
      | refine LeO.bind ?_ (fun _ => ?_)
set_option maxHeartbeats 8000000 in
set_option maxRecDepth 100000 in
theorem fullinglaw1_WordRoundTrip.calls (k : Nat) (a0 : Int) (a1 : Int) (a2 : Int) (a3 : Int) (r : Bool) (w : World) (h : fullinglaw1_WordRoundTrip.f k a0 a1 a2 a3 = some r) :
    Calls Try.prog 7 #[.int .i64 a0, .int .i64 a1, .int .i64 a2, .int .i64 a3] w fun e w' => e = .returned (.bool r) ∧ Below w.heap.size w w' := by
  have HB := Aside0.mk (Below.refl w.heap.size w)
  have H : ((fullingkeep_Word.f a0 a2).bind fun t145 => ((fullingkeep_Word.f a1 a3).bind fun t146 => ((word_Text.f t145).bind fun t147 => ((word_Parse.f k t147).bind fun bt148 => (if bt148.2 = true then (if bt148.1 = t145 then ((word_Text.f t145).bind fun t150 => ((word_Text.f t146).bind fun t151 => (if ((t150.toList == t151.toList) == (t145 == t146)) = true then ((fullinglaw1_WordExamples.f k).bind fun t152 => (some t152)) else (some false)))) else (some false)) else (some false)))))) = some r := h
  clear h
  replace H := Option.bind_eq_some_iff.mp H
  obtain ⟨t145, A50, H⟩ := H
  replace H : ((fullingkeep_Word.f a1 a3).bind fun t146 => ((word_Text.f t145).bind fun t147 => ((word_Parse.f k t147).bind fun bt148 => (if bt148.2 = true then (if bt148.1 = t145 then ((word_Text.f t145).bind fun t150 => ((word_Text.f t146).bind fun t151 => (if ((t150.toList == t151.toList) == (t145 == t146)) = true then ((fullinglaw1_WordExamples.f k).bind fun t152 => (some t152)) else (some false)))) else (some false)) else (some false))))) = some r := H
  have A5 := Aside0.mk A50
  clear A50
  replace H := Option.bind_eq_some_iff.mp H
  obtain ⟨t146, A60, H⟩ := H
  replace H : ((word_Text.f t145).bind fun t147 => ((word_Parse.f k t147).bind fun bt148 => (if bt148.2 = true then (if bt148.1 = t145 then ((word_Text.f t145).bind fun t150 => ((word_Text.f t146).bind fun t151 => (if ((t150.toList == t151.toList) == (t145 == t146)) = true then ((fullinglaw1_WordExamples.f k).bind fun t152 => (some t152)) else (some false)))) else (some false)) else (some false)))) = some r := H
  have A6 := Aside0.mk A60
  clear A60
  replace H := Option.bind_eq_some_iff.mp H
  obtain ⟨t147, A70, H⟩ := H
  replace H : ((word_Parse.f k t147).bind fun bt148 => (if bt148.2 = true then (if bt148.1 = t145 then ((word_Text.f t145).bind fun t150 => ((word_Text.f t146).bind fun t151 => (if ((t150.toList == t151.toList) == (t145 == t146)) = true then ((fullinglaw1_WordExamples.f k).bind fun t152 => (some t152)) else (some false)))) else (some false)) else (some false))) = some r := H
  have A7 := Aside0.mk A70
  clear A70
  replace H := Option.bind_eq_some_iff.mp H
  obtain ⟨⟨t148, t149⟩, A80, H⟩ := H
  replace H : (if t149 = true then (if t148 = t145 then ((word_Text.f t145).bind fun t150 => ((word_Text.f t146).bind fun t151 => (if ((t150.toList == t151.toList) == (t145 == t146)) = true then ((fullinglaw1_WordExamples.f k).bind fun t152 => (some t152)) else (some false)))) else (some false)) else (some false)) = some r := H
  have A8 := Aside0.mk A80
  clear A80
  by_cases c9 : t149 = true
  · subst c9
    have H1 : (if t148 = t145 then ((word_Text.f t145).bind fun t150 => ((word_Text.f t146).bind fun t151 => (if ((t150.toList == t151.toList) == (t145 == t146)) = true then ((fullinglaw1_WordExamples.f k).bind fun t152 => (some t152)) else (some false)))) else (some false)) = some r := by rw [if_pos rfl] at H; exact H
    clear H
    have H := H1
    clear H1
    by_cases c10 : t148 = t145
    · rw [if_pos c10] at H
      have c10b0 : (t148 == t145) = true := beq_iff_eq.mpr c10
      have c10b1 : (t148 != t145) = false := bne_eq_false_iff_eq.mpr c10
      clear c10
      replace H := Option.bind_eq_some_iff.mp H
      obtain ⟨t150, A110, H⟩ := H
      replace H : ((word_Text.f t146).bind fun t151 => (if ((t150.toList == t151.toList) == (t145 == t146)) = true then ((fullinglaw1_WordExamples.f k).bind fun t152 => (some t152)) else (some false))) = some r := H
      have A11 := Aside0.mk A110
      clear A110
      replace H := Option.bind_eq_some_iff.mp H
      obtain ⟨t151, A120, H⟩ := H
      replace H : (if ((t150.toList == t151.toList) == (t145 == t146)) = true then ((fullinglaw1_WordExamples.f k).bind fun t152 => (some t152)) else (some false)) = some r := H
      have A12 := Aside0.mk A120
      clear A120
      by_cases c13 : ((t150.toList == t151.toList) == (t145 == t146)) = true
      · rw [if_pos c13] at H
        have c13b0 : ((t150.toList == t151.toList) == (t145 == t146)) = true := c13
        (try (have c13b1 : decide ((t150.toList == t151.toList) = (t145 == t146)) = true := by simpa using c13))
        (try (have c13b2 : ((t150.toList == t151.toList) == (t145 == t146)) = true := by simpa using c13))
        clear c13
        replace H := Option.bind_eq_some_iff.mp H
        obtain ⟨t152, A140, H⟩ := H
        replace H : (some t152) = some r := H
        have A14 := Aside0.mk A140
        clear A140
        obtain rfl := Option.some.inj H
        go_enter Try.func7, Try.ntmps7
        go_wp2_with (first | ((with_reducible refine gate_callee (f := 16) rfl ?_); refine goesL_ (some 15) rfl rfl Try.func16 (by kernel_rfl) rfl #[.int .i64 a0, .int .i64 a2] rfl (by (try simp only [List.map_toArray, List.map_cons, List.map_nil]); first | done | rfl | (simp only [List.length_drop, List.length_take]; rfl)) ?_; (with_reducible refine (fullingkeep_Word.calls a0 a2 t145 _ A5.out).mono ?_); rintro e w15 ⟨rfl, hb⟩; refine ⟨_, rfl, ?_⟩; have n0_ := Aside0.mk (below_step (by repeat (first | (with_reducible first | exact HB.out | apply below_alloc | apply pw_below_drewN | apply below_drew1) | exact HB.out)) hb); clear HB; have HB := n0_; clear n0_; (try clear hb); (try clear hb2); (try clear hk); (try clear hi)) | ((with_reducible refine gate_callee (f := 16) rfl ?_); refine goesL_ (some 18) rfl rfl Try.func16 (by kernel_rfl) rfl #[.int .i64 a1, .int .i64 a3] rfl (by (try simp only [List.map_toArray, List.map_cons, List.map_nil]); first | done | rfl | (simp only [List.length_drop, List.length_take]; rfl)) ?_; (with_reducible refine (fullingkeep_Word.calls a1 a3 t146 _ A6.out).mono ?_); rintro e w16 ⟨rfl, hb⟩; refine ⟨_, rfl, ?_⟩; have n0_ := Aside0.mk (below_step (by repeat (first | (with_reducible first | exact HB.out | apply below_alloc | apply pw_below_drewN | apply below_drew1) | exact HB.out)) hb); clear HB; have HB := n0_; clear n0_; (try clear hb); (try clear hb2); (try clear hk); (try clear hi)) | ((with_reducible refine gate_callee (f := 15) rfl ?_); refine goesL_ (some 21) rfl rfl Try.func15 (by kernel_rfl) rfl #[.int .i64 t145] rfl (by (try simp only [List.map_toArray, List.map_cons, List.map_nil]); first | done | rfl | (simp only [List.length_drop, List.length_take]; rfl)) ?_; (with_reducible refine (word_Text.calls t145 t147 _ A7.out).mono ?_); rintro e w17 ⟨rfl, hb⟩; refine ⟨_, rfl, ?_⟩; have n0_ := Aside0.mk (below_step (by repeat (first | (with_reducible first | exact HB.out | apply below_alloc | apply pw_below_drewN | apply below_drew1) | exact HB.out)) hb); clear HB; have HB := n0_; clear n0_; (try clear hb); (try clear hb2); (try clear hk); (try clear hi)) | ((with_reducible refine gate_callee (f := 13) rfl ?_); refine goesL_ (some 22) rfl rfl Try.func13 (by kernel_rfl) rfl #[.string t147] rfl (by (try simp only [List.map_toArray, List.map_cons, List.map_nil]); first | done | rfl | (simp only [List.length_drop, List.length_take]; rfl)) ?_; (with_reducible refine (word_Parse.calls k t147 t148 true _ A8.out).mono ?_); rintro e w' ⟨rfl, ⟨nd, rfl⟩⟩; refine ⟨_, rfl, ?_⟩) | (go_at_call 15; (with_reducible refine (word_Text.calls t145 t150 _ A11.out).mono ?_); rintro e w18 ⟨rfl, hb⟩; have n0_ := Aside0.mk (below_step (by repeat (first | (with_reducible first | exact HB.out | apply below_alloc | apply pw_below_drewN | apply below_drew1) | exact HB.out)) hb); clear HB; have HB := n0_; clear n0_; (try clear hb); (try clear hb2); (try clear hk); (try clear hi)) | (go_at_call 15; (with_reducible refine (word_Text.calls t146 t151 _ A12.out).mono ?_); rintro e w19 ⟨rfl, hb⟩; have n0_ := Aside0.mk (below_step (by repeat (first | (with_reducible first | exact HB.out | apply below_alloc | apply pw_below_drewN | apply below_drew1) | exact HB.out)) hb); clear HB; have HB := n0_; clear n0_; (try clear hb); (try clear hb2); (try clear hk); (try clear hi)) | (go_at_call 3; (with_reducible refine (fullinglaw1_WordExamples.calls k  t152 _ A14.out).mono ?_); rintro e w20 ⟨rfl, hb⟩; have n0_ := Aside0.mk (below_step (by repeat (first | (with_reducible first | exact HB.out | apply below_alloc | apply pw_below_drewN | apply below_drew1) | exact HB.out)) hb); clear HB; have HB := n0_; clear n0_; (try clear hb); (try clear hb2); (try clear hk); (try clear hi)))
        go_ret
        exact ⟨by first | rfl | (simp [errW_none, errW_some] <;> rfl) | (simp [*, errW_none, errW_some] <;> rfl), by repeat (first | (with_reducible first | exact HB.out | apply below_alloc | apply pw_below_drewN | apply below_drew1) | exact HB.out)⟩
      · rw [if_neg c13] at H
        have c13b0 : ((t150.toList == t151.toList) == (t145 == t146)) = false := by simpa using c13
        (try (have c13b1 : decide ((t150.toList == t151.toList) = (t145 == t146)) = false := by simpa using c13))
        (try (have c13b2 : ((t150.toList == t151.toList) == (t145 == t146)) = false := by simpa using c13))
        (try (have c13b3 : ¬ ((t150.toList == t151.toList) = (t145 == t146)) := by simpa using c13))
        clear c13
        obtain rfl := Option.some.inj H
        go_enter Try.func7, Try.ntmps7
        go_wp2_with (first | ((with_reducible refine gate_callee (f := 16) rfl ?_); refine goesL_ (some 15) rfl rfl Try.func16 (by kernel_rfl) rfl #[.int .i64 a0, .int .i64 a2] rfl (by (try simp only [List.map_toArray, List.map_cons, List.map_nil]); first | done | rfl | (simp only [List.length_drop, List.length_take]; rfl)) ?_; (with_reducible refine (fullingkeep_Word.calls a0 a2 t145 _ A5.out).mono ?_); rintro e w21 ⟨rfl, hb⟩; refine ⟨_, rfl, ?_⟩; have n0_ := Aside0.mk (below_step (by repeat (first | (with_reducible first | exact HB.out | apply below_alloc | apply pw_below_drewN | apply below_drew1) | exact HB.out)) hb); clear HB; have HB := n0_; clear n0_; (try clear hb); (try clear hb2); (try clear hk); (try clear hi)) | ((with_reducible refine gate_callee (f := 16) rfl ?_); refine goesL_ (some 18) rfl rfl Try.func16 (by kernel_rfl) rfl #[.int .i64 a1, .int .i64 a3] rfl (by (try simp only [List.map_toArray, List.map_cons, List.map_nil]); first | done | rfl | (simp only [List.length_drop, List.length_take]; rfl)) ?_; (with_reducible refine (fullingkeep_Word.calls a1 a3 t146 _ A6.out).mono ?_); rintro e w22 ⟨rfl, hb⟩; refine ⟨_, rfl, ?_⟩; have n0_ := Aside0.mk (below_step (by repeat (first | (with_reducible first | exact HB.out | apply below_alloc | apply pw_below_drewN | apply below_drew1) | exact HB.out)) hb); clear HB; have HB := n0_; clear n0_; (try clear hb); (try clear hb2); (try clear hk); (try clear hi)) | ((with_reducible refine gate_callee (f := 15) rfl ?_); refine goesL_ (some 21) rfl rfl Try.func15 (by kernel_rfl) rfl #[.int .i64 t145] rfl (by (try simp only [List.map_toArray, List.map_cons, List.map_nil]); first | done | rfl | (simp only [List.length_drop, List.length_take]; rfl)) ?_; (with_reducible refine (word_Text.calls t145 t147 _ A7.out).mono ?_); rintro e w23 ⟨rfl, hb⟩; refine ⟨_, rfl, ?_⟩; have n0_ := Aside0.mk (below_step (by repeat (first | (with_reducible first | exact HB.out | apply below_alloc | apply pw_below_drewN | apply below_drew1) | exact HB.out)) hb); clear HB; have HB := n0_; clear n0_; (try clear hb); (try clear hb2); (try clear hk); (try clear hi)) | ((with_reducible refine gate_callee (f := 13) rfl ?_); refine goesL_ (some 22) rfl rfl Try.func13 (by kernel_rfl) rfl #[.string t147] rfl (by (try simp only [List.map_toArray, List.map_cons, List.map_nil]); first | done | rfl | (simp only [List.length_drop, List.length_take]; rfl)) ?_; (with_reducible refine (word_Parse.calls k t147 t148 true _ A8.out).mono ?_); rintro e w' ⟨rfl, ⟨nd, rfl⟩⟩; refine ⟨_, rfl, ?_⟩) | (go_at_call 15; (with_reducible refine (word_Text.calls t145 t150 _ A11.out).mono ?_); rintro e w24 ⟨rfl, hb⟩; have n0_ := Aside0.mk (below_step (by repeat (first | (with_reducible first | exact HB.out | apply below_alloc | apply pw_below_drewN | apply below_drew1) | exact HB.out)) hb); clear HB; have HB := n0_; clear n0_; (try clear hb); (try clear hb2); (try clear hk); (try clear hi)) | (go_at_call 15; (with_reducible refine (word_Text.calls t146 t151 _ A12.out).mono ?_); rintro e w25 ⟨rfl, hb⟩; have n0_ := Aside0.mk (below_step (by repeat (first | (with_reducible first | exact HB.out | apply below_alloc | apply pw_below_drewN | apply below_drew1) | exact HB.out)) hb); clear HB; have HB := n0_; clear n0_; (try clear hb); (try clear hb2); (try clear hk); (try clear hi)))
        go_ret
        exact ⟨by first | rfl | (simp [errW_none, errW_some] <;> rfl) | (simp [*, errW_none, errW_some] <;> rfl), by repeat (first | (with_reducible first | exact HB.out | apply below_alloc | apply pw_below_drewN | apply below_drew1) | exact HB.out)⟩
    · rw [if_neg c10] at H
      have c10b0 : (t148 == t145) = false := beq_eq_false_iff_ne.mpr c10
      have c10b1 : (t148 != t145) = true := bne_iff_ne.mpr c10
      obtain rfl := Option.some.inj H
      go_enter Try.func7, Try.ntmps7
      go_wp2_with (first | ((with_reducible refine gate_callee (f := 16) rfl ?_); refine goesL_ (some 15) rfl rfl Try.func16 (by kernel_rfl) rfl #[.int .i64 a0, .int .i64 a2] rfl (by (try simp only [List.map_toArray, List.map_cons, List.map_nil]); first | done | rfl | (simp only [List.length_drop, List.length_take]; rfl)) ?_; (with_reducible refine (fullingkeep_Word.calls a0 a2 t145 _ A5.out).mono ?_); rintro e w26 ⟨rfl, hb⟩; refine ⟨_, rfl, ?_⟩; have n0_ := Aside0.mk (below_step (by repeat (first | (with_reducible first | exact HB.out | apply below_alloc | apply pw_below_drewN | apply below_drew1) | exact HB.out)) hb); clear HB; have HB := n0_; clear n0_; (try clear hb); (try clear hb2); (try clear hk); (try clear hi)) | ((with_reducible refine gate_callee (f := 16) rfl ?_); refine goesL_ (some 18) rfl rfl Try.func16 (by kernel_rfl) rfl #[.int .i64 a1, .int .i64 a3] rfl (by (try simp only [List.map_toArray, List.map_cons, List.map_nil]); first | done | rfl | (simp only [List.length_drop, List.length_take]; rfl)) ?_; (with_reducible refine (fullingkeep_Word.calls a1 a3 t146 _ A6.out).mono ?_); rintro e w27 ⟨rfl, hb⟩; refine ⟨_, rfl, ?_⟩; have n0_ := Aside0.mk (below_step (by repeat (first | (with_reducible first | exact HB.out | apply below_alloc | apply pw_below_drewN | apply below_drew1) | exact HB.out)) hb); clear HB; have HB := n0_; clear n0_; (try clear hb); (try clear hb2); (try clear hk); (try clear hi)) | ((with_reducible refine gate_callee (f := 15) rfl ?_); refine goesL_ (some 21) rfl rfl Try.func15 (by kernel_rfl) rfl #[.int .i64 t145] rfl (by (try simp only [List.map_toArray, List.map_cons, List.map_nil]); first | done | rfl | (simp only [List.length_drop, List.length_take]; rfl)) ?_; (with_reducible refine (word_Text.calls t145 t147 _ A7.out).mono ?_); rintro e w28 ⟨rfl, hb⟩; refine ⟨_, rfl, ?_⟩; have n0_ := Aside0.mk (below_step (by repeat (first | (with_reducible first | exact HB.out | apply below_alloc | apply pw_below_drewN | apply below_drew1) | exact HB.out)) hb); clear HB; have HB := n0_; clear n0_; (try clear hb); (try clear hb2); (try clear hk); (try clear hi)) | ((with_reducible refine gate_callee (f := 13) rfl ?_); refine goesL_ (some 22) rfl rfl Try.func13 (by kernel_rfl) rfl #[.string t147] rfl (by (try simp only [List.map_toArray, List.map_cons, List.map_nil]); first | done | rfl | (simp only [List.length_drop, List.length_take]; rfl)) ?_; (with_reducible refine (word_Parse.calls k t147 t148 true _ A8.out).mono ?_); rintro e w' ⟨rfl, ⟨nd, rfl⟩⟩; refine ⟨_, rfl, ?_⟩))
      go_ret
      exact ⟨by first | rfl | (simp [errW_none, errW_some] <;> rfl) | (simp [*, errW_none, errW_some] <;> rfl), by repeat (first | (with_reducible first | exact HB.out | apply below_alloc | apply pw_below_drewN | apply below_drew1) | exact HB.out)⟩
  · replace c9 := Bool.eq_false_iff.mpr c9
    subst c9
    have H1 : (some false) = some r := by rw [if_neg (show ¬ (false = true) by decide)] at H; exact H
    clear H
    have H := H1
    clear H1
    obtain rfl := Option.some.inj H
    go_enter Try.func7, Try.ntmps7
    go_wp2_with (first | ((with_reducible refine gate_callee (f := 16) rfl ?_); refine goesL_ (some 15) rfl rfl Try.func16 (by kernel_rfl) rfl #[.int .i64 a0, .int .i64 a2] rfl (by (try simp only [List.map_toArray, List.map_cons, List.map_nil]); first | done | rfl | (simp only [List.length_drop, List.length_take]; rfl)) ?_; (with_reducible refine (fullingkeep_Word.calls a0 a2 t145 _ A5.out).mono ?_); rintro e w29 ⟨rfl, hb⟩; refine ⟨_, rfl, ?_⟩; have n0_ := Aside0.mk (below_step (by repeat (first | (with_reducible first | exact HB.out | apply below_alloc | apply pw_below_drewN | apply below_drew1) | exact HB.out)) hb); clear HB; have HB := n0_; clear n0_; (try clear hb); (try clear hb2); (try clear hk); (try clear hi)) | ((with_reducible refine gate_callee (f := 16) rfl ?_); refine goesL_ (some 18) rfl rfl Try.func16 (by kernel_rfl) rfl #[.int .i64 a1, .int .i64 a3] rfl (by (try simp only [List.map_toArray, List.map_cons, List.map_nil]); first | done | rfl | (simp only [List.length_drop, List.length_take]; rfl)) ?_; (with_reducible refine (fullingkeep_Word.calls a1 a3 t146 _ A6.out).mono ?_); rintro e w30 ⟨rfl, hb⟩; refine ⟨_, rfl, ?_⟩; have n0_ := Aside0.mk (below_step (by repeat (first | (with_reducible first | exact HB.out | apply below_alloc | apply pw_below_drewN | apply below_drew1) | exact HB.out)) hb); clear HB; have HB := n0_; clear n0_; (try clear hb); (try clear hb2); (try clear hk); (try clear hi)) | ((with_reducible refine gate_callee (f := 15) rfl ?_); refine goesL_ (some 21) rfl rfl Try.func15 (by kernel_rfl) rfl #[.int .i64 t145] rfl (by (try simp only [List.map_toArray, List.map_cons, List.map_nil]); first | done | rfl | (simp only [List.length_drop, List.length_take]; rfl)) ?_; (with_reducible refine (word_Text.calls t145 t147 _ A7.out).mono ?_); rintro e w31 ⟨rfl, hb⟩; refine ⟨_, rfl, ?_⟩; have n0_ := Aside0.mk (below_step (by repeat (first | (with_reducible first | exact HB.out | apply below_alloc | apply pw_below_drewN | apply below_drew1) | exact HB.out)) hb); clear HB; have HB := n0_; clear n0_; (try clear hb); (try clear hb2); (try clear hk); (try clear hi)) | ((with_reducible refine gate_callee (f := 13) rfl ?_); refine goesL_ (some 22) rfl rfl Try.func13 (by kernel_rfl) rfl #[.string t147] rfl (by (try simp only [List.map_toArray, List.map_cons, List.map_nil]); first | done | rfl | (simp only [List.length_drop, List.length_take]; rfl)) ?_; (with_reducible refine (word_Parse.calls k t147 t148 false _ A8.out).mono ?_); rintro e w' ⟨rfl, ⟨nd, rfl⟩⟩; refine ⟨_, rfl, ?_⟩))
    go_ret
    exact ⟨by first | rfl | (simp [errW_none, errW_some] <;> rfl) | (simp [*, errW_none, errW_some] <;> rfl), by repeat (first | (with_reducible first | exact HB.out | apply below_alloc | apply pw_below_drewN | apply below_drew1) | exact HB.out)⟩

/-- THE ONE PURE STATEMENT of fullinglaw1_WordRoundTrip: yours. -/
def fullinglaw1_WordRoundTrip.Pure : Prop := ∀ (a0 : Int) (a1 : Int) (a2 : Int) (a3 : Int), (Lit.int .i64 a0).wf = true → (Lit.int .i64 a1).wf = true → (Lit.int .i64 a2).wf = true → (Lit.int .i64 a3).wf = true → ∃ k, fullinglaw1_WordRoundTrip.f k a0 a1 a2 a3 = some true
theorem fullinglaw1_WordRoundTrip.walk (P : fullinglaw1_WordRoundTrip.Pure) (a0 : Int) (a1 : Int) (a2 : Int) (a3 : Int) (w : World) (w0 : (Lit.int .i64 a0).wf = true) (w1 : (Lit.int .i64 a1).wf = true) (w2 : (Lit.int .i64 a2).wf = true) (w3 : (Lit.int .i64 a3).wf = true) :
    Calls Try.prog 7 #[.int .i64 a0, .int .i64 a1, .int .i64 a2, .int .i64 a3] w fun e w' => e = .returned (.bool true) ∧ Below w.heap.size w w' := by
  obtain ⟨k, h⟩ := P a0 a1 a2 a3 w0 w1 w2 w3
  refine (fullinglaw1_WordRoundTrip.calls k a0 a1 a2 a3 true w h).mono ?_
  rintro e w' ⟨rfl, hd⟩
  exact ⟨rfl, hd⟩

/-! ### fullinglaw1_WordShiftsCompose: function 8 -/
def fullinglaw1_WordShiftsCompose.j0 : Nat → Int → Int → Int → Int → Option (Bool)
  | 0, _, _, _, _ => none
  | k + 1, x0, x7, x9, x10 => (word_Binary.f 12 1 x7).bind fun t158 => (if x9 = x10 then ((word_Binary.f 12 x0 x7).bind fun t159 => ((word_Binary.f 6 x0 t158).bind fun t160 => (if t159 = t160 then ((fullinglaw1_WordExamples.f k).bind fun t161 => (some t161)) else (some false)))) else (some false))
def fullinglaw1_WordShiftsCompose.f (k : Nat) (a0 : Int) (a1 : Int) (a2 : Int) : Option (Bool) := (fullingkeep_Pick.f a1 64).bind fun t153 => ((fullingkeep_Pick.f a2 64).bind fun t154 => ((word_Binary.f 12 a0 t153).bind fun t155 => ((word_Binary.f 12 t155 t154).bind fun t156 => (if (wrap64 (t153 + t154)) < 64 then ((word_Binary.f 12 a0 (wrap64 (t153 + t154))).bind fun t157 => (fullinglaw1_WordShiftsCompose.j0 k a0 t153 t156 t157)) else (fullinglaw1_WordShiftsCompose.j0 k a0 t153 t156 0)))))
theorem fullinglaw1_WordShiftsCompose.mono_l : ∀ k, (∀ y0 y1 y2 y3, LeO (fullinglaw1_WordShiftsCompose.j0 k y0 y1 y2 y3) (fullinglaw1_WordShiftsCompose.j0 (k + 1) y0 y1 y2 y3))
  | 0 => fun _ _ _ _ r h => by simp [fullinglaw1_WordShiftsCompose.j0] at h
  | k + 1 => by
    have ih0 := fullinglaw1_WordShiftsCompose.mono_l k
    · intro y0 y1 y2 y3
      unfold fullinglaw1_WordShiftsCompose.j0
      repeat' first
      | (with_reducible exact ih0 _ _ _ _)
      | (with_reducible exact fullinglaw1_WordExamples.mono _)
      | (with_reducible exact LeO.refl _)
      | (with_reducible exact LeO.none _)
      | (with_reducible refine LeO.ite ?_ ?_)
      | (with_reducible refine LeO.bind ?_ (fun _ => ?_))
      | exact ih0 _ _ _ _
      | exact fullinglaw1_WordExamples.mono _
      | exact LeO.none _
      | refine LeO.ite ?_ ?_
      | refine LeO.bind ?_ (fun _ => ?_)
theorem fullinglaw1_WordShiftsCompose.mono : ∀ a0 a1 a2 k, LeO (fullinglaw1_WordShiftsCompose.f k a0 a1 a2) (fullinglaw1_WordShiftsCompose.f (k + 1) a0 a1 a2) := by
  intro a0 a1 a2 k
  have ih0 := fullinglaw1_WordShiftsCompose.mono_l k
  unfold fullinglaw1_WordShiftsCompose.f
  repeat' first
      | (with_reducible exact ih0 _ _ _ _)
      | (with_reducible exact fullinglaw1_WordExamples.mono _)
      | (with_reducible exact LeO.refl _)
      | (with_reducible exact LeO.none _)
      | (with_reducible refine LeO.ite ?_ ?_)
      | (with_reducible refine LeO.bind ?_ (fun _ => ?_))
      | exact ih0 _ _ _ _
      | exact fullinglaw1_WordExamples.mono _
      | exact LeO.none _
      | refine LeO.ite ?_ ?_
      | refine LeO.bind ?_ (fun _ => ?_)
set_option maxHeartbeats 8000000 in
set_option maxRecDepth 100000 in
theorem fullinglaw1_WordShiftsCompose.calls (k : Nat) (a0 : Int) (a1 : Int) (a2 : Int) (r : Bool) (w : World) (h : fullinglaw1_WordShiftsCompose.f k a0 a1 a2 = some r) :
    Calls Try.prog 8 #[.int .i64 a0, .int .i64 a1, .int .i64 a2] w fun e w' => e = .returned (.bool r) ∧ Below w.heap.size w w' := by
  have HB := Aside0.mk (Below.refl w.heap.size w)
  have H : ((fullingkeep_Pick.f a1 64).bind fun t153 => ((fullingkeep_Pick.f a2 64).bind fun t154 => ((word_Binary.f 12 a0 t153).bind fun t155 => ((word_Binary.f 12 t155 t154).bind fun t156 => (if (wrap64 (t153 + t154)) < 64 then ((word_Binary.f 12 a0 (wrap64 (t153 + t154))).bind fun t157 => (fullinglaw1_WordShiftsCompose.j0 k a0 t153 t156 t157)) else (fullinglaw1_WordShiftsCompose.j0 k a0 t153 t156 0)))))) = some r := h
  clear h
  replace H := Option.bind_eq_some_iff.mp H
  obtain ⟨t153, A40, H⟩ := H
  replace H : ((fullingkeep_Pick.f a2 64).bind fun t154 => ((word_Binary.f 12 a0 t153).bind fun t155 => ((word_Binary.f 12 t155 t154).bind fun t156 => (if (wrap64 (t153 + t154)) < 64 then ((word_Binary.f 12 a0 (wrap64 (t153 + t154))).bind fun t157 => (fullinglaw1_WordShiftsCompose.j0 k a0 t153 t156 t157)) else (fullinglaw1_WordShiftsCompose.j0 k a0 t153 t156 0))))) = some r := H
  have A4 := Aside0.mk A40
  clear A40
  replace H := Option.bind_eq_some_iff.mp H
  obtain ⟨t154, A50, H⟩ := H
  replace H : ((word_Binary.f 12 a0 t153).bind fun t155 => ((word_Binary.f 12 t155 t154).bind fun t156 => (if (wrap64 (t153 + t154)) < 64 then ((word_Binary.f 12 a0 (wrap64 (t153 + t154))).bind fun t157 => (fullinglaw1_WordShiftsCompose.j0 k a0 t153 t156 t157)) else (fullinglaw1_WordShiftsCompose.j0 k a0 t153 t156 0)))) = some r := H
  have A5 := Aside0.mk A50
  clear A50
  replace H := Option.bind_eq_some_iff.mp H
  obtain ⟨t155, A60, H⟩ := H
  replace H : ((word_Binary.f 12 t155 t154).bind fun t156 => (if (wrap64 (t153 + t154)) < 64 then ((word_Binary.f 12 a0 (wrap64 (t153 + t154))).bind fun t157 => (fullinglaw1_WordShiftsCompose.j0 k a0 t153 t156 t157)) else (fullinglaw1_WordShiftsCompose.j0 k a0 t153 t156 0))) = some r := H
  have A6 := Aside0.mk A60
  clear A60
  replace H := Option.bind_eq_some_iff.mp H
  obtain ⟨t156, A70, H⟩ := H
  replace H : (if (wrap64 (t153 + t154)) < 64 then ((word_Binary.f 12 a0 (wrap64 (t153 + t154))).bind fun t157 => (fullinglaw1_WordShiftsCompose.j0 k a0 t153 t156 t157)) else (fullinglaw1_WordShiftsCompose.j0 k a0 t153 t156 0)) = some r := H
  have A7 := Aside0.mk A70
  clear A70
  have HC8 := Aside0.mk H
  clear H
  go_enter Try.func8, Try.ntmps8
  go_upto_if 24 with (first | ((with_reducible refine gate_callee (f := 17) rfl ?_); refine goesL_ (some 13) rfl rfl Try.func17 (by kernel_rfl) rfl #[.int .i64 a1, .int .i64 64] rfl (by (try simp only [List.map_toArray, List.map_cons, List.map_nil]); first | done | rfl | (simp only [List.length_drop, List.length_take]; rfl)) ?_; (with_reducible refine (fullingkeep_Pick.calls a1 64 t153 _ A4.out).mono ?_); rintro e w' ⟨rfl, ⟨nd, rfl⟩⟩; refine ⟨_, rfl, ?_⟩) | ((with_reducible refine gate_callee (f := 17) rfl ?_); refine goesL_ (some 15) rfl rfl Try.func17 (by kernel_rfl) rfl #[.int .i64 a2, .int .i64 64] rfl (by (try simp only [List.map_toArray, List.map_cons, List.map_nil]); first | done | rfl | (simp only [List.length_drop, List.length_take]; rfl)) ?_; (with_reducible refine (fullingkeep_Pick.calls a2 64 t154 _ A5.out).mono ?_); rintro e w' ⟨rfl, ⟨nd, rfl⟩⟩; refine ⟨_, rfl, ?_⟩) | ((with_reducible refine gate_callee (f := 14) rfl ?_); refine goesL_ (some 18) rfl rfl Try.func14 (by kernel_rfl) rfl #[.int .i64 12, .int .i64 a0, .int .i64 t153] rfl (by (try simp only [List.map_toArray, List.map_cons, List.map_nil]); first | done | rfl | (simp only [List.length_drop, List.length_take]; rfl)) ?_; (with_reducible refine (word_Binary.calls 12 a0 t153 t155 _ A6.out).mono ?_); rintro e w' ⟨rfl, ⟨nd, rfl⟩⟩; refine ⟨_, rfl, ?_⟩) | ((with_reducible refine gate_callee (f := 14) rfl ?_); refine goesL_ (some 20) rfl rfl Try.func14 (by kernel_rfl) rfl #[.int .i64 12, .int .i64 t155, .int .i64 t154] rfl (by (try simp only [List.map_toArray, List.map_cons, List.map_nil]); first | done | rfl | (simp only [List.length_drop, List.length_take]; rfl)) ?_; (with_reducible refine (word_Binary.calls 12 t155 t154 t156 _ A7.out).mono ?_); rintro e w' ⟨rfl, ⟨nd, rfl⟩⟩; refine ⟨_, rfl, ?_⟩))
  (try simp only [Act.put, List.setIfInBounds_toArray, List.set_cons_zero, List.set_cons_succ])
  go_cut [10] (fun v10 wc => ∃ (kq : Nat) (x10_7 : Int), v10 = .int .i64 x10_7 ∧ Aside0 (fullinglaw1_WordShiftsCompose.j0 kq a0 t153 t156 x10_7 = some r) ∧ Aside0 (kq ≤ k) ∧ Aside0 (Below w.heap.size w wc))
  case first =>
    have H := HC8.out
    clear HC8
    by_cases c9 : (wrap64 (t153 + t154)) < 64
    · rw [if_pos c9] at H
      have c9b0 : decide ((wrap64 (t153 + t154)) < 64) = true := decide_eq_true c9
      clear c9
      (first | rw [c9b0] | (simp only [i64_w, i32_w]; rw [c9b0]) | skip)
      replace H := Option.bind_eq_some_iff.mp H
      obtain ⟨t157, A100, H⟩ := H
      replace H : (fullinglaw1_WordShiftsCompose.j0 k a0 t153 t156 t157) = some r := H
      have A10 := Aside0.mk A100
      clear A100
      have H' := Aside0.mk H
      clear H
      go_wp2_with (first | ((with_reducible refine gate_callee (f := 14) rfl ?_); refine goesL_ (some 29) rfl rfl Try.func14 (by kernel_rfl) rfl #[.int .i64 12, .int .i64 a0, .int .i64 (wrap64 (t153 + t154))] rfl (by (try simp only [List.map_toArray, List.map_cons, List.map_nil]); first | done | rfl | (simp only [List.length_drop, List.length_take]; rfl)) ?_; (with_reducible refine (word_Binary.calls 12 a0 (wrap64 (t153 + t154)) t157 _ A10.out).mono ?_); rintro e w' ⟨rfl, ⟨nd, rfl⟩⟩; refine ⟨_, rfl, ?_⟩))
      go_meet
      case rel => exact ⟨_, (t157), (by first | rfl | (simp; done) | (simp [*]; done)), H', ⟨by first | omega | exact Nat.le_refl _⟩, ⟨by repeat (first | (with_reducible first | exact HB.out | apply below_alloc | apply pw_below_drewN | apply below_drew1) | exact HB.out)⟩⟩
    · rw [if_neg c9] at H
      have c9b0 : decide ((wrap64 (t153 + t154)) < 64) = false := decide_eq_false c9
      clear c9
      (first | rw [c9b0] | (simp only [i64_w, i32_w]; rw [c9b0]) | skip)
      have H' := Aside0.mk H
      clear H
      go_wp2
      go_meet
      case rel => exact ⟨_, (0), (by first | rfl | (simp; done) | (simp [*]; done)), H', ⟨by first | omega | exact Nat.le_refl _⟩, ⟨by repeat (first | (with_reducible first | exact HB.out | apply below_alloc | apply pw_below_drewN | apply below_drew1) | exact HB.out)⟩⟩
  case rest =>
    clear HC8
    try clear c1
    try clear p2
    try clear p6
    try clear c8
    try clear c9
    try clear c9b0
    obtain ⟨kq, x10_7, rfl, HA, HJ7, HB⟩ := hcut
    cases kq with
    | zero => exact absurd HA.out (by simp [fullinglaw1_WordShiftsCompose.j0])
    | succ kj7 =>
      have H := HA.out
      clear HA
      simp only [fullinglaw1_WordShiftsCompose.j0] at H
      replace H := Option.bind_eq_some_iff.mp H
      obtain ⟨t158, A110, H⟩ := H
      replace H : (if t156 = x10_7 then ((word_Binary.f 12 a0 t153).bind fun t159 => ((word_Binary.f 6 a0 t158).bind fun t160 => (if t159 = t160 then ((fullinglaw1_WordExamples.f kj7).bind fun t161 => (some t161)) else (some false)))) else (some false)) = some r := H
      have A11 := Aside0.mk A110
      clear A110
      by_cases c12 : t156 = x10_7
      · rw [if_pos c12] at H
        have c12b0 : (t156 == x10_7) = true := beq_iff_eq.mpr c12
        have c12b1 : (t156 != x10_7) = false := bne_eq_false_iff_eq.mpr c12
        clear c12
        replace H := Option.bind_eq_some_iff.mp H
        obtain ⟨t159, A130, H⟩ := H
        replace H : ((word_Binary.f 6 a0 t158).bind fun t160 => (if t159 = t160 then ((fullinglaw1_WordExamples.f kj7).bind fun t161 => (some t161)) else (some false))) = some r := H
        have A13 := Aside0.mk A130
        clear A130
        replace H := Option.bind_eq_some_iff.mp H
        obtain ⟨t160, A140, H⟩ := H
        replace H : (if t159 = t160 then ((fullinglaw1_WordExamples.f kj7).bind fun t161 => (some t161)) else (some false)) = some r := H
        have A14 := Aside0.mk A140
        clear A140
        by_cases c15 : t159 = t160
        · rw [if_pos c15] at H
          have c15b0 : (t159 == t160) = true := beq_iff_eq.mpr c15
          have c15b1 : (t159 != t160) = false := bne_eq_false_iff_eq.mpr c15
          clear c15
          replace H := Option.bind_eq_some_iff.mp H
          obtain ⟨t161, A160, H⟩ := H
          replace H : (some t161) = some r := H
          have A16 := Aside0.mk A160
          clear A160
          obtain rfl := Option.some.inj H
          go_wp2_with (first | ((with_reducible refine gate_callee (f := 14) rfl ?_); refine goesL_ (some 31) rfl rfl Try.func14 (by kernel_rfl) rfl #[.int .i64 12, .int .i64 1, .int .i64 t153] rfl (by (try simp only [List.map_toArray, List.map_cons, List.map_nil]); first | done | rfl | (simp only [List.length_drop, List.length_take]; rfl)) ?_; (with_reducible refine (word_Binary.calls 12 1 t153 t158 _ A11.out).mono ?_); rintro e w' ⟨rfl, ⟨nd, rfl⟩⟩; refine ⟨_, rfl, ?_⟩) | (go_at_call 14; (with_reducible refine (word_Binary.calls 12 a0 t153 t159 _ A13.out).mono ?_); rintro e w' ⟨rfl, ⟨nd, rfl⟩⟩) | (go_at_call 14; (with_reducible refine (word_Binary.calls 6 a0 t158 t160 _ A14.out).mono ?_); rintro e w' ⟨rfl, ⟨nd, rfl⟩⟩) | (go_at_call 3; (with_reducible refine (fullinglaw1_WordExamples.calls kj7  t161 _ A16.out).mono ?_); rintro e w17 ⟨rfl, hb⟩; have n0_ := Aside0.mk (below_step (by repeat (first | (with_reducible first | exact HB.out | apply below_alloc | apply pw_below_drewN | apply below_drew1) | exact HB.out)) hb); clear HB; have HB := n0_; clear n0_; (try clear hb); (try clear hb2); (try clear hk); (try clear hi)))
          go_ret
          exact ⟨by first | rfl | (simp [errW_none, errW_some] <;> rfl) | (simp [*, errW_none, errW_some] <;> rfl), by repeat (first | (with_reducible first | exact HB.out | apply below_alloc | apply pw_below_drewN | apply below_drew1) | exact HB.out)⟩
        · rw [if_neg c15] at H
          have c15b0 : (t159 == t160) = false := beq_eq_false_iff_ne.mpr c15
          have c15b1 : (t159 != t160) = true := bne_iff_ne.mpr c15
          obtain rfl := Option.some.inj H
          go_wp2_with (first | ((with_reducible refine gate_callee (f := 14) rfl ?_); refine goesL_ (some 31) rfl rfl Try.func14 (by kernel_rfl) rfl #[.int .i64 12, .int .i64 1, .int .i64 t153] rfl (by (try simp only [List.map_toArray, List.map_cons, List.map_nil]); first | done | rfl | (simp only [List.length_drop, List.length_take]; rfl)) ?_; (with_reducible refine (word_Binary.calls 12 1 t153 t158 _ A11.out).mono ?_); rintro e w' ⟨rfl, ⟨nd, rfl⟩⟩; refine ⟨_, rfl, ?_⟩) | (go_at_call 14; (with_reducible refine (word_Binary.calls 12 a0 t153 t159 _ A13.out).mono ?_); rintro e w' ⟨rfl, ⟨nd, rfl⟩⟩) | (go_at_call 14; (with_reducible refine (word_Binary.calls 6 a0 t158 t160 _ A14.out).mono ?_); rintro e w' ⟨rfl, ⟨nd, rfl⟩⟩))
          go_ret
          exact ⟨by first | rfl | (simp [errW_none, errW_some] <;> rfl) | (simp [*, errW_none, errW_some] <;> rfl), by repeat (first | (with_reducible first | exact HB.out | apply below_alloc | apply pw_below_drewN | apply below_drew1) | exact HB.out)⟩
      · rw [if_neg c12] at H
        have c12b0 : (t156 == x10_7) = false := beq_eq_false_iff_ne.mpr c12
        have c12b1 : (t156 != x10_7) = true := bne_iff_ne.mpr c12
        obtain rfl := Option.some.inj H
        go_wp2_with (first | ((with_reducible refine gate_callee (f := 14) rfl ?_); refine goesL_ (some 31) rfl rfl Try.func14 (by kernel_rfl) rfl #[.int .i64 12, .int .i64 1, .int .i64 t153] rfl (by (try simp only [List.map_toArray, List.map_cons, List.map_nil]); first | done | rfl | (simp only [List.length_drop, List.length_take]; rfl)) ?_; (with_reducible refine (word_Binary.calls 12 1 t153 t158 _ A11.out).mono ?_); rintro e w' ⟨rfl, ⟨nd, rfl⟩⟩; refine ⟨_, rfl, ?_⟩))
        go_ret
        exact ⟨by first | rfl | (simp [errW_none, errW_some] <;> rfl) | (simp [*, errW_none, errW_some] <;> rfl), by repeat (first | (with_reducible first | exact HB.out | apply below_alloc | apply pw_below_drewN | apply below_drew1) | exact HB.out)⟩

/-- THE ONE PURE STATEMENT of fullinglaw1_WordShiftsCompose: yours. -/
def fullinglaw1_WordShiftsCompose.Pure : Prop := ∀ (a0 : Int) (a1 : Int) (a2 : Int), (Lit.int .i64 a0).wf = true → (Lit.int .i64 a1).wf = true → (Lit.int .i64 a2).wf = true → ∃ k, fullinglaw1_WordShiftsCompose.f k a0 a1 a2 = some true
theorem fullinglaw1_WordShiftsCompose.walk (P : fullinglaw1_WordShiftsCompose.Pure) (a0 : Int) (a1 : Int) (a2 : Int) (w : World) (w0 : (Lit.int .i64 a0).wf = true) (w1 : (Lit.int .i64 a1).wf = true) (w2 : (Lit.int .i64 a2).wf = true) :
    Calls Try.prog 8 #[.int .i64 a0, .int .i64 a1, .int .i64 a2] w fun e w' => e = .returned (.bool true) ∧ Below w.heap.size w w' := by
  obtain ⟨k, h⟩ := P a0 a1 a2 w0 w1 w2
  refine (fullinglaw1_WordShiftsCompose.calls k a0 a1 a2 true w h).mono ?_
  rintro e w' ⟨rfl, hd⟩
  exact ⟨rfl, hd⟩

/-! ### fullinglaw1_WordArithmeticShift: function 9 -/
def fullinglaw1_WordArithmeticShift.f (k : Nat) (a0 : Int) (a1 : Int) : Option (Bool) := (fullingkeep_Pick.f a1 63).bind fun t162 => ((word_Binary.f 12 1 t162).bind fun t163 => ((word_Binary.f 14 a0 t162).bind fun t164 => ((word_Binary.f 7 a0 t163).bind fun t165 => ((word_Binary.f 8 a0 t163).bind fun t166 => (if t166 < 0 then ((word_Binary.f 5 t165 1).bind fun t167 => (if t164 = t167 then ((fullinglaw1_WordExamples.f k).bind fun t168 => (some t168)) else (some false))) else (if t164 = t165 then ((fullinglaw1_WordExamples.f k).bind fun t169 => (some t169)) else (some false)))))))
theorem fullinglaw1_WordArithmeticShift.mono : ∀ a0 a1 k, LeO (fullinglaw1_WordArithmeticShift.f k a0 a1) (fullinglaw1_WordArithmeticShift.f (k + 1) a0 a1) := by
  intro a0 a1 k
  unfold fullinglaw1_WordArithmeticShift.f
  repeat' first
      | (with_reducible exact fullinglaw1_WordExamples.mono _)
      | (with_reducible exact LeO.refl _)
      | (with_reducible exact LeO.none _)
      | (with_reducible refine LeO.ite ?_ ?_)
      | (with_reducible refine LeO.bind ?_ (fun _ => ?_))
      | exact fullinglaw1_WordExamples.mono _
      | exact LeO.none _
      | refine LeO.ite ?_ ?_
      | refine LeO.bind ?_ (fun _ => ?_)
set_option maxHeartbeats 8000000 in
set_option maxRecDepth 100000 in
theorem fullinglaw1_WordArithmeticShift.calls (k : Nat) (a0 : Int) (a1 : Int) (r : Bool) (w : World) (h : fullinglaw1_WordArithmeticShift.f k a0 a1 = some r) :
    Calls Try.prog 9 #[.int .i64 a0, .int .i64 a1] w fun e w' => e = .returned (.bool r) ∧ Below w.heap.size w w' := by
  have HB := Aside0.mk (Below.refl w.heap.size w)
  have H : ((fullingkeep_Pick.f a1 63).bind fun t162 => ((word_Binary.f 12 1 t162).bind fun t163 => ((word_Binary.f 14 a0 t162).bind fun t164 => ((word_Binary.f 7 a0 t163).bind fun t165 => ((word_Binary.f 8 a0 t163).bind fun t166 => (if t166 < 0 then ((word_Binary.f 5 t165 1).bind fun t167 => (if t164 = t167 then ((fullinglaw1_WordExamples.f k).bind fun t168 => (some t168)) else (some false))) else (if t164 = t165 then ((fullinglaw1_WordExamples.f k).bind fun t169 => (some t169)) else (some false)))))))) = some r := h
  clear h
  replace H := Option.bind_eq_some_iff.mp H
  obtain ⟨t162, A30, H⟩ := H
  replace H : ((word_Binary.f 12 1 t162).bind fun t163 => ((word_Binary.f 14 a0 t162).bind fun t164 => ((word_Binary.f 7 a0 t163).bind fun t165 => ((word_Binary.f 8 a0 t163).bind fun t166 => (if t166 < 0 then ((word_Binary.f 5 t165 1).bind fun t167 => (if t164 = t167 then ((fullinglaw1_WordExamples.f k).bind fun t168 => (some t168)) else (some false))) else (if t164 = t165 then ((fullinglaw1_WordExamples.f k).bind fun t169 => (some t169)) else (some false))))))) = some r := H
  have A3 := Aside0.mk A30
  clear A30
  replace H := Option.bind_eq_some_iff.mp H
  obtain ⟨t163, A40, H⟩ := H
  replace H : ((word_Binary.f 14 a0 t162).bind fun t164 => ((word_Binary.f 7 a0 t163).bind fun t165 => ((word_Binary.f 8 a0 t163).bind fun t166 => (if t166 < 0 then ((word_Binary.f 5 t165 1).bind fun t167 => (if t164 = t167 then ((fullinglaw1_WordExamples.f k).bind fun t168 => (some t168)) else (some false))) else (if t164 = t165 then ((fullinglaw1_WordExamples.f k).bind fun t169 => (some t169)) else (some false)))))) = some r := H
  have A4 := Aside0.mk A40
  clear A40
  replace H := Option.bind_eq_some_iff.mp H
  obtain ⟨t164, A50, H⟩ := H
  replace H : ((word_Binary.f 7 a0 t163).bind fun t165 => ((word_Binary.f 8 a0 t163).bind fun t166 => (if t166 < 0 then ((word_Binary.f 5 t165 1).bind fun t167 => (if t164 = t167 then ((fullinglaw1_WordExamples.f k).bind fun t168 => (some t168)) else (some false))) else (if t164 = t165 then ((fullinglaw1_WordExamples.f k).bind fun t169 => (some t169)) else (some false))))) = some r := H
  have A5 := Aside0.mk A50
  clear A50
  replace H := Option.bind_eq_some_iff.mp H
  obtain ⟨t165, A60, H⟩ := H
  replace H : ((word_Binary.f 8 a0 t163).bind fun t166 => (if t166 < 0 then ((word_Binary.f 5 t165 1).bind fun t167 => (if t164 = t167 then ((fullinglaw1_WordExamples.f k).bind fun t168 => (some t168)) else (some false))) else (if t164 = t165 then ((fullinglaw1_WordExamples.f k).bind fun t169 => (some t169)) else (some false)))) = some r := H
  have A6 := Aside0.mk A60
  clear A60
  replace H := Option.bind_eq_some_iff.mp H
  obtain ⟨t166, A70, H⟩ := H
  replace H : (if t166 < 0 then ((word_Binary.f 5 t165 1).bind fun t167 => (if t164 = t167 then ((fullinglaw1_WordExamples.f k).bind fun t168 => (some t168)) else (some false))) else (if t164 = t165 then ((fullinglaw1_WordExamples.f k).bind fun t169 => (some t169)) else (some false))) = some r := H
  have A7 := Aside0.mk A70
  clear A70
  by_cases c8 : t166 < 0
  · rw [if_pos c8] at H
    have c8b0 : decide (t166 < 0) = true := decide_eq_true c8
    clear c8
    replace H := Option.bind_eq_some_iff.mp H
    obtain ⟨t167, A90, H⟩ := H
    replace H : (if t164 = t167 then ((fullinglaw1_WordExamples.f k).bind fun t168 => (some t168)) else (some false)) = some r := H
    have A9 := Aside0.mk A90
    clear A90
    by_cases c10 : t164 = t167
    · rw [if_pos c10] at H
      have c10b0 : (t164 == t167) = true := beq_iff_eq.mpr c10
      have c10b1 : (t164 != t167) = false := bne_eq_false_iff_eq.mpr c10
      clear c10
      replace H := Option.bind_eq_some_iff.mp H
      obtain ⟨t168, A110, H⟩ := H
      replace H : (some t168) = some r := H
      have A11 := Aside0.mk A110
      clear A110
      obtain rfl := Option.some.inj H
      go_enter Try.func9, Try.ntmps9
      go_wp2_with (first | ((with_reducible refine gate_callee (f := 17) rfl ?_); refine goesL_ (some 11) rfl rfl Try.func17 (by kernel_rfl) rfl #[.int .i64 a1, .int .i64 63] rfl (by (try simp only [List.map_toArray, List.map_cons, List.map_nil]); first | done | rfl | (simp only [List.length_drop, List.length_take]; rfl)) ?_; (with_reducible refine (fullingkeep_Pick.calls a1 63 t162 _ A3.out).mono ?_); rintro e w' ⟨rfl, ⟨nd, rfl⟩⟩; refine ⟨_, rfl, ?_⟩) | ((with_reducible refine gate_callee (f := 14) rfl ?_); refine goesL_ (some 13) rfl rfl Try.func14 (by kernel_rfl) rfl #[.int .i64 12, .int .i64 1, .int .i64 t162] rfl (by (try simp only [List.map_toArray, List.map_cons, List.map_nil]); first | done | rfl | (simp only [List.length_drop, List.length_take]; rfl)) ?_; (with_reducible refine (word_Binary.calls 12 1 t162 t163 _ A4.out).mono ?_); rintro e w' ⟨rfl, ⟨nd, rfl⟩⟩; refine ⟨_, rfl, ?_⟩) | ((with_reducible refine gate_callee (f := 14) rfl ?_); refine goesL_ (some 16) rfl rfl Try.func14 (by kernel_rfl) rfl #[.int .i64 14, .int .i64 a0, .int .i64 t162] rfl (by (try simp only [List.map_toArray, List.map_cons, List.map_nil]); first | done | rfl | (simp only [List.length_drop, List.length_take]; rfl)) ?_; (with_reducible refine (word_Binary.calls 14 a0 t162 t164 _ A5.out).mono ?_); rintro e w' ⟨rfl, ⟨nd, rfl⟩⟩; refine ⟨_, rfl, ?_⟩) | ((with_reducible refine gate_callee (f := 14) rfl ?_); refine goesL_ (some 19) rfl rfl Try.func14 (by kernel_rfl) rfl #[.int .i64 7, .int .i64 a0, .int .i64 t163] rfl (by (try simp only [List.map_toArray, List.map_cons, List.map_nil]); first | done | rfl | (simp only [List.length_drop, List.length_take]; rfl)) ?_; (with_reducible refine (word_Binary.calls 7 a0 t163 t165 _ A6.out).mono ?_); rintro e w' ⟨rfl, ⟨nd, rfl⟩⟩; refine ⟨_, rfl, ?_⟩) | ((with_reducible refine gate_callee (f := 14) rfl ?_); refine goesL_ (some 22) rfl rfl Try.func14 (by kernel_rfl) rfl #[.int .i64 8, .int .i64 a0, .int .i64 t163] rfl (by (try simp only [List.map_toArray, List.map_cons, List.map_nil]); first | done | rfl | (simp only [List.length_drop, List.length_take]; rfl)) ?_; (with_reducible refine (word_Binary.calls 8 a0 t163 t166 _ A7.out).mono ?_); rintro e w' ⟨rfl, ⟨nd, rfl⟩⟩; refine ⟨_, rfl, ?_⟩) | ((with_reducible refine gate_callee (f := 14) rfl ?_); refine goesL_ (some 26) rfl rfl Try.func14 (by kernel_rfl) rfl #[.int .i64 5, .int .i64 t165, .int .i64 1] rfl (by (try simp only [List.map_toArray, List.map_cons, List.map_nil]); first | done | rfl | (simp only [List.length_drop, List.length_take]; rfl)) ?_; (with_reducible refine (word_Binary.calls 5 t165 1 t167 _ A9.out).mono ?_); rintro e w' ⟨rfl, ⟨nd, rfl⟩⟩; refine ⟨_, rfl, ?_⟩) | (go_at_call 3; (with_reducible refine (fullinglaw1_WordExamples.calls k  t168 _ A11.out).mono ?_); rintro e w12 ⟨rfl, hb⟩; have n0_ := Aside0.mk (below_step (by repeat (first | (with_reducible first | exact HB.out | apply below_alloc | apply pw_below_drewN | apply below_drew1) | exact HB.out)) hb); clear HB; have HB := n0_; clear n0_; (try clear hb); (try clear hb2); (try clear hk); (try clear hi)))
      go_ret
      exact ⟨by first | rfl | (simp [errW_none, errW_some] <;> rfl) | (simp [*, errW_none, errW_some] <;> rfl), by repeat (first | (with_reducible first | exact HB.out | apply below_alloc | apply pw_below_drewN | apply below_drew1) | exact HB.out)⟩
    · rw [if_neg c10] at H
      have c10b0 : (t164 == t167) = false := beq_eq_false_iff_ne.mpr c10
      have c10b1 : (t164 != t167) = true := bne_iff_ne.mpr c10
      obtain rfl := Option.some.inj H
      go_enter Try.func9, Try.ntmps9
      go_wp2_with (first | ((with_reducible refine gate_callee (f := 17) rfl ?_); refine goesL_ (some 11) rfl rfl Try.func17 (by kernel_rfl) rfl #[.int .i64 a1, .int .i64 63] rfl (by (try simp only [List.map_toArray, List.map_cons, List.map_nil]); first | done | rfl | (simp only [List.length_drop, List.length_take]; rfl)) ?_; (with_reducible refine (fullingkeep_Pick.calls a1 63 t162 _ A3.out).mono ?_); rintro e w' ⟨rfl, ⟨nd, rfl⟩⟩; refine ⟨_, rfl, ?_⟩) | ((with_reducible refine gate_callee (f := 14) rfl ?_); refine goesL_ (some 13) rfl rfl Try.func14 (by kernel_rfl) rfl #[.int .i64 12, .int .i64 1, .int .i64 t162] rfl (by (try simp only [List.map_toArray, List.map_cons, List.map_nil]); first | done | rfl | (simp only [List.length_drop, List.length_take]; rfl)) ?_; (with_reducible refine (word_Binary.calls 12 1 t162 t163 _ A4.out).mono ?_); rintro e w' ⟨rfl, ⟨nd, rfl⟩⟩; refine ⟨_, rfl, ?_⟩) | ((with_reducible refine gate_callee (f := 14) rfl ?_); refine goesL_ (some 16) rfl rfl Try.func14 (by kernel_rfl) rfl #[.int .i64 14, .int .i64 a0, .int .i64 t162] rfl (by (try simp only [List.map_toArray, List.map_cons, List.map_nil]); first | done | rfl | (simp only [List.length_drop, List.length_take]; rfl)) ?_; (with_reducible refine (word_Binary.calls 14 a0 t162 t164 _ A5.out).mono ?_); rintro e w' ⟨rfl, ⟨nd, rfl⟩⟩; refine ⟨_, rfl, ?_⟩) | ((with_reducible refine gate_callee (f := 14) rfl ?_); refine goesL_ (some 19) rfl rfl Try.func14 (by kernel_rfl) rfl #[.int .i64 7, .int .i64 a0, .int .i64 t163] rfl (by (try simp only [List.map_toArray, List.map_cons, List.map_nil]); first | done | rfl | (simp only [List.length_drop, List.length_take]; rfl)) ?_; (with_reducible refine (word_Binary.calls 7 a0 t163 t165 _ A6.out).mono ?_); rintro e w' ⟨rfl, ⟨nd, rfl⟩⟩; refine ⟨_, rfl, ?_⟩) | ((with_reducible refine gate_callee (f := 14) rfl ?_); refine goesL_ (some 22) rfl rfl Try.func14 (by kernel_rfl) rfl #[.int .i64 8, .int .i64 a0, .int .i64 t163] rfl (by (try simp only [List.map_toArray, List.map_cons, List.map_nil]); first | done | rfl | (simp only [List.length_drop, List.length_take]; rfl)) ?_; (with_reducible refine (word_Binary.calls 8 a0 t163 t166 _ A7.out).mono ?_); rintro e w' ⟨rfl, ⟨nd, rfl⟩⟩; refine ⟨_, rfl, ?_⟩) | ((with_reducible refine gate_callee (f := 14) rfl ?_); refine goesL_ (some 26) rfl rfl Try.func14 (by kernel_rfl) rfl #[.int .i64 5, .int .i64 t165, .int .i64 1] rfl (by (try simp only [List.map_toArray, List.map_cons, List.map_nil]); first | done | rfl | (simp only [List.length_drop, List.length_take]; rfl)) ?_; (with_reducible refine (word_Binary.calls 5 t165 1 t167 _ A9.out).mono ?_); rintro e w' ⟨rfl, ⟨nd, rfl⟩⟩; refine ⟨_, rfl, ?_⟩))
      go_ret
      exact ⟨by first | rfl | (simp [errW_none, errW_some] <;> rfl) | (simp [*, errW_none, errW_some] <;> rfl), by repeat (first | (with_reducible first | exact HB.out | apply below_alloc | apply pw_below_drewN | apply below_drew1) | exact HB.out)⟩
  · rw [if_neg c8] at H
    have c8b0 : decide (t166 < 0) = false := decide_eq_false c8
    clear c8
    by_cases c13 : t164 = t165
    · rw [if_pos c13] at H
      have c13b0 : (t164 == t165) = true := beq_iff_eq.mpr c13
      have c13b1 : (t164 != t165) = false := bne_eq_false_iff_eq.mpr c13
      clear c13
      replace H := Option.bind_eq_some_iff.mp H
      obtain ⟨t169, A140, H⟩ := H
      replace H : (some t169) = some r := H
      have A14 := Aside0.mk A140
      clear A140
      obtain rfl := Option.some.inj H
      go_enter Try.func9, Try.ntmps9
      go_wp2_with (first | ((with_reducible refine gate_callee (f := 17) rfl ?_); refine goesL_ (some 11) rfl rfl Try.func17 (by kernel_rfl) rfl #[.int .i64 a1, .int .i64 63] rfl (by (try simp only [List.map_toArray, List.map_cons, List.map_nil]); first | done | rfl | (simp only [List.length_drop, List.length_take]; rfl)) ?_; (with_reducible refine (fullingkeep_Pick.calls a1 63 t162 _ A3.out).mono ?_); rintro e w' ⟨rfl, ⟨nd, rfl⟩⟩; refine ⟨_, rfl, ?_⟩) | ((with_reducible refine gate_callee (f := 14) rfl ?_); refine goesL_ (some 13) rfl rfl Try.func14 (by kernel_rfl) rfl #[.int .i64 12, .int .i64 1, .int .i64 t162] rfl (by (try simp only [List.map_toArray, List.map_cons, List.map_nil]); first | done | rfl | (simp only [List.length_drop, List.length_take]; rfl)) ?_; (with_reducible refine (word_Binary.calls 12 1 t162 t163 _ A4.out).mono ?_); rintro e w' ⟨rfl, ⟨nd, rfl⟩⟩; refine ⟨_, rfl, ?_⟩) | ((with_reducible refine gate_callee (f := 14) rfl ?_); refine goesL_ (some 16) rfl rfl Try.func14 (by kernel_rfl) rfl #[.int .i64 14, .int .i64 a0, .int .i64 t162] rfl (by (try simp only [List.map_toArray, List.map_cons, List.map_nil]); first | done | rfl | (simp only [List.length_drop, List.length_take]; rfl)) ?_; (with_reducible refine (word_Binary.calls 14 a0 t162 t164 _ A5.out).mono ?_); rintro e w' ⟨rfl, ⟨nd, rfl⟩⟩; refine ⟨_, rfl, ?_⟩) | ((with_reducible refine gate_callee (f := 14) rfl ?_); refine goesL_ (some 19) rfl rfl Try.func14 (by kernel_rfl) rfl #[.int .i64 7, .int .i64 a0, .int .i64 t163] rfl (by (try simp only [List.map_toArray, List.map_cons, List.map_nil]); first | done | rfl | (simp only [List.length_drop, List.length_take]; rfl)) ?_; (with_reducible refine (word_Binary.calls 7 a0 t163 t165 _ A6.out).mono ?_); rintro e w' ⟨rfl, ⟨nd, rfl⟩⟩; refine ⟨_, rfl, ?_⟩) | ((with_reducible refine gate_callee (f := 14) rfl ?_); refine goesL_ (some 22) rfl rfl Try.func14 (by kernel_rfl) rfl #[.int .i64 8, .int .i64 a0, .int .i64 t163] rfl (by (try simp only [List.map_toArray, List.map_cons, List.map_nil]); first | done | rfl | (simp only [List.length_drop, List.length_take]; rfl)) ?_; (with_reducible refine (word_Binary.calls 8 a0 t163 t166 _ A7.out).mono ?_); rintro e w' ⟨rfl, ⟨nd, rfl⟩⟩; refine ⟨_, rfl, ?_⟩) | (go_at_call 3; (with_reducible refine (fullinglaw1_WordExamples.calls k  t169 _ A14.out).mono ?_); rintro e w15 ⟨rfl, hb⟩; have n0_ := Aside0.mk (below_step (by repeat (first | (with_reducible first | exact HB.out | apply below_alloc | apply pw_below_drewN | apply below_drew1) | exact HB.out)) hb); clear HB; have HB := n0_; clear n0_; (try clear hb); (try clear hb2); (try clear hk); (try clear hi)))
      go_ret
      exact ⟨by first | rfl | (simp [errW_none, errW_some] <;> rfl) | (simp [*, errW_none, errW_some] <;> rfl), by repeat (first | (with_reducible first | exact HB.out | apply below_alloc | apply pw_below_drewN | apply below_drew1) | exact HB.out)⟩
    · rw [if_neg c13] at H
      have c13b0 : (t164 == t165) = false := beq_eq_false_iff_ne.mpr c13
      have c13b1 : (t164 != t165) = true := bne_iff_ne.mpr c13
      obtain rfl := Option.some.inj H
      go_enter Try.func9, Try.ntmps9
      go_wp2_with (first | ((with_reducible refine gate_callee (f := 17) rfl ?_); refine goesL_ (some 11) rfl rfl Try.func17 (by kernel_rfl) rfl #[.int .i64 a1, .int .i64 63] rfl (by (try simp only [List.map_toArray, List.map_cons, List.map_nil]); first | done | rfl | (simp only [List.length_drop, List.length_take]; rfl)) ?_; (with_reducible refine (fullingkeep_Pick.calls a1 63 t162 _ A3.out).mono ?_); rintro e w' ⟨rfl, ⟨nd, rfl⟩⟩; refine ⟨_, rfl, ?_⟩) | ((with_reducible refine gate_callee (f := 14) rfl ?_); refine goesL_ (some 13) rfl rfl Try.func14 (by kernel_rfl) rfl #[.int .i64 12, .int .i64 1, .int .i64 t162] rfl (by (try simp only [List.map_toArray, List.map_cons, List.map_nil]); first | done | rfl | (simp only [List.length_drop, List.length_take]; rfl)) ?_; (with_reducible refine (word_Binary.calls 12 1 t162 t163 _ A4.out).mono ?_); rintro e w' ⟨rfl, ⟨nd, rfl⟩⟩; refine ⟨_, rfl, ?_⟩) | ((with_reducible refine gate_callee (f := 14) rfl ?_); refine goesL_ (some 16) rfl rfl Try.func14 (by kernel_rfl) rfl #[.int .i64 14, .int .i64 a0, .int .i64 t162] rfl (by (try simp only [List.map_toArray, List.map_cons, List.map_nil]); first | done | rfl | (simp only [List.length_drop, List.length_take]; rfl)) ?_; (with_reducible refine (word_Binary.calls 14 a0 t162 t164 _ A5.out).mono ?_); rintro e w' ⟨rfl, ⟨nd, rfl⟩⟩; refine ⟨_, rfl, ?_⟩) | ((with_reducible refine gate_callee (f := 14) rfl ?_); refine goesL_ (some 19) rfl rfl Try.func14 (by kernel_rfl) rfl #[.int .i64 7, .int .i64 a0, .int .i64 t163] rfl (by (try simp only [List.map_toArray, List.map_cons, List.map_nil]); first | done | rfl | (simp only [List.length_drop, List.length_take]; rfl)) ?_; (with_reducible refine (word_Binary.calls 7 a0 t163 t165 _ A6.out).mono ?_); rintro e w' ⟨rfl, ⟨nd, rfl⟩⟩; refine ⟨_, rfl, ?_⟩) | ((with_reducible refine gate_callee (f := 14) rfl ?_); refine goesL_ (some 22) rfl rfl Try.func14 (by kernel_rfl) rfl #[.int .i64 8, .int .i64 a0, .int .i64 t163] rfl (by (try simp only [List.map_toArray, List.map_cons, List.map_nil]); first | done | rfl | (simp only [List.length_drop, List.length_take]; rfl)) ?_; (with_reducible refine (word_Binary.calls 8 a0 t163 t166 _ A7.out).mono ?_); rintro e w' ⟨rfl, ⟨nd, rfl⟩⟩; refine ⟨_, rfl, ?_⟩))
      go_ret
      exact ⟨by first | rfl | (simp [errW_none, errW_some] <;> rfl) | (simp [*, errW_none, errW_some] <;> rfl), by repeat (first | (with_reducible first | exact HB.out | apply below_alloc | apply pw_below_drewN | apply below_drew1) | exact HB.out)⟩

/-- THE ONE PURE STATEMENT of fullinglaw1_WordArithmeticShift: yours. -/
def fullinglaw1_WordArithmeticShift.Pure : Prop := ∀ (a0 : Int) (a1 : Int), (Lit.int .i64 a0).wf = true → (Lit.int .i64 a1).wf = true → ∃ k, fullinglaw1_WordArithmeticShift.f k a0 a1 = some true
theorem fullinglaw1_WordArithmeticShift.walk (P : fullinglaw1_WordArithmeticShift.Pure) (a0 : Int) (a1 : Int) (w : World) (w0 : (Lit.int .i64 a0).wf = true) (w1 : (Lit.int .i64 a1).wf = true) :
    Calls Try.prog 9 #[.int .i64 a0, .int .i64 a1] w fun e w' => e = .returned (.bool true) ∧ Below w.heap.size w w' := by
  obtain ⟨k, h⟩ := P a0 a1 w0 w1
  refine (fullinglaw1_WordArithmeticShift.calls k a0 a1 true w h).mono ?_
  rintro e w' ⟨rfl, hd⟩
  exact ⟨rfl, hd⟩

/-! ### word_Unary: function 18 -/
def word_Unary.f (a0 : Int) (a1 : Int) : Option (Int) := if a0 = 20 then (some (wrap64 (-a1))) else (if a0 = 21 then (some (Go.bits .xor .i64 (-1) a1)) else (some 0))
set_option maxHeartbeats 8000000 in
set_option maxRecDepth 100000 in
theorem word_Unary.calls (a0 : Int) (a1 : Int) (r : Int) (w : World) (h : word_Unary.f a0 a1 = some r) :
    Calls Try.prog 18 #[.int .i64 a0, .int .i64 a1] w fun e w' => e = .returned (.int .i64 r) ∧ Drawn0 w w' := by
  have H : (if a0 = 20 then (some (wrap64 (-a1))) else (if a0 = 21 then (some (Go.bits .xor .i64 (-1) a1)) else (some 0))) = some r := h
  clear h
  by_cases c3 : a0 = 20
  · rw [if_pos c3] at H
    have c3b0 : (a0 == 20) = true := beq_iff_eq.mpr c3
    have c3b1 : (a0 != 20) = false := bne_eq_false_iff_eq.mpr c3
    clear c3
    obtain rfl := Option.some.inj H
    go_enter Try.func18, Try.ntmps18
    go_wp2
    go_ret
    exact ⟨by first | rfl | (simp; done) | (simp [*]; done), by repeat (first | exact Drawn0.refl _ | apply Drawn0.step)⟩
  · rw [if_neg c3] at H
    have c3b0 : (a0 == 20) = false := beq_eq_false_iff_ne.mpr c3
    have c3b1 : (a0 != 20) = true := bne_iff_ne.mpr c3
    by_cases c4 : a0 = 21
    · rw [if_pos c4] at H
      have c4b0 : (a0 == 21) = true := beq_iff_eq.mpr c4
      have c4b1 : (a0 != 21) = false := bne_eq_false_iff_eq.mpr c4
      clear c4
      obtain rfl := Option.some.inj H
      go_enter Try.func18, Try.ntmps18
      go_wp2
      go_ret
      exact ⟨by first | rfl | (simp; done) | (simp [*]; done), by repeat (first | exact Drawn0.refl _ | apply Drawn0.step)⟩
    · rw [if_neg c4] at H
      have c4b0 : (a0 == 21) = false := beq_eq_false_iff_ne.mpr c4
      have c4b1 : (a0 != 21) = true := bne_iff_ne.mpr c4
      obtain rfl := Option.some.inj H
      go_enter Try.func18, Try.ntmps18
      go_wp2
      go_ret
      exact ⟨by first | rfl | (simp; done) | (simp [*]; done), by repeat (first | exact Drawn0.refl _ | apply Drawn0.step)⟩

/-! ### fullingref1_Unary: function 19 -/
def fullingref1_Unary.f (a0 : Int) (a1 : Int) : Option (Int) := if a0 = 20 then (some (wrap64 (-a1))) else (if a0 = 21 then (some (Go.bits .xor .i64 (-1) a1)) else (some 0))
set_option maxHeartbeats 8000000 in
set_option maxRecDepth 100000 in
theorem fullingref1_Unary.calls (a0 : Int) (a1 : Int) (r : Int) (w : World) (h : fullingref1_Unary.f a0 a1 = some r) :
    Calls Try.prog 19 #[.int .i64 a0, .int .i64 a1] w fun e w' => e = .returned (.int .i64 r) ∧ Drawn0 w w' := by
  have H : (if a0 = 20 then (some (wrap64 (-a1))) else (if a0 = 21 then (some (Go.bits .xor .i64 (-1) a1)) else (some 0))) = some r := h
  clear h
  by_cases c3 : a0 = 20
  · rw [if_pos c3] at H
    have c3b0 : (a0 == 20) = true := beq_iff_eq.mpr c3
    have c3b1 : (a0 != 20) = false := bne_eq_false_iff_eq.mpr c3
    clear c3
    obtain rfl := Option.some.inj H
    go_enter Try.func19, Try.ntmps19
    go_wp2
    go_ret
    exact ⟨by first | rfl | (simp; done) | (simp [*]; done), by repeat (first | exact Drawn0.refl _ | apply Drawn0.step)⟩
  · rw [if_neg c3] at H
    have c3b0 : (a0 == 20) = false := beq_eq_false_iff_ne.mpr c3
    have c3b1 : (a0 != 20) = true := bne_iff_ne.mpr c3
    by_cases c4 : a0 = 21
    · rw [if_pos c4] at H
      have c4b0 : (a0 == 21) = true := beq_iff_eq.mpr c4
      have c4b1 : (a0 != 21) = false := bne_eq_false_iff_eq.mpr c4
      clear c4
      obtain rfl := Option.some.inj H
      go_enter Try.func19, Try.ntmps19
      go_wp2
      go_ret
      exact ⟨by first | rfl | (simp; done) | (simp [*]; done), by repeat (first | exact Drawn0.refl _ | apply Drawn0.step)⟩
    · rw [if_neg c4] at H
      have c4b0 : (a0 == 21) = false := beq_eq_false_iff_ne.mpr c4
      have c4b1 : (a0 != 21) = true := bne_iff_ne.mpr c4
      obtain rfl := Option.some.inj H
      go_enter Try.func19, Try.ntmps19
      go_wp2
      go_ret
      exact ⟨by first | rfl | (simp; done) | (simp [*]; done), by repeat (first | exact Drawn0.refl _ | apply Drawn0.step)⟩

/-! ### fullingref1_Div: function 26 -/
def fullingref1_Div.f (a0 : Int) (a1 : Int) : Option (Int) := if a1 = 0 then (some 0) else (if a1 = (-1) then (some (wrap64 (-a0))) else (some (wrap64 (Int.tdiv a0 a1))))
set_option maxHeartbeats 8000000 in
set_option maxRecDepth 100000 in
theorem fullingref1_Div.calls (a0 : Int) (a1 : Int) (r : Int) (w : World) (h : fullingref1_Div.f a0 a1 = some r) :
    Calls Try.prog 26 #[.int .i64 a0, .int .i64 a1] w fun e w' => e = .returned (.int .i64 r) ∧ Drawn0 w w' := by
  have H : (if a1 = 0 then (some 0) else (if a1 = (-1) then (some (wrap64 (-a0))) else (some (wrap64 (Int.tdiv a0 a1))))) = some r := h
  clear h
  by_cases c3 : a1 = 0
  · rw [if_pos c3] at H
    have c3b0 : (a1 == 0) = true := beq_iff_eq.mpr c3
    have c3b1 : (a1 != 0) = false := bne_eq_false_iff_eq.mpr c3
    clear c3
    obtain rfl := Option.some.inj H
    go_enter Try.func26, Try.ntmps26
    go_wp2
    go_ret
    exact ⟨by first | rfl | (simp; done) | (simp [*]; done), by repeat (first | exact Drawn0.refl _ | apply Drawn0.step)⟩
  · rw [if_neg c3] at H
    have c3b0 : (a1 == 0) = false := beq_eq_false_iff_ne.mpr c3
    have c3b1 : (a1 != 0) = true := bne_iff_ne.mpr c3
    by_cases c4 : a1 = (-1)
    · rw [if_pos c4] at H
      have c4b0 : (a1 == (-1)) = true := beq_iff_eq.mpr c4
      have c4b1 : (a1 != (-1)) = false := bne_eq_false_iff_eq.mpr c4
      clear c4
      obtain rfl := Option.some.inj H
      go_enter Try.func26, Try.ntmps26
      go_wp2
      go_ret
      exact ⟨by first | rfl | (simp; done) | (simp [*]; done), by repeat (first | exact Drawn0.refl _ | apply Drawn0.step)⟩
    · rw [if_neg c4] at H
      have c4b0 : (a1 == (-1)) = false := beq_eq_false_iff_ne.mpr c4
      have c4b1 : (a1 != (-1)) = true := bne_iff_ne.mpr c4
      obtain rfl := Option.some.inj H
      go_enter Try.func26, Try.ntmps26
      go_wp2
      go_ret
      exact ⟨by first | rfl | (simp; done) | (simp [*]; done), by repeat (first | exact Drawn0.refl _ | apply Drawn0.step)⟩

/-! ### fullingref1_boolWord: function 27 -/
def fullingref1_boolWord.f (a0 : Bool) : Option (Int) := if a0 = true then (some 1) else (some 0)
set_option maxHeartbeats 8000000 in
set_option maxRecDepth 100000 in
theorem fullingref1_boolWord.calls (a0 : Bool) (r : Int) (w : World) (h : fullingref1_boolWord.f a0 = some r) :
    Calls Try.prog 27 #[.bool a0] w fun e w' => e = .returned (.int .i64 r) ∧ Drawn0 w w' := by
  have H : (if a0 = true then (some 1) else (some 0)) = some r := h
  clear h
  by_cases c2 : a0 = true
  · subst c2
    have H1 : (some 1) = some r := by rw [if_pos rfl] at H; exact H
    clear H
    have H := H1
    clear H1
    obtain rfl := Option.some.inj H
    go_enter Try.func27, Try.ntmps27
    go_wp2
    go_ret
    exact ⟨by first | rfl | (simp; done) | (simp [*]; done), by repeat (first | exact Drawn0.refl _ | apply Drawn0.step)⟩
  · replace c2 := Bool.eq_false_iff.mpr c2
    subst c2
    have H1 : (some 0) = some r := by rw [if_neg (show ¬ (false = true) by decide)] at H; exact H
    clear H
    have H := H1
    clear H1
    obtain rfl := Option.some.inj H
    go_enter Try.func27, Try.ntmps27
    go_wp2
    go_ret
    exact ⟨by first | rfl | (simp; done) | (simp [*]; done), by repeat (first | exact Drawn0.refl _ | apply Drawn0.step)⟩

/-! ### fullingref1_Binary: function 20 -/
def fullingref1_Binary.f (a0 : Int) (a1 : Int) (a2 : Int) : Option (Int) := if a0 = 4 then (some (wrap64 (a1 + a2))) else (if a0 = 5 then (some (wrap64 (a1 - a2))) else (if a0 = 6 then (some (wrap64 (a1 * a2))) else (if a0 = 7 then ((fullingref1_Div.f a1 a2).bind fun t170 => (some t170)) else (if a0 = 8 then (if a2 = 0 then (some 0) else ((fullingref1_Div.f a1 a2).bind fun t171 => (some (wrap64 (a1 - (wrap64 (t171 * a2))))))) else (if a0 = 9 then (some (Go.bits .and .i64 a1 a2)) else (if a0 = 10 then (some (Go.bits .or .i64 a1 a2)) else (if a0 = 11 then (some (Go.bits .xor .i64 a1 a2)) else (if a0 = 12 then (if 0 ≤ (IntKind.u64.wrap (Go.bits .and .i64 a2 63)) then (some (shl .i64 a1 (IntKind.u64.wrap (Go.bits .and .i64 a2 63)))) else (none)) else (if a0 = 13 then (if 0 ≤ (IntKind.u64.wrap (Go.bits .and .i64 a2 63)) then (some (wrap64 (shr .u64 (IntKind.u64.wrap (a1)) (IntKind.u64.wrap (Go.bits .and .i64 a2 63))))) else (none)) else (if a0 = 14 then (if 0 ≤ (IntKind.u64.wrap (Go.bits .and .i64 a2 63)) then (some (shr .i64 a1 (IntKind.u64.wrap (Go.bits .and .i64 a2 63)))) else (none)) else (if a0 = 15 then ((fullingref1_boolWord.f (a1 == a2)).bind fun t172 => (some t172)) else (if a0 = 16 then ((fullingref1_boolWord.f (a1 != a2)).bind fun t173 => (some t173)) else (if a0 = 17 then ((fullingref1_boolWord.f (decide (a1 < a2))).bind fun t174 => (some t174)) else (if a0 = 18 then ((fullingref1_boolWord.f (decide (a1 ≤ a2))).bind fun t175 => (some t175)) else (if a0 = 19 then ((fullingref1_boolWord.f (decide ((IntKind.u64.wrap (a1)) < (IntKind.u64.wrap (a2))))).bind fun t176 => (some t176)) else (some 0))))))))))))))))
set_option maxHeartbeats 8000000 in
set_option maxRecDepth 100000 in
theorem fullingref1_Binary.calls (a0 : Int) (a1 : Int) (a2 : Int) (r : Int) (w : World) (h : fullingref1_Binary.f a0 a1 a2 = some r) :
    Calls Try.prog 20 #[.int .i64 a0, .int .i64 a1, .int .i64 a2] w fun e w' => e = .returned (.int .i64 r) ∧ Drawn0 w w' := by
  have H : (if a0 = 4 then (some (wrap64 (a1 + a2))) else (if a0 = 5 then (some (wrap64 (a1 - a2))) else (if a0 = 6 then (some (wrap64 (a1 * a2))) else (if a0 = 7 then ((fullingref1_Div.f a1 a2).bind fun t170 => (some t170)) else (if a0 = 8 then (if a2 = 0 then (some 0) else ((fullingref1_Div.f a1 a2).bind fun t171 => (some (wrap64 (a1 - (wrap64 (t171 * a2))))))) else (if a0 = 9 then (some (Go.bits .and .i64 a1 a2)) else (if a0 = 10 then (some (Go.bits .or .i64 a1 a2)) else (if a0 = 11 then (some (Go.bits .xor .i64 a1 a2)) else (if a0 = 12 then (if 0 ≤ (IntKind.u64.wrap (Go.bits .and .i64 a2 63)) then (some (shl .i64 a1 (IntKind.u64.wrap (Go.bits .and .i64 a2 63)))) else (none)) else (if a0 = 13 then (if 0 ≤ (IntKind.u64.wrap (Go.bits .and .i64 a2 63)) then (some (wrap64 (shr .u64 (IntKind.u64.wrap (a1)) (IntKind.u64.wrap (Go.bits .and .i64 a2 63))))) else (none)) else (if a0 = 14 then (if 0 ≤ (IntKind.u64.wrap (Go.bits .and .i64 a2 63)) then (some (shr .i64 a1 (IntKind.u64.wrap (Go.bits .and .i64 a2 63)))) else (none)) else (if a0 = 15 then ((fullingref1_boolWord.f (a1 == a2)).bind fun t172 => (some t172)) else (if a0 = 16 then ((fullingref1_boolWord.f (a1 != a2)).bind fun t173 => (some t173)) else (if a0 = 17 then ((fullingref1_boolWord.f (decide (a1 < a2))).bind fun t174 => (some t174)) else (if a0 = 18 then ((fullingref1_boolWord.f (decide (a1 ≤ a2))).bind fun t175 => (some t175)) else (if a0 = 19 then ((fullingref1_boolWord.f (decide ((IntKind.u64.wrap (a1)) < (IntKind.u64.wrap (a2))))).bind fun t176 => (some t176)) else (some 0))))))))))))))))) = some r := h
  clear h
  by_cases c4 : a0 = 4
  · rw [if_pos c4] at H
    have c4b0 : (a0 == 4) = true := beq_iff_eq.mpr c4
    have c4b1 : (a0 != 4) = false := bne_eq_false_iff_eq.mpr c4
    clear c4
    obtain rfl := Option.some.inj H
    go_enter Try.func20, Try.ntmps20
    go_wp2
    go_ret
    exact ⟨by first | rfl | (simp; done) | (simp [*]; done), by repeat (first | exact Drawn0.refl _ | apply Drawn0.step)⟩
  · rw [if_neg c4] at H
    have c4b0 : (a0 == 4) = false := beq_eq_false_iff_ne.mpr c4
    have c4b1 : (a0 != 4) = true := bne_iff_ne.mpr c4
    by_cases c5 : a0 = 5
    · rw [if_pos c5] at H
      have c5b0 : (a0 == 5) = true := beq_iff_eq.mpr c5
      have c5b1 : (a0 != 5) = false := bne_eq_false_iff_eq.mpr c5
      clear c5
      obtain rfl := Option.some.inj H
      go_enter Try.func20, Try.ntmps20
      go_wp2
      go_ret
      exact ⟨by first | rfl | (simp; done) | (simp [*]; done), by repeat (first | exact Drawn0.refl _ | apply Drawn0.step)⟩
    · rw [if_neg c5] at H
      have c5b0 : (a0 == 5) = false := beq_eq_false_iff_ne.mpr c5
      have c5b1 : (a0 != 5) = true := bne_iff_ne.mpr c5
      by_cases c6 : a0 = 6
      · rw [if_pos c6] at H
        have c6b0 : (a0 == 6) = true := beq_iff_eq.mpr c6
        have c6b1 : (a0 != 6) = false := bne_eq_false_iff_eq.mpr c6
        clear c6
        obtain rfl := Option.some.inj H
        go_enter Try.func20, Try.ntmps20
        go_wp2
        go_ret
        exact ⟨by first | rfl | (simp; done) | (simp [*]; done), by repeat (first | exact Drawn0.refl _ | apply Drawn0.step)⟩
      · rw [if_neg c6] at H
        have c6b0 : (a0 == 6) = false := beq_eq_false_iff_ne.mpr c6
        have c6b1 : (a0 != 6) = true := bne_iff_ne.mpr c6
        by_cases c7 : a0 = 7
        · rw [if_pos c7] at H
          have c7b0 : (a0 == 7) = true := beq_iff_eq.mpr c7
          have c7b1 : (a0 != 7) = false := bne_eq_false_iff_eq.mpr c7
          clear c7
          replace H := Option.bind_eq_some_iff.mp H
          obtain ⟨t170, A80, H⟩ := H
          replace H : (some t170) = some r := H
          have A8 := Aside0.mk A80
          clear A80
          obtain rfl := Option.some.inj H
          go_enter Try.func20, Try.ntmps20
          go_wp2_with (first | ((with_reducible refine gate_callee (f := 26) rfl ?_); refine goesL_ (some 31) rfl rfl Try.func26 (by kernel_rfl) rfl #[.int .i64 a1, .int .i64 a2] rfl (by (try simp only [List.map_toArray, List.map_cons, List.map_nil]); first | done | rfl | (simp only [List.length_drop, List.length_take]; rfl)) ?_; (with_reducible refine (fullingref1_Div.calls a1 a2 t170 _ A8.out).mono ?_); rintro e w' ⟨rfl, ⟨nd, rfl⟩⟩; refine ⟨_, rfl, ?_⟩))
          go_ret
          exact ⟨by first | rfl | (simp; done) | (simp [*]; done), by repeat (first | exact Drawn0.refl _ | apply Drawn0.step)⟩
        · rw [if_neg c7] at H
          have c7b0 : (a0 == 7) = false := beq_eq_false_iff_ne.mpr c7
          have c7b1 : (a0 != 7) = true := bne_iff_ne.mpr c7
          by_cases c9 : a0 = 8
          · rw [if_pos c9] at H
            have c9b0 : (a0 == 8) = true := beq_iff_eq.mpr c9
            have c9b1 : (a0 != 8) = false := bne_eq_false_iff_eq.mpr c9
            clear c9
            by_cases c10 : a2 = 0
            · rw [if_pos c10] at H
              have c10b0 : (a2 == 0) = true := beq_iff_eq.mpr c10
              have c10b1 : (a2 != 0) = false := bne_eq_false_iff_eq.mpr c10
              clear c10
              obtain rfl := Option.some.inj H
              go_enter Try.func20, Try.ntmps20
              go_wp2
              go_ret
              exact ⟨by first | rfl | (simp; done) | (simp [*]; done), by repeat (first | exact Drawn0.refl _ | apply Drawn0.step)⟩
            · rw [if_neg c10] at H
              have c10b0 : (a2 == 0) = false := beq_eq_false_iff_ne.mpr c10
              have c10b1 : (a2 != 0) = true := bne_iff_ne.mpr c10
              replace H := Option.bind_eq_some_iff.mp H
              obtain ⟨t171, A110, H⟩ := H
              replace H : (some (wrap64 (a1 - (wrap64 (t171 * a2))))) = some r := H
              have A11 := Aside0.mk A110
              clear A110
              obtain rfl := Option.some.inj H
              go_enter Try.func20, Try.ntmps20
              go_wp2_with (first | ((with_reducible refine gate_callee (f := 26) rfl ?_); refine goesL_ (some 39) rfl rfl Try.func26 (by kernel_rfl) rfl #[.int .i64 a1, .int .i64 a2] rfl (by (try simp only [List.map_toArray, List.map_cons, List.map_nil]); first | done | rfl | (simp only [List.length_drop, List.length_take]; rfl)) ?_; (with_reducible refine (fullingref1_Div.calls a1 a2 t171 _ A11.out).mono ?_); rintro e w' ⟨rfl, ⟨nd, rfl⟩⟩; refine ⟨_, rfl, ?_⟩))
              go_ret
              exact ⟨by first | rfl | (simp; done) | (simp [*]; done), by repeat (first | exact Drawn0.refl _ | apply Drawn0.step)⟩
          · rw [if_neg c9] at H
            have c9b0 : (a0 == 8) = false := beq_eq_false_iff_ne.mpr c9
            have c9b1 : (a0 != 8) = true := bne_iff_ne.mpr c9
            by_cases c12 : a0 = 9
            · rw [if_pos c12] at H
              have c12b0 : (a0 == 9) = true := beq_iff_eq.mpr c12
              have c12b1 : (a0 != 9) = false := bne_eq_false_iff_eq.mpr c12
              clear c12
              obtain rfl := Option.some.inj H
              go_enter Try.func20, Try.ntmps20
              go_wp2
              go_ret
              exact ⟨by first | rfl | (simp; done) | (simp [*]; done), by repeat (first | exact Drawn0.refl _ | apply Drawn0.step)⟩
            · rw [if_neg c12] at H
              have c12b0 : (a0 == 9) = false := beq_eq_false_iff_ne.mpr c12
              have c12b1 : (a0 != 9) = true := bne_iff_ne.mpr c12
              by_cases c13 : a0 = 10
              · rw [if_pos c13] at H
                have c13b0 : (a0 == 10) = true := beq_iff_eq.mpr c13
                have c13b1 : (a0 != 10) = false := bne_eq_false_iff_eq.mpr c13
                clear c13
                obtain rfl := Option.some.inj H
                go_enter Try.func20, Try.ntmps20
                go_wp2
                go_ret
                exact ⟨by first | rfl | (simp; done) | (simp [*]; done), by repeat (first | exact Drawn0.refl _ | apply Drawn0.step)⟩
              · rw [if_neg c13] at H
                have c13b0 : (a0 == 10) = false := beq_eq_false_iff_ne.mpr c13
                have c13b1 : (a0 != 10) = true := bne_iff_ne.mpr c13
                by_cases c14 : a0 = 11
                · rw [if_pos c14] at H
                  have c14b0 : (a0 == 11) = true := beq_iff_eq.mpr c14
                  have c14b1 : (a0 != 11) = false := bne_eq_false_iff_eq.mpr c14
                  clear c14
                  obtain rfl := Option.some.inj H
                  go_enter Try.func20, Try.ntmps20
                  go_wp2
                  go_ret
                  exact ⟨by first | rfl | (simp; done) | (simp [*]; done), by repeat (first | exact Drawn0.refl _ | apply Drawn0.step)⟩
                · rw [if_neg c14] at H
                  have c14b0 : (a0 == 11) = false := beq_eq_false_iff_ne.mpr c14
                  have c14b1 : (a0 != 11) = true := bne_iff_ne.mpr c14
                  by_cases c15 : a0 = 12
                  · rw [if_pos c15] at H
                    have c15b0 : (a0 == 12) = true := beq_iff_eq.mpr c15
                    have c15b1 : (a0 != 12) = false := bne_eq_false_iff_eq.mpr c15
                    clear c15
                    obtain ⟨ji16, hji16⟩ : ∃ j_ : Int, (IntKind.u64.wrap (Go.bits .and .i64 a2 63)) = j_ := ⟨_, rfl⟩
                    replace H : (if 0 ≤ (ji16) then (some (shl .i64 a1 (ji16))) else (none)) = some r := by first | (rw [hji16] at H; exact H) | (simp only [hji16] at H ⊢; exact H)
                    by_cases c17 : 0 ≤ (ji16)
                    · rw [if_pos c17] at H
                      have c17b0 := eq_true c17
                      have c17b1 : decide (0 ≤ (ji16)) = true := decide_eq_true c17
                      clear c17
                      obtain ⟨ji18, hji18⟩ : ∃ j_ : Int, (shl .i64 a1 (ji16)) = j_ := ⟨_, rfl⟩
                      replace H : (some ji18) = some r := by first | (rw [hji18] at H; exact H) | (simp only [hji18] at H ⊢; exact H)
                      have hji18_ : (IntKind.i64.wrap (a1 * 2 ^ min (ji16).toNat 64)) = ji18 := hji18
                      have hji18z : (ji16) ≤ 64 → (IntKind.i64.wrap (a1 * 2 ^ (ji16).toNat)) = ji18 := shl_small hji18
                      have hji18y : (wrap64 (a1 * 2 ^ min (ji16).toNat 64)) = ji18 := (i64_w _).symm.trans hji18_
                      have hji18x : (ji16) ≤ 64 → (wrap64 (a1 * 2 ^ (ji16).toNat)) = ji18 := fun h_ => (i64_w _).symm.trans (hji18z h_)
                      obtain rfl := Option.some.inj H
                      go_enter Try.func20, Try.ntmps20
                      go_wp2
                      go_ret
                      exact ⟨by first | rfl | (simp; done) | (simp only [← hji16, ← hji18] <;> (first | rfl | simp)) | (simp [*]; done), by repeat (first | exact Drawn0.refl _ | apply Drawn0.step)⟩
                    · rw [if_neg c17] at H
                      exact absurd H (by simp)
                  · rw [if_neg c15] at H
                    have c15b0 : (a0 == 12) = false := beq_eq_false_iff_ne.mpr c15
                    have c15b1 : (a0 != 12) = true := bne_iff_ne.mpr c15
                    by_cases c19 : a0 = 13
                    · rw [if_pos c19] at H
                      have c19b0 : (a0 == 13) = true := beq_iff_eq.mpr c19
                      have c19b1 : (a0 != 13) = false := bne_eq_false_iff_eq.mpr c19
                      clear c19
                      obtain ⟨ji20, hji20⟩ : ∃ j_ : Int, (IntKind.u64.wrap (Go.bits .and .i64 a2 63)) = j_ := ⟨_, rfl⟩
                      replace H : (if 0 ≤ (ji20) then (some (wrap64 (shr .u64 (IntKind.u64.wrap (a1)) (ji20)))) else (none)) = some r := by first | (rw [hji20] at H; exact H) | (simp only [hji20] at H ⊢; exact H)
                      by_cases c21 : 0 ≤ (ji20)
                      · rw [if_pos c21] at H
                        have c21b0 := eq_true c21
                        have c21b1 : decide (0 ≤ (ji20)) = true := decide_eq_true c21
                        clear c21
                        obtain ⟨ji22, hji22⟩ : ∃ j_ : Int, (shr .u64 (IntKind.u64.wrap (a1)) (ji20)) = j_ := ⟨_, rfl⟩
                        replace H : (some (wrap64 (ji22))) = some r := by first | (rw [hji22] at H; exact H) | (simp only [hji22] at H ⊢; exact H)
                        have hji22_ : ((IntKind.u64.wrap (a1)) / 2 ^ min (ji20).toNat 64) = ji22 := hji22
                        have hji22z : (ji20) ≤ 64 → ((IntKind.u64.wrap (a1)) / 2 ^ (ji20).toNat) = ji22 := shr_small hji22
                        obtain rfl := Option.some.inj H
                        go_enter Try.func20, Try.ntmps20
                        go_wp2
                        go_ret
                        exact ⟨by first | rfl | (simp; done) | (simp only [← hji20, ← hji22] <;> (first | rfl | simp)) | (simp [*]; done), by repeat (first | exact Drawn0.refl _ | apply Drawn0.step)⟩
                      · rw [if_neg c21] at H
                        exact absurd H (by simp)
                    · rw [if_neg c19] at H
                      have c19b0 : (a0 == 13) = false := beq_eq_false_iff_ne.mpr c19
                      have c19b1 : (a0 != 13) = true := bne_iff_ne.mpr c19
                      by_cases c23 : a0 = 14
                      · rw [if_pos c23] at H
                        have c23b0 : (a0 == 14) = true := beq_iff_eq.mpr c23
                        have c23b1 : (a0 != 14) = false := bne_eq_false_iff_eq.mpr c23
                        clear c23
                        obtain ⟨ji24, hji24⟩ : ∃ j_ : Int, (IntKind.u64.wrap (Go.bits .and .i64 a2 63)) = j_ := ⟨_, rfl⟩
                        replace H : (if 0 ≤ (ji24) then (some (shr .i64 a1 (ji24))) else (none)) = some r := by first | (rw [hji24] at H; exact H) | (simp only [hji24] at H ⊢; exact H)
                        by_cases c25 : 0 ≤ (ji24)
                        · rw [if_pos c25] at H
                          have c25b0 := eq_true c25
                          have c25b1 : decide (0 ≤ (ji24)) = true := decide_eq_true c25
                          clear c25
                          obtain ⟨ji26, hji26⟩ : ∃ j_ : Int, (shr .i64 a1 (ji24)) = j_ := ⟨_, rfl⟩
                          replace H : (some ji26) = some r := by first | (rw [hji26] at H; exact H) | (simp only [hji26] at H ⊢; exact H)
                          have hji26_ : (a1 / 2 ^ min (ji24).toNat 64) = ji26 := hji26
                          have hji26z : (ji24) ≤ 64 → (a1 / 2 ^ (ji24).toNat) = ji26 := shr_small hji26
                          obtain rfl := Option.some.inj H
                          go_enter Try.func20, Try.ntmps20
                          go_wp2
                          go_ret
                          exact ⟨by first | rfl | (simp; done) | (simp only [← hji24, ← hji26] <;> (first | rfl | simp)) | (simp [*]; done), by repeat (first | exact Drawn0.refl _ | apply Drawn0.step)⟩
                        · rw [if_neg c25] at H
                          exact absurd H (by simp)
                      · rw [if_neg c23] at H
                        have c23b0 : (a0 == 14) = false := beq_eq_false_iff_ne.mpr c23
                        have c23b1 : (a0 != 14) = true := bne_iff_ne.mpr c23
                        by_cases c27 : a0 = 15
                        · rw [if_pos c27] at H
                          have c27b0 : (a0 == 15) = true := beq_iff_eq.mpr c27
                          have c27b1 : (a0 != 15) = false := bne_eq_false_iff_eq.mpr c27
                          clear c27
                          replace H := Option.bind_eq_some_iff.mp H
                          obtain ⟨t172, A280, H⟩ := H
                          replace H : (some t172) = some r := H
                          have A28 := Aside0.mk A280
                          clear A280
                          obtain rfl := Option.some.inj H
                          go_enter Try.func20, Try.ntmps20
                          go_wp2_with (first | ((with_reducible refine gate_callee (f := 27) rfl ?_); refine goesL_ (some 81) rfl rfl Try.func27 (by kernel_rfl) rfl #[.bool (a1 == a2)] rfl (by (try simp only [List.map_toArray, List.map_cons, List.map_nil]); first | done | rfl | (simp only [List.length_drop, List.length_take]; rfl)) ?_; (with_reducible refine (fullingref1_boolWord.calls (a1 == a2) t172 _ A28.out).mono ?_); rintro e w' ⟨rfl, ⟨nd, rfl⟩⟩; refine ⟨_, rfl, ?_⟩))
                          go_ret
                          exact ⟨by first | rfl | (simp; done) | (simp [*]; done), by repeat (first | exact Drawn0.refl _ | apply Drawn0.step)⟩
                        · rw [if_neg c27] at H
                          have c27b0 : (a0 == 15) = false := beq_eq_false_iff_ne.mpr c27
                          have c27b1 : (a0 != 15) = true := bne_iff_ne.mpr c27
                          by_cases c29 : a0 = 16
                          · rw [if_pos c29] at H
                            have c29b0 : (a0 == 16) = true := beq_iff_eq.mpr c29
                            have c29b1 : (a0 != 16) = false := bne_eq_false_iff_eq.mpr c29
                            clear c29
                            replace H := Option.bind_eq_some_iff.mp H
                            obtain ⟨t173, A300, H⟩ := H
                            replace H : (some t173) = some r := H
                            have A30 := Aside0.mk A300
                            clear A300
                            obtain rfl := Option.some.inj H
                            go_enter Try.func20, Try.ntmps20
                            go_wp2_with (first | ((with_reducible refine gate_callee (f := 27) rfl ?_); refine goesL_ (some 87) rfl rfl Try.func27 (by kernel_rfl) rfl #[.bool (a1 != a2)] rfl (by (try simp only [List.map_toArray, List.map_cons, List.map_nil]); first | done | rfl | (simp only [List.length_drop, List.length_take]; rfl)) ?_; (with_reducible refine (fullingref1_boolWord.calls (a1 != a2) t173 _ A30.out).mono ?_); rintro e w' ⟨rfl, ⟨nd, rfl⟩⟩; refine ⟨_, rfl, ?_⟩))
                            go_ret
                            exact ⟨by first | rfl | (simp; done) | (simp [*]; done), by repeat (first | exact Drawn0.refl _ | apply Drawn0.step)⟩
                          · rw [if_neg c29] at H
                            have c29b0 : (a0 == 16) = false := beq_eq_false_iff_ne.mpr c29
                            have c29b1 : (a0 != 16) = true := bne_iff_ne.mpr c29
                            by_cases c31 : a0 = 17
                            · rw [if_pos c31] at H
                              have c31b0 : (a0 == 17) = true := beq_iff_eq.mpr c31
                              have c31b1 : (a0 != 17) = false := bne_eq_false_iff_eq.mpr c31
                              clear c31
                              replace H := Option.bind_eq_some_iff.mp H
                              obtain ⟨t174, A320, H⟩ := H
                              replace H : (some t174) = some r := H
                              have A32 := Aside0.mk A320
                              clear A320
                              obtain rfl := Option.some.inj H
                              go_enter Try.func20, Try.ntmps20
                              go_wp2_with (first | ((with_reducible refine gate_callee (f := 27) rfl ?_); refine goesL_ (some 93) rfl rfl Try.func27 (by kernel_rfl) rfl #[.bool (decide (a1 < a2))] rfl (by (try simp only [List.map_toArray, List.map_cons, List.map_nil]); first | done | rfl | (simp only [List.length_drop, List.length_take]; rfl)) ?_; (with_reducible refine (fullingref1_boolWord.calls (decide (a1 < a2)) t174 _ A32.out).mono ?_); rintro e w' ⟨rfl, ⟨nd, rfl⟩⟩; refine ⟨_, rfl, ?_⟩))
                              go_ret
                              exact ⟨by first | rfl | (simp; done) | (simp [*]; done), by repeat (first | exact Drawn0.refl _ | apply Drawn0.step)⟩
                            · rw [if_neg c31] at H
                              have c31b0 : (a0 == 17) = false := beq_eq_false_iff_ne.mpr c31
                              have c31b1 : (a0 != 17) = true := bne_iff_ne.mpr c31
                              by_cases c33 : a0 = 18
                              · rw [if_pos c33] at H
                                have c33b0 : (a0 == 18) = true := beq_iff_eq.mpr c33
                                have c33b1 : (a0 != 18) = false := bne_eq_false_iff_eq.mpr c33
                                clear c33
                                replace H := Option.bind_eq_some_iff.mp H
                                obtain ⟨t175, A340, H⟩ := H
                                replace H : (some t175) = some r := H
                                have A34 := Aside0.mk A340
                                clear A340
                                obtain rfl := Option.some.inj H
                                go_enter Try.func20, Try.ntmps20
                                go_wp2_with (first | ((with_reducible refine gate_callee (f := 27) rfl ?_); refine goesL_ (some 99) rfl rfl Try.func27 (by kernel_rfl) rfl #[.bool (decide (a1 ≤ a2))] rfl (by (try simp only [List.map_toArray, List.map_cons, List.map_nil]); first | done | rfl | (simp only [List.length_drop, List.length_take]; rfl)) ?_; (with_reducible refine (fullingref1_boolWord.calls (decide (a1 ≤ a2)) t175 _ A34.out).mono ?_); rintro e w' ⟨rfl, ⟨nd, rfl⟩⟩; refine ⟨_, rfl, ?_⟩))
                                go_ret
                                exact ⟨by first | rfl | (simp; done) | (simp [*]; done), by repeat (first | exact Drawn0.refl _ | apply Drawn0.step)⟩
                              · rw [if_neg c33] at H
                                have c33b0 : (a0 == 18) = false := beq_eq_false_iff_ne.mpr c33
                                have c33b1 : (a0 != 18) = true := bne_iff_ne.mpr c33
                                by_cases c35 : a0 = 19
                                · rw [if_pos c35] at H
                                  have c35b0 : (a0 == 19) = true := beq_iff_eq.mpr c35
                                  have c35b1 : (a0 != 19) = false := bne_eq_false_iff_eq.mpr c35
                                  clear c35
                                  replace H := Option.bind_eq_some_iff.mp H
                                  obtain ⟨t176, A360, H⟩ := H
                                  replace H : (some t176) = some r := H
                                  have A36 := Aside0.mk A360
                                  clear A360
                                  obtain rfl := Option.some.inj H
                                  go_enter Try.func20, Try.ntmps20
                                  go_wp2_with (first | ((with_reducible refine gate_callee (f := 27) rfl ?_); refine goesL_ (some 107) rfl rfl Try.func27 (by kernel_rfl) rfl #[.bool (decide ((IntKind.u64.wrap (a1)) < (IntKind.u64.wrap (a2))))] rfl (by (try simp only [List.map_toArray, List.map_cons, List.map_nil]); first | done | rfl | (simp only [List.length_drop, List.length_take]; rfl)) ?_; (with_reducible refine (fullingref1_boolWord.calls (decide ((IntKind.u64.wrap (a1)) < (IntKind.u64.wrap (a2)))) t176 _ A36.out).mono ?_); rintro e w' ⟨rfl, ⟨nd, rfl⟩⟩; refine ⟨_, rfl, ?_⟩))
                                  go_ret
                                  exact ⟨by first | rfl | (simp; done) | (simp [*]; done), by repeat (first | exact Drawn0.refl _ | apply Drawn0.step)⟩
                                · rw [if_neg c35] at H
                                  have c35b0 : (a0 == 19) = false := beq_eq_false_iff_ne.mpr c35
                                  have c35b1 : (a0 != 19) = true := bne_iff_ne.mpr c35
                                  obtain rfl := Option.some.inj H
                                  go_enter Try.func20, Try.ntmps20
                                  go_wp2
                                  go_ret
                                  exact ⟨by first | rfl | (simp; done) | (simp [*]; done), by repeat (first | exact Drawn0.refl _ | apply Drawn0.step)⟩

end Go.Proofs.Ytlilbddpelbngaa.PAll
