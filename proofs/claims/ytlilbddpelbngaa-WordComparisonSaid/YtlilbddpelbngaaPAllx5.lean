/- One part of this proof, by a program of this session (turned from the kit printer): what Go functions answer, as plain Lean functions, with the proof that the calls answer so. -/
import Derived.Test.YtlilbddpelbngaaPAllx0
import Derived.Test.YtlilbddpelbngaaPAllx1
import Derived.Test.YtlilbddpelbngaaPAllx2
import Derived.Test.YtlilbddpelbngaaPAllx3
import Derived.Test.YtlilbddpelbngaaPAllx4
namespace Go.Proofs.Ytlilbddpelbngaa.PAll
open Go.RowKit Go.Proofs.YtlilbddpelbngaaW.PrintWords Go.Proofs.YtlilbddpelbngaaW.PrintLast Go.Proofs.YtlilbddpelbngaaW.PrintMore
attribute [local go_sem] max2_int min2_int max_two min_two max_three min_three max_four min_four   -- for this text's walks alone
set_option linter.unusedVariables false
set_option linter.unusedSimpArgs false

/-! ### fullinglaw1_WordReference: function 10 -/
mutual
def fullinglaw1_WordReference.l0 : Nat → ByteArray → Int → Int → List Int → Int → Int → Option (Bool)
  | 0, _, _, _, _, _, _ => none
  | k + 1, x5, x13, x14, x35, x36, x37 => if x37 < x36 then (if 0 ≤ x37 then (if x37 < (x35.length : Int) then ((word_Unary.f (rd x35 x37) x13).bind fun t198 => ((fullingref1_Unary.f (rd x35 x37) x13).bind fun t199 => (if t198 = t199 then ((word_Binary.f (rd x35 x37) x13 x14).bind fun t200 => ((fullingref1_Binary.f (rd x35 x37) x13 x14).bind fun t201 => (if t200 = t201 then (fullinglaw1_WordReference.l0 k x5 x13 x14 x35 x36 (wrap64 (x37 + 1))) else (some false)))) else (some false)))) else (none)) else (none)) else ((fullingref1_Text.f k x13).bind fun t202 => ((fullingref1_Text.f k x13).bind fun t203 => (if 1 + t203.size ≤ 9223372036854775807 then ((fullingref1_Text.f k x13).bind fun t204 => (if 1 + t204.size ≤ 9223372036854775807 then ((fullingref1_Text.f k x13).bind fun t205 => (if t205.size + 1 ≤ 9223372036854775807 then ((fullingref1_Text.f k x14).bind fun t206 => (if 1 + t206.size ≤ 9223372036854775807 then ((some (([x5, t202, (⟨#[48]⟩ : ByteArray) ++ t203, (⟨#[45]⟩ : ByteArray) ++ t204, t205 ++ (⟨#[48]⟩ : ByteArray), (⟨#[43]⟩ : ByteArray) ++ t206] : List ByteArray) : List ByteArray)).bind fun y207 => (fullinglaw1_WordReference.l1 k x13 y207 (y207.length : Int) 0)) else (none))) else (none))) else (none))) else (none))))
def fullinglaw1_WordReference.l1 : Nat → Int → List ByteArray → Int → Int → Option (Bool)
  | 0, _, _, _, _ => none
  | k + 1, x13, x75, x76, x77 => if x77 < x76 then (if 0 ≤ x77 then (if x77 < (x75.length : Int) then ((word_Parse.f k (rdOf ByteArray.empty x75 x77)).bind fun bt214 => ((fullingref1_Parse.f k (rdOf ByteArray.empty x75 x77)).bind fun bt216 => (if bt214.1 = bt216.1 then (if (bt214.2 != bt216.2) = true then (some false) else (fullinglaw1_WordReference.l1 k x13 x75 x76 (wrap64 (x77 + 1)))) else (some false)))) else (none)) else (none)) else ((word_Text.f x13).bind fun t210 => ((fullingref1_Text.f k x13).bind fun t211 => (if t210.toList = t211.toList then ((fullinglaw1_WordExamples.f k).bind fun t212 => (some t212)) else (some false))))
end
def fullinglaw1_WordReference.f (k : Nat) (a0 : Int) (a1 : Int) (a2 : Int) (a3 : Int) (a4 : Int) (a5 : ByteArray) : Option (Bool) := (fullingkeep_Word.f a1 a3).bind fun t190 => ((fullingkeep_Word.f a2 a4).bind fun t191 => ((fullingkeep_Pick.f a0 36).bind fun t192 => ((fullingkeep_Pick.f a0 18).bind fun t193 => ((some (([a0, t192, wrap64 (4 + t193)] : List Int) : List Int)).bind fun y194 => (fullinglaw1_WordReference.l0 k a5 t190 t191 y194 (y194.length : Int) 0)))))
theorem fullinglaw1_WordReference.mono_l : ∀ k, (∀ y0 y1 y2 y3 y4 y5, LeO (fullinglaw1_WordReference.l0 k y0 y1 y2 y3 y4 y5) (fullinglaw1_WordReference.l0 (k + 1) y0 y1 y2 y3 y4 y5)) ∧ (∀ y0 y1 y2 y3, LeO (fullinglaw1_WordReference.l1 k y0 y1 y2 y3) (fullinglaw1_WordReference.l1 (k + 1) y0 y1 y2 y3))
  | 0 => ⟨fun _ _ _ _ _ _ r h => by simp [fullinglaw1_WordReference.l0] at h, fun _ _ _ _ r h => by simp [fullinglaw1_WordReference.l1] at h⟩
  | k + 1 => by
    obtain ⟨ih0, ih1⟩ := fullinglaw1_WordReference.mono_l k
    refine ⟨?_, ?_⟩
    · intro y0 y1 y2 y3 y4 y5
      unfold fullinglaw1_WordReference.l0
      repeat' first
      | (with_reducible exact ih0 _ _ _ _ _ _)
      | (with_reducible exact ih1 _ _ _ _)
      | (with_reducible exact fullinglaw1_WordExamples.mono _)
      | (with_reducible exact fullingref1_Parse.mono _ _)
      | (with_reducible exact fullingref1_Text.mono _ _)
      | (with_reducible exact word_Parse.mono _ _)
      | (with_reducible exact LeO.refl _)
      | (with_reducible exact LeO.none _)
      | (with_reducible refine LeO.ite ?_ ?_)
      | (with_reducible refine LeO.bind ?_ (fun _ => ?_))
      | exact ih0 _ _ _ _ _ _
      | exact ih1 _ _ _ _
      | exact fullinglaw1_WordExamples.mono _
      | exact fullingref1_Parse.mono _ _
      | exact fullingref1_Text.mono _ _
      | exact word_Parse.mono _ _
      | exact LeO.none _
      | refine LeO.ite ?_ ?_
      | refine LeO.bind ?_ (fun _ => ?_)
    · intro y0 y1 y2 y3
      unfold fullinglaw1_WordReference.l1
      repeat' first
      | (with_reducible exact ih0 _ _ _ _ _ _)
      | (with_reducible exact ih1 _ _ _ _)
      | (with_reducible exact fullinglaw1_WordExamples.mono _)
      | (with_reducible exact fullingref1_Parse.mono _ _)
      | (with_reducible exact fullingref1_Text.mono _ _)
      | (with_reducible exact word_Parse.mono _ _)
      | (with_reducible exact LeO.refl _)
      | (with_reducible exact LeO.none _)
      | (with_reducible refine LeO.ite ?_ ?_)
      | (with_reducible refine LeO.bind ?_ (fun _ => ?_))
      | exact ih0 _ _ _ _ _ _
      | exact ih1 _ _ _ _
      | exact fullinglaw1_WordExamples.mono _
      | exact fullingref1_Parse.mono _ _
      | exact fullingref1_Text.mono _ _
      | exact word_Parse.mono _ _
      | exact LeO.none _
      | refine LeO.ite ?_ ?_
      | refine LeO.bind ?_ (fun _ => ?_)
theorem fullinglaw1_WordReference.mono : ∀ a0 a1 a2 a3 a4 a5 k, LeO (fullinglaw1_WordReference.f k a0 a1 a2 a3 a4 a5) (fullinglaw1_WordReference.f (k + 1) a0 a1 a2 a3 a4 a5) := by
  intro a0 a1 a2 a3 a4 a5 k
  obtain ⟨ih0, ih1⟩ := fullinglaw1_WordReference.mono_l k
  unfold fullinglaw1_WordReference.f
  repeat' first
      | (with_reducible exact ih0 _ _ _ _ _ _)
      | (with_reducible exact ih1 _ _ _ _)
      | (with_reducible exact fullinglaw1_WordExamples.mono _)
      | (with_reducible exact fullingref1_Parse.mono _ _)
      | (with_reducible exact fullingref1_Text.mono _ _)
      | (with_reducible exact word_Parse.mono _ _)
      | (with_reducible exact LeO.refl _)
      | (with_reducible exact LeO.none _)
      | (with_reducible refine LeO.ite ?_ ?_)
      | (with_reducible refine LeO.bind ?_ (fun _ => ?_))
      | exact ih0 _ _ _ _ _ _
      | exact ih1 _ _ _ _
      | exact fullinglaw1_WordExamples.mono _
      | exact fullingref1_Parse.mono _ _
      | exact fullingref1_Text.mono _ _
      | exact word_Parse.mono _ _
      | exact LeO.none _
      | refine LeO.ite ?_ ?_
      | refine LeO.bind ?_ (fun _ => ?_)
set_option maxHeartbeats 8000000 in
set_option maxRecDepth 100000 in
theorem fullinglaw1_WordReference.calls (k : Nat) (a0 : Int) (a1 : Int) (a2 : Int) (a3 : Int) (a4 : Int) (a5 : ByteArray) (r : Bool) (w : World) (h : fullinglaw1_WordReference.f k a0 a1 a2 a3 a4 a5 = some r) :
    Calls Try.prog 10 #[.int .i64 a0, .int .i64 a1, .int .i64 a2, .int .i64 a3, .int .i64 a4, .string a5] w fun e w' => e = .returned (.bool r) ∧ Below w.heap.size w w' := by
  have HB := Aside0.mk (Below.refl w.heap.size w)
  have H : ((fullingkeep_Word.f a1 a3).bind fun t190 => ((fullingkeep_Word.f a2 a4).bind fun t191 => ((fullingkeep_Pick.f a0 36).bind fun t192 => ((fullingkeep_Pick.f a0 18).bind fun t193 => ((some (([a0, t192, wrap64 (4 + t193)] : List Int) : List Int)).bind fun y194 => (fullinglaw1_WordReference.l0 k a5 t190 t191 y194 (y194.length : Int) 0)))))) = some r := h
  clear h
  replace H := Option.bind_eq_some_iff.mp H
  obtain ⟨t190, A70, H⟩ := H
  replace H : ((fullingkeep_Word.f a2 a4).bind fun t191 => ((fullingkeep_Pick.f a0 36).bind fun t192 => ((fullingkeep_Pick.f a0 18).bind fun t193 => ((some (([a0, t192, wrap64 (4 + t193)] : List Int) : List Int)).bind fun y194 => (fullinglaw1_WordReference.l0 k a5 t190 t191 y194 (y194.length : Int) 0))))) = some r := H
  have A7 := Aside0.mk A70
  clear A70
  replace H := Option.bind_eq_some_iff.mp H
  obtain ⟨t191, A80, H⟩ := H
  replace H : ((fullingkeep_Pick.f a0 36).bind fun t192 => ((fullingkeep_Pick.f a0 18).bind fun t193 => ((some (([a0, t192, wrap64 (4 + t193)] : List Int) : List Int)).bind fun y194 => (fullinglaw1_WordReference.l0 k a5 t190 t191 y194 (y194.length : Int) 0)))) = some r := H
  have A8 := Aside0.mk A80
  clear A80
  replace H := Option.bind_eq_some_iff.mp H
  obtain ⟨t192, A90, H⟩ := H
  replace H : ((fullingkeep_Pick.f a0 18).bind fun t193 => ((some (([a0, t192, wrap64 (4 + t193)] : List Int) : List Int)).bind fun y194 => (fullinglaw1_WordReference.l0 k a5 t190 t191 y194 (y194.length : Int) 0))) = some r := H
  have A9 := Aside0.mk A90
  clear A90
  replace H := Option.bind_eq_some_iff.mp H
  obtain ⟨t193, A100, H⟩ := H
  replace H : ((some (([a0, t192, wrap64 (4 + t193)] : List Int) : List Int)).bind fun y194 => (fullinglaw1_WordReference.l0 k a5 t190 t191 y194 (y194.length : Int) 0)) = some r := H
  have A10 := Aside0.mk A100
  clear A100
  obtain ⟨y194, hy194⟩ : ∃ y_ : List Int, y_ = (([a0, t192, wrap64 (4 + t193)] : List Int)) := ⟨_, rfl⟩
  replace H : (fullinglaw1_WordReference.l0 k a5 t190 t191 y194 (y194.length : Int) 0) = some r := by first | (rw [hy194]; with_reducible exact H) | (have H2_ := (Option.bind_some _ _).symm.trans H; rw [hy194]; with_reducible exact H2_) | (have H2_ := (Option.bind_some _ _).symm.trans H; with_reducible exact H2_) | with_reducible exact H | (rw [hy194]; exact H) | exact H
  have Ny194 := Aside0.mk hy194
  clear hy194
  have H' := Aside0.mk H
  clear H
  go_enter Try.func10, Try.ntmps10
  go_wp2_with (first | ((with_reducible refine gate_callee (f := 16) rfl ?_); refine goesL_ (some 25) rfl rfl Try.func16 (by kernel_rfl) rfl #[.int .i64 a1, .int .i64 a3] rfl (by (try simp only [List.map_toArray, List.map_cons, List.map_nil]); first | done | rfl | (simp only [List.length_drop, List.length_take]; rfl)) ?_; (with_reducible refine (fullingkeep_Word.calls a1 a3 t190 _ A7.out).mono ?_); rintro e w11 ⟨rfl, hb⟩; refine ⟨_, rfl, ?_⟩; have n0_ := Aside0.mk (below_step (by repeat (first | (with_reducible first | exact HB.out | apply below_alloc | apply pw_below_drewN | apply below_drew1) | exact HB.out)) hb); clear HB; have HB := n0_; clear n0_; (try clear hb); (try clear hb2); (try clear hk); (try clear hi)) | ((with_reducible refine gate_callee (f := 16) rfl ?_); refine goesL_ (some 28) rfl rfl Try.func16 (by kernel_rfl) rfl #[.int .i64 a2, .int .i64 a4] rfl (by (try simp only [List.map_toArray, List.map_cons, List.map_nil]); first | done | rfl | (simp only [List.length_drop, List.length_take]; rfl)) ?_; (with_reducible refine (fullingkeep_Word.calls a2 a4 t191 _ A8.out).mono ?_); rintro e w12 ⟨rfl, hb⟩; refine ⟨_, rfl, ?_⟩; have n0_ := Aside0.mk (below_step (by repeat (first | (with_reducible first | exact HB.out | apply below_alloc | apply pw_below_drewN | apply below_drew1) | exact HB.out)) hb); clear HB; have HB := n0_; clear n0_; (try clear hb); (try clear hb2); (try clear hk); (try clear hi)) | ((with_reducible refine gate_callee (f := 17) rfl ?_); refine goesL_ (some 31) rfl rfl Try.func17 (by kernel_rfl) rfl #[.int .i64 a0, .int .i64 36] rfl (by (try simp only [List.map_toArray, List.map_cons, List.map_nil]); first | done | rfl | (simp only [List.length_drop, List.length_take]; rfl)) ?_; (with_reducible refine (fullingkeep_Pick.calls a0 36 t192 _ A9.out).mono ?_); rintro e w' ⟨rfl, ⟨nd, rfl⟩⟩; refine ⟨_, rfl, ?_⟩) | ((with_reducible refine gate_callee (f := 17) rfl ?_); refine goesL_ (some 33) rfl rfl Try.func17 (by kernel_rfl) rfl #[.int .i64 a0, .int .i64 18] rfl (by (try simp only [List.map_toArray, List.map_cons, List.map_nil]); first | done | rfl | (simp only [List.length_drop, List.length_take]; rfl)) ?_; (with_reducible refine (fullingkeep_Pick.calls a0 18 t193 _ A10.out).mono ?_); rintro e w' ⟨rfl, ⟨nd, rfl⟩⟩; refine ⟨_, rfl, ?_⟩) | ((with_reducible refine gate_dst (N := 35) rfl ?_); refine Kd.R_lit (Kd.int .i64) _ 3 ?hg (N := 35) ?hd (xs := ([a0, t192, wrap64 (4 + t193)] : List Int)) (inner := [.int .i64 a0, .int .i64 t192, .int .i64 (wrap64 (4 + t193))]) (ok := fun _ => True) (okp := fun _ => True) ?hr ?hp (fun _ hk => hk) trivial (Below.refl _ _) (Nat.le_refl _) (by simp) ?_; (case hd => rfl); (case hg => rfl); (case hr => first | (go_simp; done) | (go_simp; rfl)); (case hp => exact (Reps.one (show Kd.M (Kd.int .i64) _ _ _ a0 [.int .i64 a0] from rfl) (Reps.one (show Kd.M (Kd.int .i64) _ _ _ t192 [.int .i64 t192] from rfl) (Reps.one (show Kd.M (Kd.int .i64) _ _ _ (wrap64 (4 + t193)) [.int .i64 (wrap64 (4 + t193))] from rfl) (Reps.none _ _))))); intro v195 w13 ho14 hb hg_ hnew_; clear hg_ hnew_; (first | rw [← Ny194.out] at ho14 | (simp only [Int.reduceToNat] at ho14; rw [← Ny194.out] at ho14)); have n0_ := Aside0.mk (Kd.R_lower ho14 (below_size (by repeat (first | (with_reducible first | exact HB.out | apply below_alloc | apply pw_below_drewN | apply below_drew1) | exact HB.out)))); have n1_ := Aside0.mk (below_step (by repeat (first | (with_reducible first | exact HB.out | apply below_alloc | apply pw_below_drewN | apply below_drew1) | exact HB.out)) hb); clear HB; have HO196 := n0_; have HB := n1_; clear n0_ n1_; clear hb ho14; obtain ⟨Ao15, co15, eo15⟩ := Kd.R_slice HO196.out; subst eo15))
  go_loopg [37] k (fun kq v37 w' => ∃ (x37_1 : Int), v37 = .int .i64 x37_1 ∧ Aside0 (fullinglaw1_WordReference.l0 kq a5 t190 t191 y194 (y194.length : Int) x37_1 = some r) ∧ Aside0 (kq ≤ k) ∧ Aside0 (Kd.R (Kd.int .i64) 3 w' w.heap.size (fun _ => True) (.slice Ao15 y194.length co15) y194) ∧ Aside0 (Below w.heap.size w w'))
  case atStart => exact ⟨(0), (by first | rfl | (simp; done) | (simp [*]; done)), H', ⟨Nat.le_refl _⟩, ⟨by (with_reducible repeat (first | apply Kd.R_alloc | apply Kd.R_drewN | apply Kd.R_drew)); exact HO196.out⟩, ⟨by repeat (first | (with_reducible first | exact HB.out | apply below_alloc | apply pw_below_drewN | apply below_drew1) | exact HB.out)⟩⟩
  case round =>
    clear H'
    try clear c1
    try clear p2
    try clear p6
    try clear c10
    obtain ⟨x37_1, rfl, HA, HK1, HO_35, HB⟩ := hrel
    cases gk with
    | zero => exact absurd HA.out (by simp [fullinglaw1_WordReference.l0])
    | succ k1 =>
      have H := HA.out
      clear HA
      simp only [fullinglaw1_WordReference.l0] at H
      by_cases c16 : x37_1 < (y194.length : Int)
      · rw [if_pos c16] at H
        have c16b0 : decide (x37_1 < (y194.length : Int)) = true := decide_eq_true c16
        clear c16
        by_cases c17 : 0 ≤ x37_1
        · rw [if_pos c17] at H
          have c17b0 : decide (0 ≤ x37_1) = true := decide_eq_true c17
          clear c17
          by_cases c18 : x37_1 < (y194.length : Int)
          · rw [if_pos c18] at H
            have c18b0 : decide (x37_1 < (y194.length : Int)) = true := decide_eq_true c18
            clear c18
            replace H := Option.bind_eq_some_iff.mp H
            obtain ⟨t198, A190, H⟩ := H
            replace H : ((fullingref1_Unary.f (rd y194 x37_1) t190).bind fun t199 => (if t198 = t199 then ((word_Binary.f (rd y194 x37_1) t190 t191).bind fun t200 => ((fullingref1_Binary.f (rd y194 x37_1) t190 t191).bind fun t201 => (if t200 = t201 then (fullinglaw1_WordReference.l0 k1 a5 t190 t191 y194 (y194.length : Int) (wrap64 (x37_1 + 1))) else (some false)))) else (some false))) = some r := H
            have A19 := Aside0.mk A190
            clear A190
            replace H := Option.bind_eq_some_iff.mp H
            obtain ⟨t199, A200, H⟩ := H
            replace H : (if t198 = t199 then ((word_Binary.f (rd y194 x37_1) t190 t191).bind fun t200 => ((fullingref1_Binary.f (rd y194 x37_1) t190 t191).bind fun t201 => (if t200 = t201 then (fullinglaw1_WordReference.l0 k1 a5 t190 t191 y194 (y194.length : Int) (wrap64 (x37_1 + 1))) else (some false)))) else (some false)) = some r := H
            have A20 := Aside0.mk A200
            clear A200
            by_cases c21 : t198 = t199
            · rw [if_pos c21] at H
              have c21b0 : (t198 == t199) = true := beq_iff_eq.mpr c21
              have c21b1 : (t198 != t199) = false := bne_eq_false_iff_eq.mpr c21
              clear c21
              replace H := Option.bind_eq_some_iff.mp H
              obtain ⟨t200, A220, H⟩ := H
              replace H : ((fullingref1_Binary.f (rd y194 x37_1) t190 t191).bind fun t201 => (if t200 = t201 then (fullinglaw1_WordReference.l0 k1 a5 t190 t191 y194 (y194.length : Int) (wrap64 (x37_1 + 1))) else (some false))) = some r := H
              have A22 := Aside0.mk A220
              clear A220
              replace H := Option.bind_eq_some_iff.mp H
              obtain ⟨t201, A230, H⟩ := H
              replace H : (if t200 = t201 then (fullinglaw1_WordReference.l0 k1 a5 t190 t191 y194 (y194.length : Int) (wrap64 (x37_1 + 1))) else (some false)) = some r := H
              have A23 := Aside0.mk A230
              clear A230
              by_cases c24 : t200 = t201
              · rw [if_pos c24] at H
                have c24b0 : (t200 == t201) = true := beq_iff_eq.mpr c24
                have c24b1 : (t200 != t201) = false := bne_eq_false_iff_eq.mpr c24
                clear c24
                have H' := Aside0.mk H
                clear H
                have p197 : 0 ≤ (x37_1 : Int) := of_decide_eq_true (by first | (with_reducible assumption) | assumption)
                have q197 : x37_1 < (y194.length : Int) := of_decide_eq_true (by first | (with_reducible assumption) | assumption)
                obtain ⟨ad197, e197, hx197_0⟩ := Kd.at_int (Kd.R_reads' HO_35.out).2.2 x37_1 p197 q197
                cases e197
                replace p197 := eq_true p197
                replace q197 := eq_true q197
                go_wp2_with (first | ((with_reducible refine gate_callee (f := 18) rfl ?_); refine goesL_ (some 43) rfl rfl Try.func18 (by kernel_rfl) rfl #[.int .i64 (rd y194 x37_1), .int .i64 t190] rfl (by (try simp only [List.map_toArray, List.map_cons, List.map_nil]); first | done | rfl | (simp only [List.length_drop, List.length_take]; rfl)) ?_; (with_reducible refine (word_Unary.calls (rd y194 x37_1) t190 t198 _ A19.out).mono ?_); rintro e w' ⟨rfl, ⟨nd, rfl⟩⟩; refine ⟨_, rfl, ?_⟩) | ((with_reducible refine gate_callee (f := 19) rfl ?_); refine goesL_ (some 46) rfl rfl Try.func19 (by kernel_rfl) rfl #[.int .i64 (rd y194 x37_1), .int .i64 t190] rfl (by (try simp only [List.map_toArray, List.map_cons, List.map_nil]); first | done | rfl | (simp only [List.length_drop, List.length_take]; rfl)) ?_; (with_reducible refine (fullingref1_Unary.calls (rd y194 x37_1) t190 t199 _ A20.out).mono ?_); rintro e w' ⟨rfl, ⟨nd, rfl⟩⟩; refine ⟨_, rfl, ?_⟩) | (go_at_call 14; (with_reducible refine (word_Binary.calls (rd y194 x37_1) t190 t191 t200 _ A22.out).mono ?_); rintro e w' ⟨rfl, ⟨nd, rfl⟩⟩) | (go_at_call 20; (with_reducible refine (fullingref1_Binary.calls (rd y194 x37_1) t190 t191 t201 _ A23.out).mono ?_); rintro e w' ⟨rfl, ⟨nd, rfl⟩⟩))
                go_roundg k1
                case measure => have := HK1.out; omega
                case rel => exact ⟨(wrap64 (x37_1 + 1)), (by first | rfl | (simp; done) | (simp [*]; done)), H', ⟨by have := HK1.out; omega⟩, ⟨by (with_reducible repeat (first | apply Kd.R_alloc | apply Kd.R_drewN | apply Kd.R_drew)); exact HO_35.out⟩, ⟨by repeat (first | (with_reducible first | exact HB.out | apply below_alloc | apply pw_below_drewN | apply below_drew1) | exact HB.out)⟩⟩
              · rw [if_neg c24] at H
                have c24b0 : (t200 == t201) = false := beq_eq_false_iff_ne.mpr c24
                have c24b1 : (t200 != t201) = true := bne_iff_ne.mpr c24
                obtain rfl := Option.some.inj H
                have p197 : 0 ≤ (x37_1 : Int) := of_decide_eq_true (by first | (with_reducible assumption) | assumption)
                have q197 : x37_1 < (y194.length : Int) := of_decide_eq_true (by first | (with_reducible assumption) | assumption)
                obtain ⟨ad197, e197, hx197_0⟩ := Kd.at_int (Kd.R_reads' HO_35.out).2.2 x37_1 p197 q197
                cases e197
                replace p197 := eq_true p197
                replace q197 := eq_true q197
                go_wp2_with (first | ((with_reducible refine gate_callee (f := 18) rfl ?_); refine goesL_ (some 43) rfl rfl Try.func18 (by kernel_rfl) rfl #[.int .i64 (rd y194 x37_1), .int .i64 t190] rfl (by (try simp only [List.map_toArray, List.map_cons, List.map_nil]); first | done | rfl | (simp only [List.length_drop, List.length_take]; rfl)) ?_; (with_reducible refine (word_Unary.calls (rd y194 x37_1) t190 t198 _ A19.out).mono ?_); rintro e w' ⟨rfl, ⟨nd, rfl⟩⟩; refine ⟨_, rfl, ?_⟩) | ((with_reducible refine gate_callee (f := 19) rfl ?_); refine goesL_ (some 46) rfl rfl Try.func19 (by kernel_rfl) rfl #[.int .i64 (rd y194 x37_1), .int .i64 t190] rfl (by (try simp only [List.map_toArray, List.map_cons, List.map_nil]); first | done | rfl | (simp only [List.length_drop, List.length_take]; rfl)) ?_; (with_reducible refine (fullingref1_Unary.calls (rd y194 x37_1) t190 t199 _ A20.out).mono ?_); rintro e w' ⟨rfl, ⟨nd, rfl⟩⟩; refine ⟨_, rfl, ?_⟩) | (go_at_call 14; (with_reducible refine (word_Binary.calls (rd y194 x37_1) t190 t191 t200 _ A22.out).mono ?_); rintro e w' ⟨rfl, ⟨nd, rfl⟩⟩) | (go_at_call 20; (with_reducible refine (fullingref1_Binary.calls (rd y194 x37_1) t190 t191 t201 _ A23.out).mono ?_); rintro e w' ⟨rfl, ⟨nd, rfl⟩⟩))
                go_ret
                exact ⟨by first | rfl | (simp [errW_none, errW_some] <;> rfl) | (simp [*, errW_none, errW_some] <;> rfl), by repeat (first | (with_reducible first | exact HB.out | apply below_alloc | apply pw_below_drewN | apply below_drew1) | exact HB.out)⟩
            · rw [if_neg c21] at H
              have c21b0 : (t198 == t199) = false := beq_eq_false_iff_ne.mpr c21
              have c21b1 : (t198 != t199) = true := bne_iff_ne.mpr c21
              obtain rfl := Option.some.inj H
              have p197 : 0 ≤ (x37_1 : Int) := of_decide_eq_true (by first | (with_reducible assumption) | assumption)
              have q197 : x37_1 < (y194.length : Int) := of_decide_eq_true (by first | (with_reducible assumption) | assumption)
              obtain ⟨ad197, e197, hx197_0⟩ := Kd.at_int (Kd.R_reads' HO_35.out).2.2 x37_1 p197 q197
              cases e197
              replace p197 := eq_true p197
              replace q197 := eq_true q197
              go_wp2_with (first | ((with_reducible refine gate_callee (f := 18) rfl ?_); refine goesL_ (some 43) rfl rfl Try.func18 (by kernel_rfl) rfl #[.int .i64 (rd y194 x37_1), .int .i64 t190] rfl (by (try simp only [List.map_toArray, List.map_cons, List.map_nil]); first | done | rfl | (simp only [List.length_drop, List.length_take]; rfl)) ?_; (with_reducible refine (word_Unary.calls (rd y194 x37_1) t190 t198 _ A19.out).mono ?_); rintro e w' ⟨rfl, ⟨nd, rfl⟩⟩; refine ⟨_, rfl, ?_⟩) | ((with_reducible refine gate_callee (f := 19) rfl ?_); refine goesL_ (some 46) rfl rfl Try.func19 (by kernel_rfl) rfl #[.int .i64 (rd y194 x37_1), .int .i64 t190] rfl (by (try simp only [List.map_toArray, List.map_cons, List.map_nil]); first | done | rfl | (simp only [List.length_drop, List.length_take]; rfl)) ?_; (with_reducible refine (fullingref1_Unary.calls (rd y194 x37_1) t190 t199 _ A20.out).mono ?_); rintro e w' ⟨rfl, ⟨nd, rfl⟩⟩; refine ⟨_, rfl, ?_⟩))
              go_ret
              exact ⟨by first | rfl | (simp [errW_none, errW_some] <;> rfl) | (simp [*, errW_none, errW_some] <;> rfl), by repeat (first | (with_reducible first | exact HB.out | apply below_alloc | apply pw_below_drewN | apply below_drew1) | exact HB.out)⟩
          · rw [if_neg c18] at H
            exact absurd H (by simp)
        · rw [if_neg c17] at H
          exact absurd H (by simp)
      · rw [if_neg c16] at H
        have c16b0 : decide (x37_1 < (y194.length : Int)) = false := decide_eq_false c16
        clear c16
        replace H := Option.bind_eq_some_iff.mp H
        obtain ⟨t202, A250, H⟩ := H
        replace H : ((fullingref1_Text.f k1 t190).bind fun t203 => (if 1 + t203.size ≤ 9223372036854775807 then ((fullingref1_Text.f k1 t190).bind fun t204 => (if 1 + t204.size ≤ 9223372036854775807 then ((fullingref1_Text.f k1 t190).bind fun t205 => (if t205.size + 1 ≤ 9223372036854775807 then ((fullingref1_Text.f k1 t191).bind fun t206 => (if 1 + t206.size ≤ 9223372036854775807 then ((some (([a5, t202, (⟨#[48]⟩ : ByteArray) ++ t203, (⟨#[45]⟩ : ByteArray) ++ t204, t205 ++ (⟨#[48]⟩ : ByteArray), (⟨#[43]⟩ : ByteArray) ++ t206] : List ByteArray) : List ByteArray)).bind fun y207 => (fullinglaw1_WordReference.l1 k1 t190 y207 (y207.length : Int) 0)) else (none))) else (none))) else (none))) else (none))) = some r := H
        have A25 := Aside0.mk A250
        clear A250
        replace H := Option.bind_eq_some_iff.mp H
        obtain ⟨t203, A260, H⟩ := H
        replace H : (if 1 + t203.size ≤ 9223372036854775807 then ((fullingref1_Text.f k1 t190).bind fun t204 => (if 1 + t204.size ≤ 9223372036854775807 then ((fullingref1_Text.f k1 t190).bind fun t205 => (if t205.size + 1 ≤ 9223372036854775807 then ((fullingref1_Text.f k1 t191).bind fun t206 => (if 1 + t206.size ≤ 9223372036854775807 then ((some (([a5, t202, (⟨#[48]⟩ : ByteArray) ++ t203, (⟨#[45]⟩ : ByteArray) ++ t204, t205 ++ (⟨#[48]⟩ : ByteArray), (⟨#[43]⟩ : ByteArray) ++ t206] : List ByteArray) : List ByteArray)).bind fun y207 => (fullinglaw1_WordReference.l1 k1 t190 y207 (y207.length : Int) 0)) else (none))) else (none))) else (none))) else (none)) = some r := H
        have A26 := Aside0.mk A260
        clear A260
        by_cases c27 : 1 + t203.size ≤ 9223372036854775807
        · rw [if_pos c27] at H
          have c27b0 := eq_true c27
          have c27b1 : decide (1 + t203.size ≤ 9223372036854775807) = true := decide_eq_true c27
          try have c27b2 : (9223372036854775807 < 1 + t203.size) = False := eq_false (Nat.not_lt.2 c27)
          replace H := Option.bind_eq_some_iff.mp H
          obtain ⟨t204, A280, H⟩ := H
          replace H : (if 1 + t204.size ≤ 9223372036854775807 then ((fullingref1_Text.f k1 t190).bind fun t205 => (if t205.size + 1 ≤ 9223372036854775807 then ((fullingref1_Text.f k1 t191).bind fun t206 => (if 1 + t206.size ≤ 9223372036854775807 then ((some (([a5, t202, (⟨#[48]⟩ : ByteArray) ++ t203, (⟨#[45]⟩ : ByteArray) ++ t204, t205 ++ (⟨#[48]⟩ : ByteArray), (⟨#[43]⟩ : ByteArray) ++ t206] : List ByteArray) : List ByteArray)).bind fun y207 => (fullinglaw1_WordReference.l1 k1 t190 y207 (y207.length : Int) 0)) else (none))) else (none))) else (none)) = some r := H
          have A28 := Aside0.mk A280
          clear A280
          by_cases c29 : 1 + t204.size ≤ 9223372036854775807
          · rw [if_pos c29] at H
            have c29b0 := eq_true c29
            have c29b1 : decide (1 + t204.size ≤ 9223372036854775807) = true := decide_eq_true c29
            try have c29b2 : (9223372036854775807 < 1 + t204.size) = False := eq_false (Nat.not_lt.2 c29)
            replace H := Option.bind_eq_some_iff.mp H
            obtain ⟨t205, A300, H⟩ := H
            replace H : (if t205.size + 1 ≤ 9223372036854775807 then ((fullingref1_Text.f k1 t191).bind fun t206 => (if 1 + t206.size ≤ 9223372036854775807 then ((some (([a5, t202, (⟨#[48]⟩ : ByteArray) ++ t203, (⟨#[45]⟩ : ByteArray) ++ t204, t205 ++ (⟨#[48]⟩ : ByteArray), (⟨#[43]⟩ : ByteArray) ++ t206] : List ByteArray) : List ByteArray)).bind fun y207 => (fullinglaw1_WordReference.l1 k1 t190 y207 (y207.length : Int) 0)) else (none))) else (none)) = some r := H
            have A30 := Aside0.mk A300
            clear A300
            by_cases c31 : t205.size + 1 ≤ 9223372036854775807
            · rw [if_pos c31] at H
              have c31b0 := eq_true c31
              have c31b1 : decide (t205.size + 1 ≤ 9223372036854775807) = true := decide_eq_true c31
              try have c31b2 : (9223372036854775807 < t205.size + 1) = False := eq_false (Nat.not_lt.2 c31)
              replace H := Option.bind_eq_some_iff.mp H
              obtain ⟨t206, A320, H⟩ := H
              replace H : (if 1 + t206.size ≤ 9223372036854775807 then ((some (([a5, t202, (⟨#[48]⟩ : ByteArray) ++ t203, (⟨#[45]⟩ : ByteArray) ++ t204, t205 ++ (⟨#[48]⟩ : ByteArray), (⟨#[43]⟩ : ByteArray) ++ t206] : List ByteArray) : List ByteArray)).bind fun y207 => (fullinglaw1_WordReference.l1 k1 t190 y207 (y207.length : Int) 0)) else (none)) = some r := H
              have A32 := Aside0.mk A320
              clear A320
              by_cases c33 : 1 + t206.size ≤ 9223372036854775807
              · rw [if_pos c33] at H
                have c33b0 := eq_true c33
                have c33b1 : decide (1 + t206.size ≤ 9223372036854775807) = true := decide_eq_true c33
                try have c33b2 : (9223372036854775807 < 1 + t206.size) = False := eq_false (Nat.not_lt.2 c33)
                obtain ⟨y207, hy207⟩ : ∃ y_ : List ByteArray, y_ = (([a5, t202, (⟨#[48]⟩ : ByteArray) ++ t203, (⟨#[45]⟩ : ByteArray) ++ t204, t205 ++ (⟨#[48]⟩ : ByteArray), (⟨#[43]⟩ : ByteArray) ++ t206] : List ByteArray)) := ⟨_, rfl⟩
                replace H : (fullinglaw1_WordReference.l1 k1 t190 y207 (y207.length : Int) 0) = some r := by first | (rw [hy207]; with_reducible exact H) | (have H2_ := (Option.bind_some _ _).symm.trans H; rw [hy207]; with_reducible exact H2_) | (have H2_ := (Option.bind_some _ _).symm.trans H; with_reducible exact H2_) | with_reducible exact H | (rw [hy207]; exact H) | exact H
                have Ny207 := Aside0.mk hy207
                clear hy207
                have H' := Aside0.mk H
                clear H
                go_wp2_with (first | ((with_reducible refine gate_callee (f := 21) rfl ?_); refine goesL_ (some 62) rfl rfl Try.func21 (by kernel_rfl) rfl #[.int .i64 t190] rfl (by (try simp only [List.map_toArray, List.map_cons, List.map_nil]); first | done | rfl | (simp only [List.length_drop, List.length_take]; rfl)) ?_; (with_reducible refine (fullingref1_Text.calls k1 t190 t202 _ A25.out).mono ?_); rintro e w34 ⟨rfl, hb⟩; refine ⟨_, rfl, ?_⟩; have n0_ := Aside0.mk (Kd.R_below (by (with_reducible repeat (first | apply Kd.R_alloc | apply Kd.R_drewN | apply Kd.R_drew)); exact HO_35.out) hb); have n1_ := Aside0.mk (below_step (by repeat (first | (with_reducible first | exact HB.out | apply below_alloc | apply pw_below_drewN | apply below_drew1) | exact HB.out)) hb); clear HO_35; clear HB; have HO_35 := n0_; have HB := n1_; clear n0_ n1_; (try clear hb); (try clear hb2); (try clear hk); (try clear hi)) | ((with_reducible refine gate_callee (f := 21) rfl ?_); refine goesL_ (some 64) rfl rfl Try.func21 (by kernel_rfl) rfl #[.int .i64 t190] rfl (by (try simp only [List.map_toArray, List.map_cons, List.map_nil]); first | done | rfl | (simp only [List.length_drop, List.length_take]; rfl)) ?_; (with_reducible refine (fullingref1_Text.calls k1 t190 t203 _ A26.out).mono ?_); rintro e w35 ⟨rfl, hb⟩; refine ⟨_, rfl, ?_⟩; have n0_ := Aside0.mk (Kd.R_below (by (with_reducible repeat (first | apply Kd.R_alloc | apply Kd.R_drewN | apply Kd.R_drew)); exact HO_35.out) hb); have n1_ := Aside0.mk (below_step (by repeat (first | (with_reducible first | exact HB.out | apply below_alloc | apply pw_below_drewN | apply below_drew1) | exact HB.out)) hb); clear HO_35; clear HB; have HO_35 := n0_; have HB := n1_; clear n0_ n1_; (try clear hb); (try clear hb2); (try clear hk); (try clear hi)) | ((with_reducible refine gate_callee (f := 21) rfl ?_); refine goesL_ (some 67) rfl rfl Try.func21 (by kernel_rfl) rfl #[.int .i64 t190] rfl (by (try simp only [List.map_toArray, List.map_cons, List.map_nil]); first | done | rfl | (simp only [List.length_drop, List.length_take]; rfl)) ?_; (with_reducible refine (fullingref1_Text.calls k1 t190 t204 _ A28.out).mono ?_); rintro e w36 ⟨rfl, hb⟩; refine ⟨_, rfl, ?_⟩; have n0_ := Aside0.mk (Kd.R_below (by (with_reducible repeat (first | apply Kd.R_alloc | apply Kd.R_drewN | apply Kd.R_drew)); exact HO_35.out) hb); have n1_ := Aside0.mk (below_step (by repeat (first | (with_reducible first | exact HB.out | apply below_alloc | apply pw_below_drewN | apply below_drew1) | exact HB.out)) hb); clear HO_35; clear HB; have HO_35 := n0_; have HB := n1_; clear n0_ n1_; (try clear hb); (try clear hb2); (try clear hk); (try clear hi)) | ((with_reducible refine gate_callee (f := 21) rfl ?_); refine goesL_ (some 70) rfl rfl Try.func21 (by kernel_rfl) rfl #[.int .i64 t190] rfl (by (try simp only [List.map_toArray, List.map_cons, List.map_nil]); first | done | rfl | (simp only [List.length_drop, List.length_take]; rfl)) ?_; (with_reducible refine (fullingref1_Text.calls k1 t190 t205 _ A30.out).mono ?_); rintro e w37 ⟨rfl, hb⟩; refine ⟨_, rfl, ?_⟩; have n0_ := Aside0.mk (Kd.R_below (by (with_reducible repeat (first | apply Kd.R_alloc | apply Kd.R_drewN | apply Kd.R_drew)); exact HO_35.out) hb); have n1_ := Aside0.mk (below_step (by repeat (first | (with_reducible first | exact HB.out | apply below_alloc | apply pw_below_drewN | apply below_drew1) | exact HB.out)) hb); clear HO_35; clear HB; have HO_35 := n0_; have HB := n1_; clear n0_ n1_; (try clear hb); (try clear hb2); (try clear hk); (try clear hi)) | ((with_reducible refine gate_callee (f := 21) rfl ?_); refine goesL_ (some 73) rfl rfl Try.func21 (by kernel_rfl) rfl #[.int .i64 t191] rfl (by (try simp only [List.map_toArray, List.map_cons, List.map_nil]); first | done | rfl | (simp only [List.length_drop, List.length_take]; rfl)) ?_; (with_reducible refine (fullingref1_Text.calls k1 t191 t206 _ A32.out).mono ?_); rintro e w38 ⟨rfl, hb⟩; refine ⟨_, rfl, ?_⟩; have n0_ := Aside0.mk (Kd.R_below (by (with_reducible repeat (first | apply Kd.R_alloc | apply Kd.R_drewN | apply Kd.R_drew)); exact HO_35.out) hb); have n1_ := Aside0.mk (below_step (by repeat (first | (with_reducible first | exact HB.out | apply below_alloc | apply pw_below_drewN | apply below_drew1) | exact HB.out)) hb); clear HO_35; clear HB; have HO_35 := n0_; have HB := n1_; clear n0_ n1_; (try clear hb); (try clear hb2); (try clear hk); (try clear hi)) | ((with_reducible refine gate_dst (N := 75) rfl ?_); refine Kd.R_lit Kd.string _ 9 ?hg (N := 75) ?hd (xs := ([a5, t202, (⟨#[48]⟩ : ByteArray) ++ t203, (⟨#[45]⟩ : ByteArray) ++ t204, t205 ++ (⟨#[48]⟩ : ByteArray), (⟨#[43]⟩ : ByteArray) ++ t206] : List ByteArray)) (inner := [.string a5, .string t202, .string ((⟨#[48]⟩ : ByteArray) ++ t203), .string ((⟨#[45]⟩ : ByteArray) ++ t204), .string (t205 ++ (⟨#[48]⟩ : ByteArray)), .string ((⟨#[43]⟩ : ByteArray) ++ t206)]) (ok := fun _ => True) (okp := fun _ => True) ?hr ?hp (fun _ hk => hk) trivial (Below.refl _ _) (Nat.le_refl _) (by simp) ?_; (case hd => rfl); (case hg => rfl); (case hr => first | (go_simp; done) | (go_simp; rfl)); (case hp => exact (Reps.one (show Kd.M Kd.string _ _ _ a5 [.string a5] from rfl) (Reps.one (show Kd.M Kd.string _ _ _ t202 [.string t202] from rfl) (Reps.one (show Kd.M Kd.string _ _ _ ((⟨#[48]⟩ : ByteArray) ++ t203) [.string ((⟨#[48]⟩ : ByteArray) ++ t203)] from rfl) (Reps.one (show Kd.M Kd.string _ _ _ ((⟨#[45]⟩ : ByteArray) ++ t204) [.string ((⟨#[45]⟩ : ByteArray) ++ t204)] from rfl) (Reps.one (show Kd.M Kd.string _ _ _ (t205 ++ (⟨#[48]⟩ : ByteArray)) [.string (t205 ++ (⟨#[48]⟩ : ByteArray))] from rfl) (Reps.one (show Kd.M Kd.string _ _ _ ((⟨#[43]⟩ : ByteArray) ++ t206) [.string ((⟨#[43]⟩ : ByteArray) ++ t206)] from rfl) (Reps.none _ _)))))))); intro v208 w39 ho40 hb hg_ hnew_; clear hg_ hnew_; (first | rw [← Ny207.out] at ho40 | (simp only [Int.reduceToNat] at ho40; rw [← Ny207.out] at ho40)); have n0_ := Aside0.mk (Kd.R_below (by (with_reducible repeat (first | apply Kd.R_alloc | apply Kd.R_drewN | apply Kd.R_drew)); exact HO_35.out) hb); have n1_ := Aside0.mk (Kd.R_lower ho40 (below_size (by repeat (first | (with_reducible first | exact HB.out | apply below_alloc | apply pw_below_drewN | apply below_drew1) | exact HB.out)))); have n2_ := Aside0.mk (below_step (by repeat (first | (with_reducible first | exact HB.out | apply below_alloc | apply pw_below_drewN | apply below_drew1) | exact HB.out)) hb); clear HO_35; clear HB; have HO_35 := n0_; have HO209 := n1_; have HB := n2_; clear n0_ n1_ n2_; clear hb ho40; obtain ⟨Ao41, co41, eo41⟩ := Kd.R_slice HO209.out; subst eo41))
                go_loopg [77] k1 (fun kq v77 w' => ∃ (x77_2 : Int), v77 = .int .i64 x77_2 ∧ Aside0 (fullinglaw1_WordReference.l1 kq t190 y207 (y207.length : Int) x77_2 = some r) ∧ Aside0 (kq ≤ k1) ∧ Aside0 (Kd.R Kd.string 9 w' w.heap.size (fun _ => True) (.slice Ao41 y207.length co41) y207) ∧ Aside0 (Below w.heap.size w w'))
                case atStart => exact ⟨(0), (by first | rfl | (simp; done) | (simp [*]; done)), H', ⟨Nat.le_refl _⟩, ⟨by (with_reducible repeat (first | apply Kd.R_alloc | apply Kd.R_drewN | apply Kd.R_drew)); exact HO209.out⟩, ⟨by repeat (first | (with_reducible first | exact HB.out | apply below_alloc | apply pw_below_drewN | apply below_drew1) | exact HB.out)⟩⟩
                case round =>
                  clear H'
                  try clear c1
                  try clear p1
                  try clear q1
                  try clear hx1
                  try clear c2
                  try clear p2
                  try clear c3
                  try clear p6
                  try clear c10
                  try clear c16
                  try clear c16b0
                  try clear c17
                  try clear c17b0
                  try clear c18
                  try clear c18b0
                  try clear c19
                  try clear p19
                  try clear q19
                  try clear hx19
                  try clear c21
                  try clear c21b0
                  try clear c21b1
                  try clear c24
                  try clear c24b0
                  try clear c24b1
                  try clear c27
                  try clear c27b0
                  try clear c27b1
                  try clear c27b2
                  try clear c29
                  try clear c29b0
                  try clear c29b1
                  try clear c29b2
                  try clear c31
                  try clear c31b0
                  try clear c31b1
                  try clear c31b2
                  try clear c33
                  try clear c33b0
                  try clear c33b1
                  try clear c33b2
                  try clear hx197_0
                  try clear p197
                  try clear p2
                  try clear p6
                  try clear q197
                  obtain ⟨x77_2, rfl, HA, HK2, HO_75, HB⟩ := hrel
                  cases gk with
                  | zero => exact absurd HA.out (by simp [fullinglaw1_WordReference.l1])
                  | succ k2 =>
                    have H := HA.out
                    clear HA
                    simp only [fullinglaw1_WordReference.l1] at H
                    by_cases c42 : x77_2 < (y207.length : Int)
                    · rw [if_pos c42] at H
                      have c42b0 : decide (x77_2 < (y207.length : Int)) = true := decide_eq_true c42
                      clear c42
                      by_cases c43 : 0 ≤ x77_2
                      · rw [if_pos c43] at H
                        have c43b0 : decide (0 ≤ x77_2) = true := decide_eq_true c43
                        clear c43
                        by_cases c44 : x77_2 < (y207.length : Int)
                        · rw [if_pos c44] at H
                          have c44b0 : decide (x77_2 < (y207.length : Int)) = true := decide_eq_true c44
                          clear c44
                          replace H := Option.bind_eq_some_iff.mp H
                          obtain ⟨⟨t214, t215⟩, A450, H⟩ := H
                          replace H : ((fullingref1_Parse.f k2 (rdOf ByteArray.empty y207 x77_2)).bind fun bt216 => (if t214 = bt216.1 then (if (t215 != bt216.2) = true then (some false) else (fullinglaw1_WordReference.l1 k2 t190 y207 (y207.length : Int) (wrap64 (x77_2 + 1)))) else (some false))) = some r := H
                          have A45 := Aside0.mk A450
                          clear A450
                          replace H := Option.bind_eq_some_iff.mp H
                          obtain ⟨⟨t216, t217⟩, A460, H⟩ := H
                          replace H : (if t214 = t216 then (if (t215 != t217) = true then (some false) else (fullinglaw1_WordReference.l1 k2 t190 y207 (y207.length : Int) (wrap64 (x77_2 + 1)))) else (some false)) = some r := H
                          have A46 := Aside0.mk A460
                          clear A460
                          by_cases c47 : t214 = t216
                          · rw [if_pos c47] at H
                            have c47b0 : (t214 == t216) = true := beq_iff_eq.mpr c47
                            have c47b1 : (t214 != t216) = false := bne_eq_false_iff_eq.mpr c47
                            clear c47
                            by_cases c48 : (t215 != t217) = true
                            · rw [if_pos c48] at H
                              have c48b0 : (t215 != t217) = true := c48
                              (try (have c48b1 : decide (t215 = t217) = false := by simpa using c48))
                              (try (have c48b2 : (t215 == t217) = false := by simpa using c48))
                              (try (have c48b3 : ¬ (t215 = t217) := by simpa using c48))
                              clear c48
                              obtain rfl := Option.some.inj H
                              have p213 : 0 ≤ (x77_2 : Int) := of_decide_eq_true (by first | (with_reducible assumption) | assumption)
                              have q213 : x77_2 < (y207.length : Int) := of_decide_eq_true (by first | (with_reducible assumption) | assumption)
                              obtain ⟨ad213, e213, hx213_0⟩ := Kd.at_string (Kd.R_reads' HO_75.out).2.2 x77_2 p213 q213
                              cases e213
                              replace p213 := eq_true p213
                              replace q213 := eq_true q213
                              go_wp2_with (first | ((with_reducible refine gate_callee (f := 13) rfl ?_); refine goesL_ (some 83) rfl rfl Try.func13 (by kernel_rfl) rfl #[.string (rdOf ByteArray.empty y207 x77_2)] rfl (by (try simp only [List.map_toArray, List.map_cons, List.map_nil]); first | done | rfl | (simp only [List.length_drop, List.length_take]; rfl)) ?_; (with_reducible refine (word_Parse.calls k2 (rdOf ByteArray.empty y207 x77_2) t214 t215 _ A45.out).mono ?_); rintro e w' ⟨rfl, ⟨nd, rfl⟩⟩; refine ⟨_, rfl, ?_⟩) | ((with_reducible refine gate_callee (f := 22) rfl ?_); refine goesL_ (some 88) rfl rfl Try.func22 (by kernel_rfl) rfl #[.string (rdOf ByteArray.empty y207 x77_2)] rfl (by (try simp only [List.map_toArray, List.map_cons, List.map_nil]); first | done | rfl | (simp only [List.length_drop, List.length_take]; rfl)) ?_; (with_reducible refine (fullingref1_Parse.calls k2 (rdOf ByteArray.empty y207 x77_2) t216 t217 _ A46.out).mono ?_); rintro e w' ⟨rfl, ⟨nd, rfl⟩⟩; refine ⟨_, rfl, ?_⟩))
                              go_ret
                              exact ⟨by first | rfl | (simp [errW_none, errW_some] <;> rfl) | (simp [*, errW_none, errW_some] <;> rfl), by repeat (first | (with_reducible first | exact HB.out | apply below_alloc | apply pw_below_drewN | apply below_drew1) | exact HB.out)⟩
                            · rw [if_neg c48] at H
                              have c48b0 : (t215 != t217) = false := by simpa using c48
                              (try (have c48b1 : decide (t215 = t217) = true := by simpa using c48))
                              (try (have c48b2 : (t215 == t217) = true := by simpa using c48))
                              clear c48
                              have H' := Aside0.mk H
                              clear H
                              have p213 : 0 ≤ (x77_2 : Int) := of_decide_eq_true (by first | (with_reducible assumption) | assumption)
                              have q213 : x77_2 < (y207.length : Int) := of_decide_eq_true (by first | (with_reducible assumption) | assumption)
                              obtain ⟨ad213, e213, hx213_0⟩ := Kd.at_string (Kd.R_reads' HO_75.out).2.2 x77_2 p213 q213
                              cases e213
                              replace p213 := eq_true p213
                              replace q213 := eq_true q213
                              go_wp2_with (first | ((with_reducible refine gate_callee (f := 13) rfl ?_); refine goesL_ (some 83) rfl rfl Try.func13 (by kernel_rfl) rfl #[.string (rdOf ByteArray.empty y207 x77_2)] rfl (by (try simp only [List.map_toArray, List.map_cons, List.map_nil]); first | done | rfl | (simp only [List.length_drop, List.length_take]; rfl)) ?_; (with_reducible refine (word_Parse.calls k2 (rdOf ByteArray.empty y207 x77_2) t214 t215 _ A45.out).mono ?_); rintro e w' ⟨rfl, ⟨nd, rfl⟩⟩; refine ⟨_, rfl, ?_⟩) | ((with_reducible refine gate_callee (f := 22) rfl ?_); refine goesL_ (some 88) rfl rfl Try.func22 (by kernel_rfl) rfl #[.string (rdOf ByteArray.empty y207 x77_2)] rfl (by (try simp only [List.map_toArray, List.map_cons, List.map_nil]); first | done | rfl | (simp only [List.length_drop, List.length_take]; rfl)) ?_; (with_reducible refine (fullingref1_Parse.calls k2 (rdOf ByteArray.empty y207 x77_2) t216 t217 _ A46.out).mono ?_); rintro e w' ⟨rfl, ⟨nd, rfl⟩⟩; refine ⟨_, rfl, ?_⟩))
                              go_roundg k2
                              case measure => have := HK1.out; have := HK2.out; omega
                              case rel => exact ⟨(wrap64 (x77_2 + 1)), (by first | rfl | (simp; done) | (simp [*]; done)), H', ⟨by have := HK1.out; have := HK2.out; omega⟩, ⟨by (with_reducible repeat (first | apply Kd.R_alloc | apply Kd.R_drewN | apply Kd.R_drew)); exact HO_75.out⟩, ⟨by repeat (first | (with_reducible first | exact HB.out | apply below_alloc | apply pw_below_drewN | apply below_drew1) | exact HB.out)⟩⟩
                          · rw [if_neg c47] at H
                            have c47b0 : (t214 == t216) = false := beq_eq_false_iff_ne.mpr c47
                            have c47b1 : (t214 != t216) = true := bne_iff_ne.mpr c47
                            obtain rfl := Option.some.inj H
                            have p213 : 0 ≤ (x77_2 : Int) := of_decide_eq_true (by first | (with_reducible assumption) | assumption)
                            have q213 : x77_2 < (y207.length : Int) := of_decide_eq_true (by first | (with_reducible assumption) | assumption)
                            obtain ⟨ad213, e213, hx213_0⟩ := Kd.at_string (Kd.R_reads' HO_75.out).2.2 x77_2 p213 q213
                            cases e213
                            replace p213 := eq_true p213
                            replace q213 := eq_true q213
                            go_wp2_with (first | ((with_reducible refine gate_callee (f := 13) rfl ?_); refine goesL_ (some 83) rfl rfl Try.func13 (by kernel_rfl) rfl #[.string (rdOf ByteArray.empty y207 x77_2)] rfl (by (try simp only [List.map_toArray, List.map_cons, List.map_nil]); first | done | rfl | (simp only [List.length_drop, List.length_take]; rfl)) ?_; (with_reducible refine (word_Parse.calls k2 (rdOf ByteArray.empty y207 x77_2) t214 t215 _ A45.out).mono ?_); rintro e w' ⟨rfl, ⟨nd, rfl⟩⟩; refine ⟨_, rfl, ?_⟩) | ((with_reducible refine gate_callee (f := 22) rfl ?_); refine goesL_ (some 88) rfl rfl Try.func22 (by kernel_rfl) rfl #[.string (rdOf ByteArray.empty y207 x77_2)] rfl (by (try simp only [List.map_toArray, List.map_cons, List.map_nil]); first | done | rfl | (simp only [List.length_drop, List.length_take]; rfl)) ?_; (with_reducible refine (fullingref1_Parse.calls k2 (rdOf ByteArray.empty y207 x77_2) t216 t217 _ A46.out).mono ?_); rintro e w' ⟨rfl, ⟨nd, rfl⟩⟩; refine ⟨_, rfl, ?_⟩))
                            go_ret
                            exact ⟨by first | rfl | (simp [errW_none, errW_some] <;> rfl) | (simp [*, errW_none, errW_some] <;> rfl), by repeat (first | (with_reducible first | exact HB.out | apply below_alloc | apply pw_below_drewN | apply below_drew1) | exact HB.out)⟩
                        · rw [if_neg c44] at H
                          exact absurd H (by simp)
                      · rw [if_neg c43] at H
                        exact absurd H (by simp)
                    · rw [if_neg c42] at H
                      have c42b0 : decide (x77_2 < (y207.length : Int)) = false := decide_eq_false c42
                      clear c42
                      replace H := Option.bind_eq_some_iff.mp H
                      obtain ⟨t210, A490, H⟩ := H
                      replace H : ((fullingref1_Text.f k2 t190).bind fun t211 => (if t210.toList = t211.toList then ((fullinglaw1_WordExamples.f k2).bind fun t212 => (some t212)) else (some false))) = some r := H
                      have A49 := Aside0.mk A490
                      clear A490
                      replace H := Option.bind_eq_some_iff.mp H
                      obtain ⟨t211, A500, H⟩ := H
                      replace H : (if t210.toList = t211.toList then ((fullinglaw1_WordExamples.f k2).bind fun t212 => (some t212)) else (some false)) = some r := H
                      have A50 := Aside0.mk A500
                      clear A500
                      by_cases c51 : t210.toList = t211.toList
                      · rw [if_pos c51] at H
                        have c51b0 : (t210.toList == t211.toList) = true := beq_iff_eq.mpr c51
                        have c51b1 : (t210.toList != t211.toList) = false := bne_eq_false_iff_eq.mpr c51
                        clear c51
                        replace H := Option.bind_eq_some_iff.mp H
                        obtain ⟨t212, A520, H⟩ := H
                        replace H : (some t212) = some r := H
                        have A52 := Aside0.mk A520
                        clear A520
                        obtain rfl := Option.some.inj H
                        go_wp2_with (first | ((with_reducible refine gate_callee (f := 15) rfl ?_); refine goesL_ (some 101) rfl rfl Try.func15 (by kernel_rfl) rfl #[.int .i64 t190] rfl (by (try simp only [List.map_toArray, List.map_cons, List.map_nil]); first | done | rfl | (simp only [List.length_drop, List.length_take]; rfl)) ?_; (with_reducible refine (word_Text.calls t190 t210 _ A49.out).mono ?_); rintro e w53 ⟨rfl, hb⟩; refine ⟨_, rfl, ?_⟩; have n0_ := Aside0.mk (Kd.R_below (by (with_reducible repeat (first | apply Kd.R_alloc | apply Kd.R_drewN | apply Kd.R_drew)); exact HO_75.out) hb); have n1_ := Aside0.mk (below_step (by repeat (first | (with_reducible first | exact HB.out | apply below_alloc | apply pw_below_drewN | apply below_drew1) | exact HB.out)) hb); clear HO_75; clear HB; have HO_75 := n0_; have HB := n1_; clear n0_ n1_; (try clear hb); (try clear hb2); (try clear hk); (try clear hi)) | ((with_reducible refine gate_callee (f := 21) rfl ?_); refine goesL_ (some 103) rfl rfl Try.func21 (by kernel_rfl) rfl #[.int .i64 t190] rfl (by (try simp only [List.map_toArray, List.map_cons, List.map_nil]); first | done | rfl | (simp only [List.length_drop, List.length_take]; rfl)) ?_; (with_reducible refine (fullingref1_Text.calls k2 t190 t211 _ A50.out).mono ?_); rintro e w54 ⟨rfl, hb⟩; refine ⟨_, rfl, ?_⟩; have n0_ := Aside0.mk (Kd.R_below (by (with_reducible repeat (first | apply Kd.R_alloc | apply Kd.R_drewN | apply Kd.R_drew)); exact HO_75.out) hb); have n1_ := Aside0.mk (below_step (by repeat (first | (with_reducible first | exact HB.out | apply below_alloc | apply pw_below_drewN | apply below_drew1) | exact HB.out)) hb); clear HO_75; clear HB; have HO_75 := n0_; have HB := n1_; clear n0_ n1_; (try clear hb); (try clear hb2); (try clear hk); (try clear hi)) | (go_at_call 3; (with_reducible refine (fullinglaw1_WordExamples.calls k2  t212 _ A52.out).mono ?_); rintro e w55 ⟨rfl, hb⟩; have n0_ := Aside0.mk (Kd.R_below (by (with_reducible repeat (first | apply Kd.R_alloc | apply Kd.R_drewN | apply Kd.R_drew)); exact HO_75.out) hb); have n1_ := Aside0.mk (below_step (by repeat (first | (with_reducible first | exact HB.out | apply below_alloc | apply pw_below_drewN | apply below_drew1) | exact HB.out)) hb); clear HO_75; clear HB; have HO_75 := n0_; have HB := n1_; clear n0_ n1_; (try clear hb); (try clear hb2); (try clear hk); (try clear hi)))
                        go_ret
                        exact ⟨by first | rfl | (simp [errW_none, errW_some] <;> rfl) | (simp [*, errW_none, errW_some] <;> rfl), by repeat (first | (with_reducible first | exact HB.out | apply below_alloc | apply pw_below_drewN | apply below_drew1) | exact HB.out)⟩
                      · rw [if_neg c51] at H
                        have c51b0 : (t210.toList == t211.toList) = false := beq_eq_false_iff_ne.mpr c51
                        have c51b1 : (t210.toList != t211.toList) = true := bne_iff_ne.mpr c51
                        obtain rfl := Option.some.inj H
                        go_wp2_with (first | ((with_reducible refine gate_callee (f := 15) rfl ?_); refine goesL_ (some 101) rfl rfl Try.func15 (by kernel_rfl) rfl #[.int .i64 t190] rfl (by (try simp only [List.map_toArray, List.map_cons, List.map_nil]); first | done | rfl | (simp only [List.length_drop, List.length_take]; rfl)) ?_; (with_reducible refine (word_Text.calls t190 t210 _ A49.out).mono ?_); rintro e w56 ⟨rfl, hb⟩; refine ⟨_, rfl, ?_⟩; have n0_ := Aside0.mk (Kd.R_below (by (with_reducible repeat (first | apply Kd.R_alloc | apply Kd.R_drewN | apply Kd.R_drew)); exact HO_75.out) hb); have n1_ := Aside0.mk (below_step (by repeat (first | (with_reducible first | exact HB.out | apply below_alloc | apply pw_below_drewN | apply below_drew1) | exact HB.out)) hb); clear HO_75; clear HB; have HO_75 := n0_; have HB := n1_; clear n0_ n1_; (try clear hb); (try clear hb2); (try clear hk); (try clear hi)) | ((with_reducible refine gate_callee (f := 21) rfl ?_); refine goesL_ (some 103) rfl rfl Try.func21 (by kernel_rfl) rfl #[.int .i64 t190] rfl (by (try simp only [List.map_toArray, List.map_cons, List.map_nil]); first | done | rfl | (simp only [List.length_drop, List.length_take]; rfl)) ?_; (with_reducible refine (fullingref1_Text.calls k2 t190 t211 _ A50.out).mono ?_); rintro e w57 ⟨rfl, hb⟩; refine ⟨_, rfl, ?_⟩; have n0_ := Aside0.mk (Kd.R_below (by (with_reducible repeat (first | apply Kd.R_alloc | apply Kd.R_drewN | apply Kd.R_drew)); exact HO_75.out) hb); have n1_ := Aside0.mk (below_step (by repeat (first | (with_reducible first | exact HB.out | apply below_alloc | apply pw_below_drewN | apply below_drew1) | exact HB.out)) hb); clear HO_75; clear HB; have HO_75 := n0_; have HB := n1_; clear n0_ n1_; (try clear hb); (try clear hb2); (try clear hk); (try clear hi)))
                        go_ret
                        exact ⟨by first | rfl | (simp [errW_none, errW_some] <;> rfl) | (simp [*, errW_none, errW_some] <;> rfl), by repeat (first | (with_reducible first | exact HB.out | apply below_alloc | apply pw_below_drewN | apply below_drew1) | exact HB.out)⟩
              · rw [if_neg c33] at H
                exact absurd H (by simp)
            · rw [if_neg c31] at H
              exact absurd H (by simp)
          · rw [if_neg c29] at H
            exact absurd H (by simp)
        · rw [if_neg c27] at H
          exact absurd H (by simp)

/-- THE ONE PURE STATEMENT of fullinglaw1_WordReference: yours. -/
def fullinglaw1_WordReference.Pure : Prop := ∀ (a0 : Int) (a1 : Int) (a2 : Int) (a3 : Int) (a4 : Int) (a5 : ByteArray), (Lit.int .i64 a0).wf = true → (Lit.int .i64 a1).wf = true → (Lit.int .i64 a2).wf = true → (Lit.int .i64 a3).wf = true → (Lit.int .i64 a4).wf = true → a5.size ≤ 140737488351232 → ∃ k, fullinglaw1_WordReference.f k a0 a1 a2 a3 a4 a5 = some true
theorem fullinglaw1_WordReference.walk (P : fullinglaw1_WordReference.Pure) (a0 : Int) (a1 : Int) (a2 : Int) (a3 : Int) (a4 : Int) (a5 : ByteArray) (w : World) (w0 : (Lit.int .i64 a0).wf = true) (w1 : (Lit.int .i64 a1).wf = true) (w2 : (Lit.int .i64 a2).wf = true) (w3 : (Lit.int .i64 a3).wf = true) (w4 : (Lit.int .i64 a4).wf = true) (w5 : a5.size ≤ 140737488351232) :
    Calls Try.prog 10 #[.int .i64 a0, .int .i64 a1, .int .i64 a2, .int .i64 a3, .int .i64 a4, .string a5] w fun e w' => e = .returned (.bool true) ∧ Below w.heap.size w w' := by
  obtain ⟨k, h⟩ := P a0 a1 a2 a3 a4 a5 w0 w1 w2 w3 w4 w5
  refine (fullinglaw1_WordReference.calls k a0 a1 a2 a3 a4 a5 true w h).mono ?_
  rintro e w' ⟨rfl, hd⟩
  exact ⟨rfl, hd⟩

/-! ### fullinglaw1_WordRingLaws: function 11 -/
def fullinglaw1_WordRingLaws.f (k : Nat) (a0 : Int) (a1 : Int) (a2 : Int) : Option (Bool) := (word_Binary.f 4 a0 a1).bind fun t218 => ((word_Binary.f 6 a0 a1).bind fun t219 => ((word_Binary.f 6 a2 t218).bind fun t220 => ((word_Binary.f 6 a2 a0).bind fun t221 => ((word_Binary.f 6 a2 a1).bind fun t222 => ((word_Binary.f 4 t221 t222).bind fun t223 => ((word_Binary.f 4 a1 a0).bind fun t224 => (if t218 = t224 then ((word_Binary.f 6 a1 a0).bind fun t225 => (if t219 = t225 then (if t220 = t223 then ((word_Binary.f 5 t218 a1).bind fun t226 => (if t226 = a0 then ((word_Unary.f 20 a0).bind fun t227 => ((word_Binary.f 4 a0 t227).bind fun t228 => (if t228 = 0 then ((word_Unary.f 21 a0).bind fun t229 => ((word_Binary.f 5 (-1) a0).bind fun t230 => (if t229 = t230 then ((word_Binary.f 6 t219 a2).bind fun t231 => ((word_Binary.f 6 a1 a2).bind fun t232 => ((word_Binary.f 6 a0 t232).bind fun t233 => (if t231 = t233 then ((fullinglaw1_WordExamples.f k).bind fun t234 => (some t234)) else (some false))))) else (some false)))) else (some false)))) else (some false))) else (some false)) else (some false))) else (some false))))))))
theorem fullinglaw1_WordRingLaws.mono : ∀ a0 a1 a2 k, LeO (fullinglaw1_WordRingLaws.f k a0 a1 a2) (fullinglaw1_WordRingLaws.f (k + 1) a0 a1 a2) := by
  intro a0 a1 a2 k
  unfold fullinglaw1_WordRingLaws.f
  repeat' first
      | (with_reducible exact fullinglaw1_WordExamples.mono _)
      | (with_reducible exact LeO.refl _)
      | (with_reducible exact LeO.none _)
      | (with_reducible refine LeO.ite ?_ ?_)
      | (with_reducible refine LeO.bind ?_ (fun _ => ?_))
      | exact fullinglaw1_WordExamples.mono _
      | exact LeO.none _
      | refine LeO.ite ?_ ?_
      | refine LeO.bind ?_ (fun _ => ?_)
set_option maxHeartbeats 8000000 in
set_option maxRecDepth 100000 in
theorem fullinglaw1_WordRingLaws.calls (k : Nat) (a0 : Int) (a1 : Int) (a2 : Int) (r : Bool) (w : World) (h : fullinglaw1_WordRingLaws.f k a0 a1 a2 = some r) :
    Calls Try.prog 11 #[.int .i64 a0, .int .i64 a1, .int .i64 a2] w fun e w' => e = .returned (.bool r) ∧ Below w.heap.size w w' := by
  have HB := Aside0.mk (Below.refl w.heap.size w)
  have H : ((word_Binary.f 4 a0 a1).bind fun t218 => ((word_Binary.f 6 a0 a1).bind fun t219 => ((word_Binary.f 6 a2 t218).bind fun t220 => ((word_Binary.f 6 a2 a0).bind fun t221 => ((word_Binary.f 6 a2 a1).bind fun t222 => ((word_Binary.f 4 t221 t222).bind fun t223 => ((word_Binary.f 4 a1 a0).bind fun t224 => (if t218 = t224 then ((word_Binary.f 6 a1 a0).bind fun t225 => (if t219 = t225 then (if t220 = t223 then ((word_Binary.f 5 t218 a1).bind fun t226 => (if t226 = a0 then ((word_Unary.f 20 a0).bind fun t227 => ((word_Binary.f 4 a0 t227).bind fun t228 => (if t228 = 0 then ((word_Unary.f 21 a0).bind fun t229 => ((word_Binary.f 5 (-1) a0).bind fun t230 => (if t229 = t230 then ((word_Binary.f 6 t219 a2).bind fun t231 => ((word_Binary.f 6 a1 a2).bind fun t232 => ((word_Binary.f 6 a0 t232).bind fun t233 => (if t231 = t233 then ((fullinglaw1_WordExamples.f k).bind fun t234 => (some t234)) else (some false))))) else (some false)))) else (some false)))) else (some false))) else (some false)) else (some false))) else (some false))))))))) = some r := h
  clear h
  replace H := Option.bind_eq_some_iff.mp H
  obtain ⟨t218, A40, H⟩ := H
  replace H : ((word_Binary.f 6 a0 a1).bind fun t219 => ((word_Binary.f 6 a2 t218).bind fun t220 => ((word_Binary.f 6 a2 a0).bind fun t221 => ((word_Binary.f 6 a2 a1).bind fun t222 => ((word_Binary.f 4 t221 t222).bind fun t223 => ((word_Binary.f 4 a1 a0).bind fun t224 => (if t218 = t224 then ((word_Binary.f 6 a1 a0).bind fun t225 => (if t219 = t225 then (if t220 = t223 then ((word_Binary.f 5 t218 a1).bind fun t226 => (if t226 = a0 then ((word_Unary.f 20 a0).bind fun t227 => ((word_Binary.f 4 a0 t227).bind fun t228 => (if t228 = 0 then ((word_Unary.f 21 a0).bind fun t229 => ((word_Binary.f 5 (-1) a0).bind fun t230 => (if t229 = t230 then ((word_Binary.f 6 t219 a2).bind fun t231 => ((word_Binary.f 6 a1 a2).bind fun t232 => ((word_Binary.f 6 a0 t232).bind fun t233 => (if t231 = t233 then ((fullinglaw1_WordExamples.f k).bind fun t234 => (some t234)) else (some false))))) else (some false)))) else (some false)))) else (some false))) else (some false)) else (some false))) else (some false)))))))) = some r := H
  have A4 := Aside0.mk A40
  clear A40
  replace H := Option.bind_eq_some_iff.mp H
  obtain ⟨t219, A50, H⟩ := H
  replace H : ((word_Binary.f 6 a2 t218).bind fun t220 => ((word_Binary.f 6 a2 a0).bind fun t221 => ((word_Binary.f 6 a2 a1).bind fun t222 => ((word_Binary.f 4 t221 t222).bind fun t223 => ((word_Binary.f 4 a1 a0).bind fun t224 => (if t218 = t224 then ((word_Binary.f 6 a1 a0).bind fun t225 => (if t219 = t225 then (if t220 = t223 then ((word_Binary.f 5 t218 a1).bind fun t226 => (if t226 = a0 then ((word_Unary.f 20 a0).bind fun t227 => ((word_Binary.f 4 a0 t227).bind fun t228 => (if t228 = 0 then ((word_Unary.f 21 a0).bind fun t229 => ((word_Binary.f 5 (-1) a0).bind fun t230 => (if t229 = t230 then ((word_Binary.f 6 t219 a2).bind fun t231 => ((word_Binary.f 6 a1 a2).bind fun t232 => ((word_Binary.f 6 a0 t232).bind fun t233 => (if t231 = t233 then ((fullinglaw1_WordExamples.f k).bind fun t234 => (some t234)) else (some false))))) else (some false)))) else (some false)))) else (some false))) else (some false)) else (some false))) else (some false))))))) = some r := H
  have A5 := Aside0.mk A50
  clear A50
  replace H := Option.bind_eq_some_iff.mp H
  obtain ⟨t220, A60, H⟩ := H
  replace H : ((word_Binary.f 6 a2 a0).bind fun t221 => ((word_Binary.f 6 a2 a1).bind fun t222 => ((word_Binary.f 4 t221 t222).bind fun t223 => ((word_Binary.f 4 a1 a0).bind fun t224 => (if t218 = t224 then ((word_Binary.f 6 a1 a0).bind fun t225 => (if t219 = t225 then (if t220 = t223 then ((word_Binary.f 5 t218 a1).bind fun t226 => (if t226 = a0 then ((word_Unary.f 20 a0).bind fun t227 => ((word_Binary.f 4 a0 t227).bind fun t228 => (if t228 = 0 then ((word_Unary.f 21 a0).bind fun t229 => ((word_Binary.f 5 (-1) a0).bind fun t230 => (if t229 = t230 then ((word_Binary.f 6 t219 a2).bind fun t231 => ((word_Binary.f 6 a1 a2).bind fun t232 => ((word_Binary.f 6 a0 t232).bind fun t233 => (if t231 = t233 then ((fullinglaw1_WordExamples.f k).bind fun t234 => (some t234)) else (some false))))) else (some false)))) else (some false)))) else (some false))) else (some false)) else (some false))) else (some false)))))) = some r := H
  have A6 := Aside0.mk A60
  clear A60
  replace H := Option.bind_eq_some_iff.mp H
  obtain ⟨t221, A70, H⟩ := H
  replace H : ((word_Binary.f 6 a2 a1).bind fun t222 => ((word_Binary.f 4 t221 t222).bind fun t223 => ((word_Binary.f 4 a1 a0).bind fun t224 => (if t218 = t224 then ((word_Binary.f 6 a1 a0).bind fun t225 => (if t219 = t225 then (if t220 = t223 then ((word_Binary.f 5 t218 a1).bind fun t226 => (if t226 = a0 then ((word_Unary.f 20 a0).bind fun t227 => ((word_Binary.f 4 a0 t227).bind fun t228 => (if t228 = 0 then ((word_Unary.f 21 a0).bind fun t229 => ((word_Binary.f 5 (-1) a0).bind fun t230 => (if t229 = t230 then ((word_Binary.f 6 t219 a2).bind fun t231 => ((word_Binary.f 6 a1 a2).bind fun t232 => ((word_Binary.f 6 a0 t232).bind fun t233 => (if t231 = t233 then ((fullinglaw1_WordExamples.f k).bind fun t234 => (some t234)) else (some false))))) else (some false)))) else (some false)))) else (some false))) else (some false)) else (some false))) else (some false))))) = some r := H
  have A7 := Aside0.mk A70
  clear A70
  replace H := Option.bind_eq_some_iff.mp H
  obtain ⟨t222, A80, H⟩ := H
  replace H : ((word_Binary.f 4 t221 t222).bind fun t223 => ((word_Binary.f 4 a1 a0).bind fun t224 => (if t218 = t224 then ((word_Binary.f 6 a1 a0).bind fun t225 => (if t219 = t225 then (if t220 = t223 then ((word_Binary.f 5 t218 a1).bind fun t226 => (if t226 = a0 then ((word_Unary.f 20 a0).bind fun t227 => ((word_Binary.f 4 a0 t227).bind fun t228 => (if t228 = 0 then ((word_Unary.f 21 a0).bind fun t229 => ((word_Binary.f 5 (-1) a0).bind fun t230 => (if t229 = t230 then ((word_Binary.f 6 t219 a2).bind fun t231 => ((word_Binary.f 6 a1 a2).bind fun t232 => ((word_Binary.f 6 a0 t232).bind fun t233 => (if t231 = t233 then ((fullinglaw1_WordExamples.f k).bind fun t234 => (some t234)) else (some false))))) else (some false)))) else (some false)))) else (some false))) else (some false)) else (some false))) else (some false)))) = some r := H
  have A8 := Aside0.mk A80
  clear A80
  replace H := Option.bind_eq_some_iff.mp H
  obtain ⟨t223, A90, H⟩ := H
  replace H : ((word_Binary.f 4 a1 a0).bind fun t224 => (if t218 = t224 then ((word_Binary.f 6 a1 a0).bind fun t225 => (if t219 = t225 then (if t220 = t223 then ((word_Binary.f 5 t218 a1).bind fun t226 => (if t226 = a0 then ((word_Unary.f 20 a0).bind fun t227 => ((word_Binary.f 4 a0 t227).bind fun t228 => (if t228 = 0 then ((word_Unary.f 21 a0).bind fun t229 => ((word_Binary.f 5 (-1) a0).bind fun t230 => (if t229 = t230 then ((word_Binary.f 6 t219 a2).bind fun t231 => ((word_Binary.f 6 a1 a2).bind fun t232 => ((word_Binary.f 6 a0 t232).bind fun t233 => (if t231 = t233 then ((fullinglaw1_WordExamples.f k).bind fun t234 => (some t234)) else (some false))))) else (some false)))) else (some false)))) else (some false))) else (some false)) else (some false))) else (some false))) = some r := H
  have A9 := Aside0.mk A90
  clear A90
  replace H := Option.bind_eq_some_iff.mp H
  obtain ⟨t224, A100, H⟩ := H
  replace H : (if t218 = t224 then ((word_Binary.f 6 a1 a0).bind fun t225 => (if t219 = t225 then (if t220 = t223 then ((word_Binary.f 5 t218 a1).bind fun t226 => (if t226 = a0 then ((word_Unary.f 20 a0).bind fun t227 => ((word_Binary.f 4 a0 t227).bind fun t228 => (if t228 = 0 then ((word_Unary.f 21 a0).bind fun t229 => ((word_Binary.f 5 (-1) a0).bind fun t230 => (if t229 = t230 then ((word_Binary.f 6 t219 a2).bind fun t231 => ((word_Binary.f 6 a1 a2).bind fun t232 => ((word_Binary.f 6 a0 t232).bind fun t233 => (if t231 = t233 then ((fullinglaw1_WordExamples.f k).bind fun t234 => (some t234)) else (some false))))) else (some false)))) else (some false)))) else (some false))) else (some false)) else (some false))) else (some false)) = some r := H
  have A10 := Aside0.mk A100
  clear A100
  by_cases c11 : t218 = t224
  · rw [if_pos c11] at H
    have c11b0 : (t218 == t224) = true := beq_iff_eq.mpr c11
    have c11b1 : (t218 != t224) = false := bne_eq_false_iff_eq.mpr c11
    clear c11
    replace H := Option.bind_eq_some_iff.mp H
    obtain ⟨t225, A120, H⟩ := H
    replace H : (if t219 = t225 then (if t220 = t223 then ((word_Binary.f 5 t218 a1).bind fun t226 => (if t226 = a0 then ((word_Unary.f 20 a0).bind fun t227 => ((word_Binary.f 4 a0 t227).bind fun t228 => (if t228 = 0 then ((word_Unary.f 21 a0).bind fun t229 => ((word_Binary.f 5 (-1) a0).bind fun t230 => (if t229 = t230 then ((word_Binary.f 6 t219 a2).bind fun t231 => ((word_Binary.f 6 a1 a2).bind fun t232 => ((word_Binary.f 6 a0 t232).bind fun t233 => (if t231 = t233 then ((fullinglaw1_WordExamples.f k).bind fun t234 => (some t234)) else (some false))))) else (some false)))) else (some false)))) else (some false))) else (some false)) else (some false)) = some r := H
    have A12 := Aside0.mk A120
    clear A120
    by_cases c13 : t219 = t225
    · rw [if_pos c13] at H
      have c13b0 : (t219 == t225) = true := beq_iff_eq.mpr c13
      have c13b1 : (t219 != t225) = false := bne_eq_false_iff_eq.mpr c13
      clear c13
      by_cases c14 : t220 = t223
      · rw [if_pos c14] at H
        have c14b0 : (t220 == t223) = true := beq_iff_eq.mpr c14
        have c14b1 : (t220 != t223) = false := bne_eq_false_iff_eq.mpr c14
        clear c14
        replace H := Option.bind_eq_some_iff.mp H
        obtain ⟨t226, A150, H⟩ := H
        replace H : (if t226 = a0 then ((word_Unary.f 20 a0).bind fun t227 => ((word_Binary.f 4 a0 t227).bind fun t228 => (if t228 = 0 then ((word_Unary.f 21 a0).bind fun t229 => ((word_Binary.f 5 (-1) a0).bind fun t230 => (if t229 = t230 then ((word_Binary.f 6 t219 a2).bind fun t231 => ((word_Binary.f 6 a1 a2).bind fun t232 => ((word_Binary.f 6 a0 t232).bind fun t233 => (if t231 = t233 then ((fullinglaw1_WordExamples.f k).bind fun t234 => (some t234)) else (some false))))) else (some false)))) else (some false)))) else (some false)) = some r := H
        have A15 := Aside0.mk A150
        clear A150
        by_cases c16 : t226 = a0
        · rw [if_pos c16] at H
          have c16b0 : (t226 == a0) = true := beq_iff_eq.mpr c16
          have c16b1 : (t226 != a0) = false := bne_eq_false_iff_eq.mpr c16
          clear c16
          replace H := Option.bind_eq_some_iff.mp H
          obtain ⟨t227, A170, H⟩ := H
          replace H : ((word_Binary.f 4 a0 t227).bind fun t228 => (if t228 = 0 then ((word_Unary.f 21 a0).bind fun t229 => ((word_Binary.f 5 (-1) a0).bind fun t230 => (if t229 = t230 then ((word_Binary.f 6 t219 a2).bind fun t231 => ((word_Binary.f 6 a1 a2).bind fun t232 => ((word_Binary.f 6 a0 t232).bind fun t233 => (if t231 = t233 then ((fullinglaw1_WordExamples.f k).bind fun t234 => (some t234)) else (some false))))) else (some false)))) else (some false))) = some r := H
          have A17 := Aside0.mk A170
          clear A170
          replace H := Option.bind_eq_some_iff.mp H
          obtain ⟨t228, A180, H⟩ := H
          replace H : (if t228 = 0 then ((word_Unary.f 21 a0).bind fun t229 => ((word_Binary.f 5 (-1) a0).bind fun t230 => (if t229 = t230 then ((word_Binary.f 6 t219 a2).bind fun t231 => ((word_Binary.f 6 a1 a2).bind fun t232 => ((word_Binary.f 6 a0 t232).bind fun t233 => (if t231 = t233 then ((fullinglaw1_WordExamples.f k).bind fun t234 => (some t234)) else (some false))))) else (some false)))) else (some false)) = some r := H
          have A18 := Aside0.mk A180
          clear A180
          by_cases c19 : t228 = 0
          · rw [if_pos c19] at H
            have c19b0 : (t228 == 0) = true := beq_iff_eq.mpr c19
            have c19b1 : (t228 != 0) = false := bne_eq_false_iff_eq.mpr c19
            clear c19
            replace H := Option.bind_eq_some_iff.mp H
            obtain ⟨t229, A200, H⟩ := H
            replace H : ((word_Binary.f 5 (-1) a0).bind fun t230 => (if t229 = t230 then ((word_Binary.f 6 t219 a2).bind fun t231 => ((word_Binary.f 6 a1 a2).bind fun t232 => ((word_Binary.f 6 a0 t232).bind fun t233 => (if t231 = t233 then ((fullinglaw1_WordExamples.f k).bind fun t234 => (some t234)) else (some false))))) else (some false))) = some r := H
            have A20 := Aside0.mk A200
            clear A200
            replace H := Option.bind_eq_some_iff.mp H
            obtain ⟨t230, A210, H⟩ := H
            replace H : (if t229 = t230 then ((word_Binary.f 6 t219 a2).bind fun t231 => ((word_Binary.f 6 a1 a2).bind fun t232 => ((word_Binary.f 6 a0 t232).bind fun t233 => (if t231 = t233 then ((fullinglaw1_WordExamples.f k).bind fun t234 => (some t234)) else (some false))))) else (some false)) = some r := H
            have A21 := Aside0.mk A210
            clear A210
            by_cases c22 : t229 = t230
            · rw [if_pos c22] at H
              have c22b0 : (t229 == t230) = true := beq_iff_eq.mpr c22
              have c22b1 : (t229 != t230) = false := bne_eq_false_iff_eq.mpr c22
              clear c22
              replace H := Option.bind_eq_some_iff.mp H
              obtain ⟨t231, A230, H⟩ := H
              replace H : ((word_Binary.f 6 a1 a2).bind fun t232 => ((word_Binary.f 6 a0 t232).bind fun t233 => (if t231 = t233 then ((fullinglaw1_WordExamples.f k).bind fun t234 => (some t234)) else (some false)))) = some r := H
              have A23 := Aside0.mk A230
              clear A230
              replace H := Option.bind_eq_some_iff.mp H
              obtain ⟨t232, A240, H⟩ := H
              replace H : ((word_Binary.f 6 a0 t232).bind fun t233 => (if t231 = t233 then ((fullinglaw1_WordExamples.f k).bind fun t234 => (some t234)) else (some false))) = some r := H
              have A24 := Aside0.mk A240
              clear A240
              replace H := Option.bind_eq_some_iff.mp H
              obtain ⟨t233, A250, H⟩ := H
              replace H : (if t231 = t233 then ((fullinglaw1_WordExamples.f k).bind fun t234 => (some t234)) else (some false)) = some r := H
              have A25 := Aside0.mk A250
              clear A250
              by_cases c26 : t231 = t233
              · rw [if_pos c26] at H
                have c26b0 : (t231 == t233) = true := beq_iff_eq.mpr c26
                have c26b1 : (t231 != t233) = false := bne_eq_false_iff_eq.mpr c26
                clear c26
                replace H := Option.bind_eq_some_iff.mp H
                obtain ⟨t234, A270, H⟩ := H
                replace H : (some t234) = some r := H
                have A27 := Aside0.mk A270
                clear A270
                obtain rfl := Option.some.inj H
                go_enter Try.func11, Try.ntmps11
                go_wp2_with (first | ((with_reducible refine gate_callee (f := 14) rfl ?_); refine goesL_ (some 13) rfl rfl Try.func14 (by kernel_rfl) rfl #[.int .i64 4, .int .i64 a0, .int .i64 a1] rfl (by (try simp only [List.map_toArray, List.map_cons, List.map_nil]); first | done | rfl | (simp only [List.length_drop, List.length_take]; rfl)) ?_; (with_reducible refine (word_Binary.calls 4 a0 a1 t218 _ A4.out).mono ?_); rintro e w' ⟨rfl, ⟨nd, rfl⟩⟩; refine ⟨_, rfl, ?_⟩) | ((with_reducible refine gate_callee (f := 14) rfl ?_); refine goesL_ (some 16) rfl rfl Try.func14 (by kernel_rfl) rfl #[.int .i64 6, .int .i64 a0, .int .i64 a1] rfl (by (try simp only [List.map_toArray, List.map_cons, List.map_nil]); first | done | rfl | (simp only [List.length_drop, List.length_take]; rfl)) ?_; (with_reducible refine (word_Binary.calls 6 a0 a1 t219 _ A5.out).mono ?_); rintro e w' ⟨rfl, ⟨nd, rfl⟩⟩; refine ⟨_, rfl, ?_⟩) | ((with_reducible refine gate_callee (f := 14) rfl ?_); refine goesL_ (some 19) rfl rfl Try.func14 (by kernel_rfl) rfl #[.int .i64 6, .int .i64 a2, .int .i64 t218] rfl (by (try simp only [List.map_toArray, List.map_cons, List.map_nil]); first | done | rfl | (simp only [List.length_drop, List.length_take]; rfl)) ?_; (with_reducible refine (word_Binary.calls 6 a2 t218 t220 _ A6.out).mono ?_); rintro e w' ⟨rfl, ⟨nd, rfl⟩⟩; refine ⟨_, rfl, ?_⟩) | ((with_reducible refine gate_callee (f := 14) rfl ?_); refine goesL_ (some 22) rfl rfl Try.func14 (by kernel_rfl) rfl #[.int .i64 6, .int .i64 a2, .int .i64 a0] rfl (by (try simp only [List.map_toArray, List.map_cons, List.map_nil]); first | done | rfl | (simp only [List.length_drop, List.length_take]; rfl)) ?_; (with_reducible refine (word_Binary.calls 6 a2 a0 t221 _ A7.out).mono ?_); rintro e w' ⟨rfl, ⟨nd, rfl⟩⟩; refine ⟨_, rfl, ?_⟩) | ((with_reducible refine gate_callee (f := 14) rfl ?_); refine goesL_ (some 25) rfl rfl Try.func14 (by kernel_rfl) rfl #[.int .i64 6, .int .i64 a2, .int .i64 a1] rfl (by (try simp only [List.map_toArray, List.map_cons, List.map_nil]); first | done | rfl | (simp only [List.length_drop, List.length_take]; rfl)) ?_; (with_reducible refine (word_Binary.calls 6 a2 a1 t222 _ A8.out).mono ?_); rintro e w' ⟨rfl, ⟨nd, rfl⟩⟩; refine ⟨_, rfl, ?_⟩) | ((with_reducible refine gate_callee (f := 14) rfl ?_); refine goesL_ (some 26) rfl rfl Try.func14 (by kernel_rfl) rfl #[.int .i64 4, .int .i64 t221, .int .i64 t222] rfl (by (try simp only [List.map_toArray, List.map_cons, List.map_nil]); first | done | rfl | (simp only [List.length_drop, List.length_take]; rfl)) ?_; (with_reducible refine (word_Binary.calls 4 t221 t222 t223 _ A9.out).mono ?_); rintro e w' ⟨rfl, ⟨nd, rfl⟩⟩; refine ⟨_, rfl, ?_⟩) | ((with_reducible refine gate_callee (f := 14) rfl ?_); refine goesL_ (some 30) rfl rfl Try.func14 (by kernel_rfl) rfl #[.int .i64 4, .int .i64 a1, .int .i64 a0] rfl (by (try simp only [List.map_toArray, List.map_cons, List.map_nil]); first | done | rfl | (simp only [List.length_drop, List.length_take]; rfl)) ?_; (with_reducible refine (word_Binary.calls 4 a1 a0 t224 _ A10.out).mono ?_); rintro e w' ⟨rfl, ⟨nd, rfl⟩⟩; refine ⟨_, rfl, ?_⟩) | (go_at_call 14; (with_reducible refine (word_Binary.calls 6 a1 a0 t225 _ A12.out).mono ?_); rintro e w' ⟨rfl, ⟨nd, rfl⟩⟩) | (go_at_call 14; (with_reducible refine (word_Binary.calls 5 t218 a1 t226 _ A15.out).mono ?_); rintro e w' ⟨rfl, ⟨nd, rfl⟩⟩) | (go_at_call 18; (with_reducible refine (word_Unary.calls 20 a0 t227 _ A17.out).mono ?_); rintro e w' ⟨rfl, ⟨nd, rfl⟩⟩) | (go_at_call 14; (with_reducible refine (word_Binary.calls 4 a0 t227 t228 _ A18.out).mono ?_); rintro e w' ⟨rfl, ⟨nd, rfl⟩⟩) | (go_at_call 18; (with_reducible refine (word_Unary.calls 21 a0 t229 _ A20.out).mono ?_); rintro e w' ⟨rfl, ⟨nd, rfl⟩⟩) | (go_at_call 14; (with_reducible refine (word_Binary.calls 5 (-1) a0 t230 _ A21.out).mono ?_); rintro e w' ⟨rfl, ⟨nd, rfl⟩⟩) | (go_at_call 14; (with_reducible refine (word_Binary.calls 6 t219 a2 t231 _ A23.out).mono ?_); rintro e w' ⟨rfl, ⟨nd, rfl⟩⟩) | (go_at_call 14; (with_reducible refine (word_Binary.calls 6 a1 a2 t232 _ A24.out).mono ?_); rintro e w' ⟨rfl, ⟨nd, rfl⟩⟩) | (go_at_call 14; (with_reducible refine (word_Binary.calls 6 a0 t232 t233 _ A25.out).mono ?_); rintro e w' ⟨rfl, ⟨nd, rfl⟩⟩) | (go_at_call 3; (with_reducible refine (fullinglaw1_WordExamples.calls k  t234 _ A27.out).mono ?_); rintro e w28 ⟨rfl, hb⟩; have n0_ := Aside0.mk (below_step (by repeat (first | (with_reducible first | exact HB.out | apply below_alloc | apply pw_below_drewN | apply below_drew1) | exact HB.out)) hb); clear HB; have HB := n0_; clear n0_; (try clear hb); (try clear hb2); (try clear hk); (try clear hi)))
                go_ret
                exact ⟨by first | rfl | (simp [errW_none, errW_some] <;> rfl) | (simp [*, errW_none, errW_some] <;> rfl), by repeat (first | (with_reducible first | exact HB.out | apply below_alloc | apply pw_below_drewN | apply below_drew1) | exact HB.out)⟩
              · rw [if_neg c26] at H
                have c26b0 : (t231 == t233) = false := beq_eq_false_iff_ne.mpr c26
                have c26b1 : (t231 != t233) = true := bne_iff_ne.mpr c26
                obtain rfl := Option.some.inj H
                go_enter Try.func11, Try.ntmps11
                go_wp2_with (first | ((with_reducible refine gate_callee (f := 14) rfl ?_); refine goesL_ (some 13) rfl rfl Try.func14 (by kernel_rfl) rfl #[.int .i64 4, .int .i64 a0, .int .i64 a1] rfl (by (try simp only [List.map_toArray, List.map_cons, List.map_nil]); first | done | rfl | (simp only [List.length_drop, List.length_take]; rfl)) ?_; (with_reducible refine (word_Binary.calls 4 a0 a1 t218 _ A4.out).mono ?_); rintro e w' ⟨rfl, ⟨nd, rfl⟩⟩; refine ⟨_, rfl, ?_⟩) | ((with_reducible refine gate_callee (f := 14) rfl ?_); refine goesL_ (some 16) rfl rfl Try.func14 (by kernel_rfl) rfl #[.int .i64 6, .int .i64 a0, .int .i64 a1] rfl (by (try simp only [List.map_toArray, List.map_cons, List.map_nil]); first | done | rfl | (simp only [List.length_drop, List.length_take]; rfl)) ?_; (with_reducible refine (word_Binary.calls 6 a0 a1 t219 _ A5.out).mono ?_); rintro e w' ⟨rfl, ⟨nd, rfl⟩⟩; refine ⟨_, rfl, ?_⟩) | ((with_reducible refine gate_callee (f := 14) rfl ?_); refine goesL_ (some 19) rfl rfl Try.func14 (by kernel_rfl) rfl #[.int .i64 6, .int .i64 a2, .int .i64 t218] rfl (by (try simp only [List.map_toArray, List.map_cons, List.map_nil]); first | done | rfl | (simp only [List.length_drop, List.length_take]; rfl)) ?_; (with_reducible refine (word_Binary.calls 6 a2 t218 t220 _ A6.out).mono ?_); rintro e w' ⟨rfl, ⟨nd, rfl⟩⟩; refine ⟨_, rfl, ?_⟩) | ((with_reducible refine gate_callee (f := 14) rfl ?_); refine goesL_ (some 22) rfl rfl Try.func14 (by kernel_rfl) rfl #[.int .i64 6, .int .i64 a2, .int .i64 a0] rfl (by (try simp only [List.map_toArray, List.map_cons, List.map_nil]); first | done | rfl | (simp only [List.length_drop, List.length_take]; rfl)) ?_; (with_reducible refine (word_Binary.calls 6 a2 a0 t221 _ A7.out).mono ?_); rintro e w' ⟨rfl, ⟨nd, rfl⟩⟩; refine ⟨_, rfl, ?_⟩) | ((with_reducible refine gate_callee (f := 14) rfl ?_); refine goesL_ (some 25) rfl rfl Try.func14 (by kernel_rfl) rfl #[.int .i64 6, .int .i64 a2, .int .i64 a1] rfl (by (try simp only [List.map_toArray, List.map_cons, List.map_nil]); first | done | rfl | (simp only [List.length_drop, List.length_take]; rfl)) ?_; (with_reducible refine (word_Binary.calls 6 a2 a1 t222 _ A8.out).mono ?_); rintro e w' ⟨rfl, ⟨nd, rfl⟩⟩; refine ⟨_, rfl, ?_⟩) | ((with_reducible refine gate_callee (f := 14) rfl ?_); refine goesL_ (some 26) rfl rfl Try.func14 (by kernel_rfl) rfl #[.int .i64 4, .int .i64 t221, .int .i64 t222] rfl (by (try simp only [List.map_toArray, List.map_cons, List.map_nil]); first | done | rfl | (simp only [List.length_drop, List.length_take]; rfl)) ?_; (with_reducible refine (word_Binary.calls 4 t221 t222 t223 _ A9.out).mono ?_); rintro e w' ⟨rfl, ⟨nd, rfl⟩⟩; refine ⟨_, rfl, ?_⟩) | ((with_reducible refine gate_callee (f := 14) rfl ?_); refine goesL_ (some 30) rfl rfl Try.func14 (by kernel_rfl) rfl #[.int .i64 4, .int .i64 a1, .int .i64 a0] rfl (by (try simp only [List.map_toArray, List.map_cons, List.map_nil]); first | done | rfl | (simp only [List.length_drop, List.length_take]; rfl)) ?_; (with_reducible refine (word_Binary.calls 4 a1 a0 t224 _ A10.out).mono ?_); rintro e w' ⟨rfl, ⟨nd, rfl⟩⟩; refine ⟨_, rfl, ?_⟩) | (go_at_call 14; (with_reducible refine (word_Binary.calls 6 a1 a0 t225 _ A12.out).mono ?_); rintro e w' ⟨rfl, ⟨nd, rfl⟩⟩) | (go_at_call 14; (with_reducible refine (word_Binary.calls 5 t218 a1 t226 _ A15.out).mono ?_); rintro e w' ⟨rfl, ⟨nd, rfl⟩⟩) | (go_at_call 18; (with_reducible refine (word_Unary.calls 20 a0 t227 _ A17.out).mono ?_); rintro e w' ⟨rfl, ⟨nd, rfl⟩⟩) | (go_at_call 14; (with_reducible refine (word_Binary.calls 4 a0 t227 t228 _ A18.out).mono ?_); rintro e w' ⟨rfl, ⟨nd, rfl⟩⟩) | (go_at_call 18; (with_reducible refine (word_Unary.calls 21 a0 t229 _ A20.out).mono ?_); rintro e w' ⟨rfl, ⟨nd, rfl⟩⟩) | (go_at_call 14; (with_reducible refine (word_Binary.calls 5 (-1) a0 t230 _ A21.out).mono ?_); rintro e w' ⟨rfl, ⟨nd, rfl⟩⟩) | (go_at_call 14; (with_reducible refine (word_Binary.calls 6 t219 a2 t231 _ A23.out).mono ?_); rintro e w' ⟨rfl, ⟨nd, rfl⟩⟩) | (go_at_call 14; (with_reducible refine (word_Binary.calls 6 a1 a2 t232 _ A24.out).mono ?_); rintro e w' ⟨rfl, ⟨nd, rfl⟩⟩) | (go_at_call 14; (with_reducible refine (word_Binary.calls 6 a0 t232 t233 _ A25.out).mono ?_); rintro e w' ⟨rfl, ⟨nd, rfl⟩⟩))
                go_ret
                exact ⟨by first | rfl | (simp [errW_none, errW_some] <;> rfl) | (simp [*, errW_none, errW_some] <;> rfl), by repeat (first | (with_reducible first | exact HB.out | apply below_alloc | apply pw_below_drewN | apply below_drew1) | exact HB.out)⟩
            · rw [if_neg c22] at H
              have c22b0 : (t229 == t230) = false := beq_eq_false_iff_ne.mpr c22
              have c22b1 : (t229 != t230) = true := bne_iff_ne.mpr c22
              obtain rfl := Option.some.inj H
              go_enter Try.func11, Try.ntmps11
              go_wp2_with (first | ((with_reducible refine gate_callee (f := 14) rfl ?_); refine goesL_ (some 13) rfl rfl Try.func14 (by kernel_rfl) rfl #[.int .i64 4, .int .i64 a0, .int .i64 a1] rfl (by (try simp only [List.map_toArray, List.map_cons, List.map_nil]); first | done | rfl | (simp only [List.length_drop, List.length_take]; rfl)) ?_; (with_reducible refine (word_Binary.calls 4 a0 a1 t218 _ A4.out).mono ?_); rintro e w' ⟨rfl, ⟨nd, rfl⟩⟩; refine ⟨_, rfl, ?_⟩) | ((with_reducible refine gate_callee (f := 14) rfl ?_); refine goesL_ (some 16) rfl rfl Try.func14 (by kernel_rfl) rfl #[.int .i64 6, .int .i64 a0, .int .i64 a1] rfl (by (try simp only [List.map_toArray, List.map_cons, List.map_nil]); first | done | rfl | (simp only [List.length_drop, List.length_take]; rfl)) ?_; (with_reducible refine (word_Binary.calls 6 a0 a1 t219 _ A5.out).mono ?_); rintro e w' ⟨rfl, ⟨nd, rfl⟩⟩; refine ⟨_, rfl, ?_⟩) | ((with_reducible refine gate_callee (f := 14) rfl ?_); refine goesL_ (some 19) rfl rfl Try.func14 (by kernel_rfl) rfl #[.int .i64 6, .int .i64 a2, .int .i64 t218] rfl (by (try simp only [List.map_toArray, List.map_cons, List.map_nil]); first | done | rfl | (simp only [List.length_drop, List.length_take]; rfl)) ?_; (with_reducible refine (word_Binary.calls 6 a2 t218 t220 _ A6.out).mono ?_); rintro e w' ⟨rfl, ⟨nd, rfl⟩⟩; refine ⟨_, rfl, ?_⟩) | ((with_reducible refine gate_callee (f := 14) rfl ?_); refine goesL_ (some 22) rfl rfl Try.func14 (by kernel_rfl) rfl #[.int .i64 6, .int .i64 a2, .int .i64 a0] rfl (by (try simp only [List.map_toArray, List.map_cons, List.map_nil]); first | done | rfl | (simp only [List.length_drop, List.length_take]; rfl)) ?_; (with_reducible refine (word_Binary.calls 6 a2 a0 t221 _ A7.out).mono ?_); rintro e w' ⟨rfl, ⟨nd, rfl⟩⟩; refine ⟨_, rfl, ?_⟩) | ((with_reducible refine gate_callee (f := 14) rfl ?_); refine goesL_ (some 25) rfl rfl Try.func14 (by kernel_rfl) rfl #[.int .i64 6, .int .i64 a2, .int .i64 a1] rfl (by (try simp only [List.map_toArray, List.map_cons, List.map_nil]); first | done | rfl | (simp only [List.length_drop, List.length_take]; rfl)) ?_; (with_reducible refine (word_Binary.calls 6 a2 a1 t222 _ A8.out).mono ?_); rintro e w' ⟨rfl, ⟨nd, rfl⟩⟩; refine ⟨_, rfl, ?_⟩) | ((with_reducible refine gate_callee (f := 14) rfl ?_); refine goesL_ (some 26) rfl rfl Try.func14 (by kernel_rfl) rfl #[.int .i64 4, .int .i64 t221, .int .i64 t222] rfl (by (try simp only [List.map_toArray, List.map_cons, List.map_nil]); first | done | rfl | (simp only [List.length_drop, List.length_take]; rfl)) ?_; (with_reducible refine (word_Binary.calls 4 t221 t222 t223 _ A9.out).mono ?_); rintro e w' ⟨rfl, ⟨nd, rfl⟩⟩; refine ⟨_, rfl, ?_⟩) | ((with_reducible refine gate_callee (f := 14) rfl ?_); refine goesL_ (some 30) rfl rfl Try.func14 (by kernel_rfl) rfl #[.int .i64 4, .int .i64 a1, .int .i64 a0] rfl (by (try simp only [List.map_toArray, List.map_cons, List.map_nil]); first | done | rfl | (simp only [List.length_drop, List.length_take]; rfl)) ?_; (with_reducible refine (word_Binary.calls 4 a1 a0 t224 _ A10.out).mono ?_); rintro e w' ⟨rfl, ⟨nd, rfl⟩⟩; refine ⟨_, rfl, ?_⟩) | (go_at_call 14; (with_reducible refine (word_Binary.calls 6 a1 a0 t225 _ A12.out).mono ?_); rintro e w' ⟨rfl, ⟨nd, rfl⟩⟩) | (go_at_call 14; (with_reducible refine (word_Binary.calls 5 t218 a1 t226 _ A15.out).mono ?_); rintro e w' ⟨rfl, ⟨nd, rfl⟩⟩) | (go_at_call 18; (with_reducible refine (word_Unary.calls 20 a0 t227 _ A17.out).mono ?_); rintro e w' ⟨rfl, ⟨nd, rfl⟩⟩) | (go_at_call 14; (with_reducible refine (word_Binary.calls 4 a0 t227 t228 _ A18.out).mono ?_); rintro e w' ⟨rfl, ⟨nd, rfl⟩⟩) | (go_at_call 18; (with_reducible refine (word_Unary.calls 21 a0 t229 _ A20.out).mono ?_); rintro e w' ⟨rfl, ⟨nd, rfl⟩⟩) | (go_at_call 14; (with_reducible refine (word_Binary.calls 5 (-1) a0 t230 _ A21.out).mono ?_); rintro e w' ⟨rfl, ⟨nd, rfl⟩⟩))
              go_ret
              exact ⟨by first | rfl | (simp [errW_none, errW_some] <;> rfl) | (simp [*, errW_none, errW_some] <;> rfl), by repeat (first | (with_reducible first | exact HB.out | apply below_alloc | apply pw_below_drewN | apply below_drew1) | exact HB.out)⟩
          · rw [if_neg c19] at H
            have c19b0 : (t228 == 0) = false := beq_eq_false_iff_ne.mpr c19
            have c19b1 : (t228 != 0) = true := bne_iff_ne.mpr c19
            obtain rfl := Option.some.inj H
            go_enter Try.func11, Try.ntmps11
            go_wp2_with (first | ((with_reducible refine gate_callee (f := 14) rfl ?_); refine goesL_ (some 13) rfl rfl Try.func14 (by kernel_rfl) rfl #[.int .i64 4, .int .i64 a0, .int .i64 a1] rfl (by (try simp only [List.map_toArray, List.map_cons, List.map_nil]); first | done | rfl | (simp only [List.length_drop, List.length_take]; rfl)) ?_; (with_reducible refine (word_Binary.calls 4 a0 a1 t218 _ A4.out).mono ?_); rintro e w' ⟨rfl, ⟨nd, rfl⟩⟩; refine ⟨_, rfl, ?_⟩) | ((with_reducible refine gate_callee (f := 14) rfl ?_); refine goesL_ (some 16) rfl rfl Try.func14 (by kernel_rfl) rfl #[.int .i64 6, .int .i64 a0, .int .i64 a1] rfl (by (try simp only [List.map_toArray, List.map_cons, List.map_nil]); first | done | rfl | (simp only [List.length_drop, List.length_take]; rfl)) ?_; (with_reducible refine (word_Binary.calls 6 a0 a1 t219 _ A5.out).mono ?_); rintro e w' ⟨rfl, ⟨nd, rfl⟩⟩; refine ⟨_, rfl, ?_⟩) | ((with_reducible refine gate_callee (f := 14) rfl ?_); refine goesL_ (some 19) rfl rfl Try.func14 (by kernel_rfl) rfl #[.int .i64 6, .int .i64 a2, .int .i64 t218] rfl (by (try simp only [List.map_toArray, List.map_cons, List.map_nil]); first | done | rfl | (simp only [List.length_drop, List.length_take]; rfl)) ?_; (with_reducible refine (word_Binary.calls 6 a2 t218 t220 _ A6.out).mono ?_); rintro e w' ⟨rfl, ⟨nd, rfl⟩⟩; refine ⟨_, rfl, ?_⟩) | ((with_reducible refine gate_callee (f := 14) rfl ?_); refine goesL_ (some 22) rfl rfl Try.func14 (by kernel_rfl) rfl #[.int .i64 6, .int .i64 a2, .int .i64 a0] rfl (by (try simp only [List.map_toArray, List.map_cons, List.map_nil]); first | done | rfl | (simp only [List.length_drop, List.length_take]; rfl)) ?_; (with_reducible refine (word_Binary.calls 6 a2 a0 t221 _ A7.out).mono ?_); rintro e w' ⟨rfl, ⟨nd, rfl⟩⟩; refine ⟨_, rfl, ?_⟩) | ((with_reducible refine gate_callee (f := 14) rfl ?_); refine goesL_ (some 25) rfl rfl Try.func14 (by kernel_rfl) rfl #[.int .i64 6, .int .i64 a2, .int .i64 a1] rfl (by (try simp only [List.map_toArray, List.map_cons, List.map_nil]); first | done | rfl | (simp only [List.length_drop, List.length_take]; rfl)) ?_; (with_reducible refine (word_Binary.calls 6 a2 a1 t222 _ A8.out).mono ?_); rintro e w' ⟨rfl, ⟨nd, rfl⟩⟩; refine ⟨_, rfl, ?_⟩) | ((with_reducible refine gate_callee (f := 14) rfl ?_); refine goesL_ (some 26) rfl rfl Try.func14 (by kernel_rfl) rfl #[.int .i64 4, .int .i64 t221, .int .i64 t222] rfl (by (try simp only [List.map_toArray, List.map_cons, List.map_nil]); first | done | rfl | (simp only [List.length_drop, List.length_take]; rfl)) ?_; (with_reducible refine (word_Binary.calls 4 t221 t222 t223 _ A9.out).mono ?_); rintro e w' ⟨rfl, ⟨nd, rfl⟩⟩; refine ⟨_, rfl, ?_⟩) | ((with_reducible refine gate_callee (f := 14) rfl ?_); refine goesL_ (some 30) rfl rfl Try.func14 (by kernel_rfl) rfl #[.int .i64 4, .int .i64 a1, .int .i64 a0] rfl (by (try simp only [List.map_toArray, List.map_cons, List.map_nil]); first | done | rfl | (simp only [List.length_drop, List.length_take]; rfl)) ?_; (with_reducible refine (word_Binary.calls 4 a1 a0 t224 _ A10.out).mono ?_); rintro e w' ⟨rfl, ⟨nd, rfl⟩⟩; refine ⟨_, rfl, ?_⟩) | (go_at_call 14; (with_reducible refine (word_Binary.calls 6 a1 a0 t225 _ A12.out).mono ?_); rintro e w' ⟨rfl, ⟨nd, rfl⟩⟩) | (go_at_call 14; (with_reducible refine (word_Binary.calls 5 t218 a1 t226 _ A15.out).mono ?_); rintro e w' ⟨rfl, ⟨nd, rfl⟩⟩) | (go_at_call 18; (with_reducible refine (word_Unary.calls 20 a0 t227 _ A17.out).mono ?_); rintro e w' ⟨rfl, ⟨nd, rfl⟩⟩) | (go_at_call 14; (with_reducible refine (word_Binary.calls 4 a0 t227 t228 _ A18.out).mono ?_); rintro e w' ⟨rfl, ⟨nd, rfl⟩⟩))
            go_ret
            exact ⟨by first | rfl | (simp [errW_none, errW_some] <;> rfl) | (simp [*, errW_none, errW_some] <;> rfl), by repeat (first | (with_reducible first | exact HB.out | apply below_alloc | apply pw_below_drewN | apply below_drew1) | exact HB.out)⟩
        · rw [if_neg c16] at H
          have c16b0 : (t226 == a0) = false := beq_eq_false_iff_ne.mpr c16
          have c16b1 : (t226 != a0) = true := bne_iff_ne.mpr c16
          obtain rfl := Option.some.inj H
          go_enter Try.func11, Try.ntmps11
          go_wp2_with (first | ((with_reducible refine gate_callee (f := 14) rfl ?_); refine goesL_ (some 13) rfl rfl Try.func14 (by kernel_rfl) rfl #[.int .i64 4, .int .i64 a0, .int .i64 a1] rfl (by (try simp only [List.map_toArray, List.map_cons, List.map_nil]); first | done | rfl | (simp only [List.length_drop, List.length_take]; rfl)) ?_; (with_reducible refine (word_Binary.calls 4 a0 a1 t218 _ A4.out).mono ?_); rintro e w' ⟨rfl, ⟨nd, rfl⟩⟩; refine ⟨_, rfl, ?_⟩) | ((with_reducible refine gate_callee (f := 14) rfl ?_); refine goesL_ (some 16) rfl rfl Try.func14 (by kernel_rfl) rfl #[.int .i64 6, .int .i64 a0, .int .i64 a1] rfl (by (try simp only [List.map_toArray, List.map_cons, List.map_nil]); first | done | rfl | (simp only [List.length_drop, List.length_take]; rfl)) ?_; (with_reducible refine (word_Binary.calls 6 a0 a1 t219 _ A5.out).mono ?_); rintro e w' ⟨rfl, ⟨nd, rfl⟩⟩; refine ⟨_, rfl, ?_⟩) | ((with_reducible refine gate_callee (f := 14) rfl ?_); refine goesL_ (some 19) rfl rfl Try.func14 (by kernel_rfl) rfl #[.int .i64 6, .int .i64 a2, .int .i64 t218] rfl (by (try simp only [List.map_toArray, List.map_cons, List.map_nil]); first | done | rfl | (simp only [List.length_drop, List.length_take]; rfl)) ?_; (with_reducible refine (word_Binary.calls 6 a2 t218 t220 _ A6.out).mono ?_); rintro e w' ⟨rfl, ⟨nd, rfl⟩⟩; refine ⟨_, rfl, ?_⟩) | ((with_reducible refine gate_callee (f := 14) rfl ?_); refine goesL_ (some 22) rfl rfl Try.func14 (by kernel_rfl) rfl #[.int .i64 6, .int .i64 a2, .int .i64 a0] rfl (by (try simp only [List.map_toArray, List.map_cons, List.map_nil]); first | done | rfl | (simp only [List.length_drop, List.length_take]; rfl)) ?_; (with_reducible refine (word_Binary.calls 6 a2 a0 t221 _ A7.out).mono ?_); rintro e w' ⟨rfl, ⟨nd, rfl⟩⟩; refine ⟨_, rfl, ?_⟩) | ((with_reducible refine gate_callee (f := 14) rfl ?_); refine goesL_ (some 25) rfl rfl Try.func14 (by kernel_rfl) rfl #[.int .i64 6, .int .i64 a2, .int .i64 a1] rfl (by (try simp only [List.map_toArray, List.map_cons, List.map_nil]); first | done | rfl | (simp only [List.length_drop, List.length_take]; rfl)) ?_; (with_reducible refine (word_Binary.calls 6 a2 a1 t222 _ A8.out).mono ?_); rintro e w' ⟨rfl, ⟨nd, rfl⟩⟩; refine ⟨_, rfl, ?_⟩) | ((with_reducible refine gate_callee (f := 14) rfl ?_); refine goesL_ (some 26) rfl rfl Try.func14 (by kernel_rfl) rfl #[.int .i64 4, .int .i64 t221, .int .i64 t222] rfl (by (try simp only [List.map_toArray, List.map_cons, List.map_nil]); first | done | rfl | (simp only [List.length_drop, List.length_take]; rfl)) ?_; (with_reducible refine (word_Binary.calls 4 t221 t222 t223 _ A9.out).mono ?_); rintro e w' ⟨rfl, ⟨nd, rfl⟩⟩; refine ⟨_, rfl, ?_⟩) | ((with_reducible refine gate_callee (f := 14) rfl ?_); refine goesL_ (some 30) rfl rfl Try.func14 (by kernel_rfl) rfl #[.int .i64 4, .int .i64 a1, .int .i64 a0] rfl (by (try simp only [List.map_toArray, List.map_cons, List.map_nil]); first | done | rfl | (simp only [List.length_drop, List.length_take]; rfl)) ?_; (with_reducible refine (word_Binary.calls 4 a1 a0 t224 _ A10.out).mono ?_); rintro e w' ⟨rfl, ⟨nd, rfl⟩⟩; refine ⟨_, rfl, ?_⟩) | (go_at_call 14; (with_reducible refine (word_Binary.calls 6 a1 a0 t225 _ A12.out).mono ?_); rintro e w' ⟨rfl, ⟨nd, rfl⟩⟩) | (go_at_call 14; (with_reducible refine (word_Binary.calls 5 t218 a1 t226 _ A15.out).mono ?_); rintro e w' ⟨rfl, ⟨nd, rfl⟩⟩))
          go_ret
          exact ⟨by first | rfl | (simp [errW_none, errW_some] <;> rfl) | (simp [*, errW_none, errW_some] <;> rfl), by repeat (first | (with_reducible first | exact HB.out | apply below_alloc | apply pw_below_drewN | apply below_drew1) | exact HB.out)⟩
      · rw [if_neg c14] at H
        have c14b0 : (t220 == t223) = false := beq_eq_false_iff_ne.mpr c14
        have c14b1 : (t220 != t223) = true := bne_iff_ne.mpr c14
        obtain rfl := Option.some.inj H
        go_enter Try.func11, Try.ntmps11
        go_wp2_with (first | ((with_reducible refine gate_callee (f := 14) rfl ?_); refine goesL_ (some 13) rfl rfl Try.func14 (by kernel_rfl) rfl #[.int .i64 4, .int .i64 a0, .int .i64 a1] rfl (by (try simp only [List.map_toArray, List.map_cons, List.map_nil]); first | done | rfl | (simp only [List.length_drop, List.length_take]; rfl)) ?_; (with_reducible refine (word_Binary.calls 4 a0 a1 t218 _ A4.out).mono ?_); rintro e w' ⟨rfl, ⟨nd, rfl⟩⟩; refine ⟨_, rfl, ?_⟩) | ((with_reducible refine gate_callee (f := 14) rfl ?_); refine goesL_ (some 16) rfl rfl Try.func14 (by kernel_rfl) rfl #[.int .i64 6, .int .i64 a0, .int .i64 a1] rfl (by (try simp only [List.map_toArray, List.map_cons, List.map_nil]); first | done | rfl | (simp only [List.length_drop, List.length_take]; rfl)) ?_; (with_reducible refine (word_Binary.calls 6 a0 a1 t219 _ A5.out).mono ?_); rintro e w' ⟨rfl, ⟨nd, rfl⟩⟩; refine ⟨_, rfl, ?_⟩) | ((with_reducible refine gate_callee (f := 14) rfl ?_); refine goesL_ (some 19) rfl rfl Try.func14 (by kernel_rfl) rfl #[.int .i64 6, .int .i64 a2, .int .i64 t218] rfl (by (try simp only [List.map_toArray, List.map_cons, List.map_nil]); first | done | rfl | (simp only [List.length_drop, List.length_take]; rfl)) ?_; (with_reducible refine (word_Binary.calls 6 a2 t218 t220 _ A6.out).mono ?_); rintro e w' ⟨rfl, ⟨nd, rfl⟩⟩; refine ⟨_, rfl, ?_⟩) | ((with_reducible refine gate_callee (f := 14) rfl ?_); refine goesL_ (some 22) rfl rfl Try.func14 (by kernel_rfl) rfl #[.int .i64 6, .int .i64 a2, .int .i64 a0] rfl (by (try simp only [List.map_toArray, List.map_cons, List.map_nil]); first | done | rfl | (simp only [List.length_drop, List.length_take]; rfl)) ?_; (with_reducible refine (word_Binary.calls 6 a2 a0 t221 _ A7.out).mono ?_); rintro e w' ⟨rfl, ⟨nd, rfl⟩⟩; refine ⟨_, rfl, ?_⟩) | ((with_reducible refine gate_callee (f := 14) rfl ?_); refine goesL_ (some 25) rfl rfl Try.func14 (by kernel_rfl) rfl #[.int .i64 6, .int .i64 a2, .int .i64 a1] rfl (by (try simp only [List.map_toArray, List.map_cons, List.map_nil]); first | done | rfl | (simp only [List.length_drop, List.length_take]; rfl)) ?_; (with_reducible refine (word_Binary.calls 6 a2 a1 t222 _ A8.out).mono ?_); rintro e w' ⟨rfl, ⟨nd, rfl⟩⟩; refine ⟨_, rfl, ?_⟩) | ((with_reducible refine gate_callee (f := 14) rfl ?_); refine goesL_ (some 26) rfl rfl Try.func14 (by kernel_rfl) rfl #[.int .i64 4, .int .i64 t221, .int .i64 t222] rfl (by (try simp only [List.map_toArray, List.map_cons, List.map_nil]); first | done | rfl | (simp only [List.length_drop, List.length_take]; rfl)) ?_; (with_reducible refine (word_Binary.calls 4 t221 t222 t223 _ A9.out).mono ?_); rintro e w' ⟨rfl, ⟨nd, rfl⟩⟩; refine ⟨_, rfl, ?_⟩) | ((with_reducible refine gate_callee (f := 14) rfl ?_); refine goesL_ (some 30) rfl rfl Try.func14 (by kernel_rfl) rfl #[.int .i64 4, .int .i64 a1, .int .i64 a0] rfl (by (try simp only [List.map_toArray, List.map_cons, List.map_nil]); first | done | rfl | (simp only [List.length_drop, List.length_take]; rfl)) ?_; (with_reducible refine (word_Binary.calls 4 a1 a0 t224 _ A10.out).mono ?_); rintro e w' ⟨rfl, ⟨nd, rfl⟩⟩; refine ⟨_, rfl, ?_⟩) | (go_at_call 14; (with_reducible refine (word_Binary.calls 6 a1 a0 t225 _ A12.out).mono ?_); rintro e w' ⟨rfl, ⟨nd, rfl⟩⟩))
        go_ret
        exact ⟨by first | rfl | (simp [errW_none, errW_some] <;> rfl) | (simp [*, errW_none, errW_some] <;> rfl), by repeat (first | (with_reducible first | exact HB.out | apply below_alloc | apply pw_below_drewN | apply below_drew1) | exact HB.out)⟩
    · rw [if_neg c13] at H
      have c13b0 : (t219 == t225) = false := beq_eq_false_iff_ne.mpr c13
      have c13b1 : (t219 != t225) = true := bne_iff_ne.mpr c13
      obtain rfl := Option.some.inj H
      go_enter Try.func11, Try.ntmps11
      go_wp2_with (first | ((with_reducible refine gate_callee (f := 14) rfl ?_); refine goesL_ (some 13) rfl rfl Try.func14 (by kernel_rfl) rfl #[.int .i64 4, .int .i64 a0, .int .i64 a1] rfl (by (try simp only [List.map_toArray, List.map_cons, List.map_nil]); first | done | rfl | (simp only [List.length_drop, List.length_take]; rfl)) ?_; (with_reducible refine (word_Binary.calls 4 a0 a1 t218 _ A4.out).mono ?_); rintro e w' ⟨rfl, ⟨nd, rfl⟩⟩; refine ⟨_, rfl, ?_⟩) | ((with_reducible refine gate_callee (f := 14) rfl ?_); refine goesL_ (some 16) rfl rfl Try.func14 (by kernel_rfl) rfl #[.int .i64 6, .int .i64 a0, .int .i64 a1] rfl (by (try simp only [List.map_toArray, List.map_cons, List.map_nil]); first | done | rfl | (simp only [List.length_drop, List.length_take]; rfl)) ?_; (with_reducible refine (word_Binary.calls 6 a0 a1 t219 _ A5.out).mono ?_); rintro e w' ⟨rfl, ⟨nd, rfl⟩⟩; refine ⟨_, rfl, ?_⟩) | ((with_reducible refine gate_callee (f := 14) rfl ?_); refine goesL_ (some 19) rfl rfl Try.func14 (by kernel_rfl) rfl #[.int .i64 6, .int .i64 a2, .int .i64 t218] rfl (by (try simp only [List.map_toArray, List.map_cons, List.map_nil]); first | done | rfl | (simp only [List.length_drop, List.length_take]; rfl)) ?_; (with_reducible refine (word_Binary.calls 6 a2 t218 t220 _ A6.out).mono ?_); rintro e w' ⟨rfl, ⟨nd, rfl⟩⟩; refine ⟨_, rfl, ?_⟩) | ((with_reducible refine gate_callee (f := 14) rfl ?_); refine goesL_ (some 22) rfl rfl Try.func14 (by kernel_rfl) rfl #[.int .i64 6, .int .i64 a2, .int .i64 a0] rfl (by (try simp only [List.map_toArray, List.map_cons, List.map_nil]); first | done | rfl | (simp only [List.length_drop, List.length_take]; rfl)) ?_; (with_reducible refine (word_Binary.calls 6 a2 a0 t221 _ A7.out).mono ?_); rintro e w' ⟨rfl, ⟨nd, rfl⟩⟩; refine ⟨_, rfl, ?_⟩) | ((with_reducible refine gate_callee (f := 14) rfl ?_); refine goesL_ (some 25) rfl rfl Try.func14 (by kernel_rfl) rfl #[.int .i64 6, .int .i64 a2, .int .i64 a1] rfl (by (try simp only [List.map_toArray, List.map_cons, List.map_nil]); first | done | rfl | (simp only [List.length_drop, List.length_take]; rfl)) ?_; (with_reducible refine (word_Binary.calls 6 a2 a1 t222 _ A8.out).mono ?_); rintro e w' ⟨rfl, ⟨nd, rfl⟩⟩; refine ⟨_, rfl, ?_⟩) | ((with_reducible refine gate_callee (f := 14) rfl ?_); refine goesL_ (some 26) rfl rfl Try.func14 (by kernel_rfl) rfl #[.int .i64 4, .int .i64 t221, .int .i64 t222] rfl (by (try simp only [List.map_toArray, List.map_cons, List.map_nil]); first | done | rfl | (simp only [List.length_drop, List.length_take]; rfl)) ?_; (with_reducible refine (word_Binary.calls 4 t221 t222 t223 _ A9.out).mono ?_); rintro e w' ⟨rfl, ⟨nd, rfl⟩⟩; refine ⟨_, rfl, ?_⟩) | ((with_reducible refine gate_callee (f := 14) rfl ?_); refine goesL_ (some 30) rfl rfl Try.func14 (by kernel_rfl) rfl #[.int .i64 4, .int .i64 a1, .int .i64 a0] rfl (by (try simp only [List.map_toArray, List.map_cons, List.map_nil]); first | done | rfl | (simp only [List.length_drop, List.length_take]; rfl)) ?_; (with_reducible refine (word_Binary.calls 4 a1 a0 t224 _ A10.out).mono ?_); rintro e w' ⟨rfl, ⟨nd, rfl⟩⟩; refine ⟨_, rfl, ?_⟩) | (go_at_call 14; (with_reducible refine (word_Binary.calls 6 a1 a0 t225 _ A12.out).mono ?_); rintro e w' ⟨rfl, ⟨nd, rfl⟩⟩))
      go_ret
      exact ⟨by first | rfl | (simp [errW_none, errW_some] <;> rfl) | (simp [*, errW_none, errW_some] <;> rfl), by repeat (first | (with_reducible first | exact HB.out | apply below_alloc | apply pw_below_drewN | apply below_drew1) | exact HB.out)⟩
  · rw [if_neg c11] at H
    have c11b0 : (t218 == t224) = false := beq_eq_false_iff_ne.mpr c11
    have c11b1 : (t218 != t224) = true := bne_iff_ne.mpr c11
    obtain rfl := Option.some.inj H
    go_enter Try.func11, Try.ntmps11
    go_wp2_with (first | ((with_reducible refine gate_callee (f := 14) rfl ?_); refine goesL_ (some 13) rfl rfl Try.func14 (by kernel_rfl) rfl #[.int .i64 4, .int .i64 a0, .int .i64 a1] rfl (by (try simp only [List.map_toArray, List.map_cons, List.map_nil]); first | done | rfl | (simp only [List.length_drop, List.length_take]; rfl)) ?_; (with_reducible refine (word_Binary.calls 4 a0 a1 t218 _ A4.out).mono ?_); rintro e w' ⟨rfl, ⟨nd, rfl⟩⟩; refine ⟨_, rfl, ?_⟩) | ((with_reducible refine gate_callee (f := 14) rfl ?_); refine goesL_ (some 16) rfl rfl Try.func14 (by kernel_rfl) rfl #[.int .i64 6, .int .i64 a0, .int .i64 a1] rfl (by (try simp only [List.map_toArray, List.map_cons, List.map_nil]); first | done | rfl | (simp only [List.length_drop, List.length_take]; rfl)) ?_; (with_reducible refine (word_Binary.calls 6 a0 a1 t219 _ A5.out).mono ?_); rintro e w' ⟨rfl, ⟨nd, rfl⟩⟩; refine ⟨_, rfl, ?_⟩) | ((with_reducible refine gate_callee (f := 14) rfl ?_); refine goesL_ (some 19) rfl rfl Try.func14 (by kernel_rfl) rfl #[.int .i64 6, .int .i64 a2, .int .i64 t218] rfl (by (try simp only [List.map_toArray, List.map_cons, List.map_nil]); first | done | rfl | (simp only [List.length_drop, List.length_take]; rfl)) ?_; (with_reducible refine (word_Binary.calls 6 a2 t218 t220 _ A6.out).mono ?_); rintro e w' ⟨rfl, ⟨nd, rfl⟩⟩; refine ⟨_, rfl, ?_⟩) | ((with_reducible refine gate_callee (f := 14) rfl ?_); refine goesL_ (some 22) rfl rfl Try.func14 (by kernel_rfl) rfl #[.int .i64 6, .int .i64 a2, .int .i64 a0] rfl (by (try simp only [List.map_toArray, List.map_cons, List.map_nil]); first | done | rfl | (simp only [List.length_drop, List.length_take]; rfl)) ?_; (with_reducible refine (word_Binary.calls 6 a2 a0 t221 _ A7.out).mono ?_); rintro e w' ⟨rfl, ⟨nd, rfl⟩⟩; refine ⟨_, rfl, ?_⟩) | ((with_reducible refine gate_callee (f := 14) rfl ?_); refine goesL_ (some 25) rfl rfl Try.func14 (by kernel_rfl) rfl #[.int .i64 6, .int .i64 a2, .int .i64 a1] rfl (by (try simp only [List.map_toArray, List.map_cons, List.map_nil]); first | done | rfl | (simp only [List.length_drop, List.length_take]; rfl)) ?_; (with_reducible refine (word_Binary.calls 6 a2 a1 t222 _ A8.out).mono ?_); rintro e w' ⟨rfl, ⟨nd, rfl⟩⟩; refine ⟨_, rfl, ?_⟩) | ((with_reducible refine gate_callee (f := 14) rfl ?_); refine goesL_ (some 26) rfl rfl Try.func14 (by kernel_rfl) rfl #[.int .i64 4, .int .i64 t221, .int .i64 t222] rfl (by (try simp only [List.map_toArray, List.map_cons, List.map_nil]); first | done | rfl | (simp only [List.length_drop, List.length_take]; rfl)) ?_; (with_reducible refine (word_Binary.calls 4 t221 t222 t223 _ A9.out).mono ?_); rintro e w' ⟨rfl, ⟨nd, rfl⟩⟩; refine ⟨_, rfl, ?_⟩) | ((with_reducible refine gate_callee (f := 14) rfl ?_); refine goesL_ (some 30) rfl rfl Try.func14 (by kernel_rfl) rfl #[.int .i64 4, .int .i64 a1, .int .i64 a0] rfl (by (try simp only [List.map_toArray, List.map_cons, List.map_nil]); first | done | rfl | (simp only [List.length_drop, List.length_take]; rfl)) ?_; (with_reducible refine (word_Binary.calls 4 a1 a0 t224 _ A10.out).mono ?_); rintro e w' ⟨rfl, ⟨nd, rfl⟩⟩; refine ⟨_, rfl, ?_⟩))
    go_ret
    exact ⟨by first | rfl | (simp [errW_none, errW_some] <;> rfl) | (simp [*, errW_none, errW_some] <;> rfl), by repeat (first | (with_reducible first | exact HB.out | apply below_alloc | apply pw_below_drewN | apply below_drew1) | exact HB.out)⟩

/-- THE ONE PURE STATEMENT of fullinglaw1_WordRingLaws: yours. -/
def fullinglaw1_WordRingLaws.Pure : Prop := ∀ (a0 : Int) (a1 : Int) (a2 : Int), (Lit.int .i64 a0).wf = true → (Lit.int .i64 a1).wf = true → (Lit.int .i64 a2).wf = true → ∃ k, fullinglaw1_WordRingLaws.f k a0 a1 a2 = some true
theorem fullinglaw1_WordRingLaws.walk (P : fullinglaw1_WordRingLaws.Pure) (a0 : Int) (a1 : Int) (a2 : Int) (w : World) (w0 : (Lit.int .i64 a0).wf = true) (w1 : (Lit.int .i64 a1).wf = true) (w2 : (Lit.int .i64 a2).wf = true) :
    Calls Try.prog 11 #[.int .i64 a0, .int .i64 a1, .int .i64 a2] w fun e w' => e = .returned (.bool true) ∧ Below w.heap.size w w' := by
  obtain ⟨k, h⟩ := P a0 a1 a2 w0 w1 w2
  refine (fullinglaw1_WordRingLaws.calls k a0 a1 a2 true w h).mono ?_
  rintro e w' ⟨rfl, hd⟩
  exact ⟨rfl, hd⟩

end Go.Proofs.Ytlilbddpelbngaa.PAll
