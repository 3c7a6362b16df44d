/- Several parts of this proof in one text: CFlb, CSNt, DecL0, DecLa. -/
import Derived.Test.YtcjidibdidijaaaDoorCT
import Derived.Test.YtcjidibdidijaaaDoorCIns
import Derived.Test.YtcjidibdidijaaaDoorMDal
import Derived.Test.YtcjidibdidijaaaDoorMRDe
import Derived.Test.YtcjidibdidijaaaDoorKeepP
import Derived.Test.YtcjidibdidijaaaDoorExa
import Derived.Test.YtcjidibdidijaaaDoorBlk
import Derived.Deep.LoopGhost
namespace Go.Proofs.YtcjidibdidijaaaDoor.PCod
open Go.RowKit Go.Proofs.YtcjidibdidijaaaDoorW.PrintWords Go.Proofs.YtcjidibdidijaaaDoorW.PrintLast Go.Proofs.YtcjidibdidijaaaDoorW.PrintMore
attribute [local go_sem] max2_int min2_int max_two min_two max_three min_three max_four min_four   -- for this text's walks alone
set_option linter.unusedVariables false
set_option linter.unusedSimpArgs false

/-! ### fullingkeep2_FlipBit: function 40 -/
def fullingkeep2_FlipBit.f (l0 : List Int) (a1 : Int) (a2 : Int) : Option (List Int) := if ([] : List Int).length + l0.length < 35184372088832 then ((some (([] : List Int) ++ l0 : List Int)).bind fun y205 => (if (y205.length : Int) > 0 then ((fullingkeep_Pick.f a1 (y205.length : Int)).bind fun t208 => (if 0 ≤ t208 then (if t208 < (y205.length : Int) then ((fullingkeep_Pick.f a2 32).bind fun t210 => (if 0 ≤ (IntKind.u64.wrap (t210)) then (some (y205.set (t208 : Int).toNat (Go.bits .xor .u32 (rd y205 t208) (shl .u32 1 (IntKind.u64.wrap (t210)))))) else (none))) else (none)) else (none))) else (some y205))) else (none)
def fullingkeep2_FlipBit.T3 : Bool × List (List Nat × List Nat) := (true, [([], []), ([], []), ([], []), ([2], [2]), ([1, 3], [1, 3]), ([0, 4], [0, 4]), ([5], [5]), ([], []), ([7, 4], [7]), ([8], [8]), ([9], [9]), ([6, 10], [6, 10]), ([0, 4, 0, 1, 2, 3, 4, 5, 6, 7, 8, 9, 10, 11], [0, 4]), ([12, 11, 8, 0, 1, 2, 3, 4, 5, 6, 7, 8, 9, 10, 11], [11, 12])])
def fullingkeep2_FlipBit.B3 : List Nat := [0, 0, 0, 4, 14, 31, 63, 0, 158, 414, 926, 2047, 4095, 8191]
theorem fullingkeep2_FlipBit.tab3 : rtab .any (opsOf Tryd.f40 3) = fullingkeep2_FlipBit.T3 := by kernel_rfl
theorem fullingkeep2_FlipBit.bits3 : waitsOk fullingkeep2_FlipBit.T3.2 fullingkeep2_FlipBit.B3 = true := by kernel_rfl
set_option maxHeartbeats 8000000 in
set_option maxRecDepth 100000 in
theorem fullingkeep2_FlipBit.calls (A0 : Option Addr) (c0 : Nat) (l0 : List Int) (a1 : Int) (a2 : Int) (r : List Int) (w : World) (hr0 : Kd.C (Kd.int .u32) w A0 l0.length l0) (hc0 : l0.length ≤ c0) (h : fullingkeep2_FlipBit.f l0 a1 a2 = some r) :
    Calls Tryd.prog 40 #[.slice A0 l0.length c0, .int .i64 a1, .int .i64 a2] w fun e w' => ∃ v0_ : Value, e = .returned (v0_) ∧ Kd.R (Kd.int .u32) 53 w' w.heap.size (fun _ => True) v0_ r ∧ Below w.heap.size w w' := by
  have HR0 := Aside0.mk hr0
  have HC0 := Aside0.mk hc0
  clear hr0 hc0
  have HB := Aside0.mk (Below.refl w.heap.size w)
  have H : (if ([] : List Int).length + l0.length < 35184372088832 then ((some (([] : List Int) ++ l0 : List Int)).bind fun y205 => (if (y205.length : Int) > 0 then ((fullingkeep_Pick.f a1 (y205.length : Int)).bind fun t208 => (if 0 ≤ t208 then (if t208 < (y205.length : Int) then ((fullingkeep_Pick.f a2 32).bind fun t210 => (if 0 ≤ (IntKind.u64.wrap (t210)) then (some (y205.set (t208 : Int).toNat (Go.bits .xor .u32 (rd y205 t208) (shl .u32 1 (IntKind.u64.wrap (t210)))))) else (none))) else (none)) else (none))) else (some y205))) else (none)) = some r := h
  clear h
  by_cases c4 : ([] : List Int).length + l0.length < 35184372088832
  · rw [if_pos c4] at H
    have LMc4 := Aside0.mk c4
    clear c4
    obtain ⟨y205, hy205⟩ : ∃ y_ : List Int, y_ = (([] : List Int) ++ l0) := ⟨_, rfl⟩
    replace H : (if (y205.length : Int) > 0 then ((fullingkeep_Pick.f a1 (y205.length : Int)).bind fun t208 => (if 0 ≤ t208 then (if t208 < (y205.length : Int) then ((fullingkeep_Pick.f a2 32).bind fun t210 => (if 0 ≤ (IntKind.u64.wrap (t210)) then (some (y205.set (t208 : Int).toNat (Go.bits .xor .u32 (rd y205 t208) (shl .u32 1 (IntKind.u64.wrap (t210)))))) else (none))) else (none)) else (none))) else (some y205)) = some r := by first | (rw [hy205]; with_reducible exact H) | (have H2_ := (Option.bind_some _ _).symm.trans H; rw [hy205]; with_reducible exact H2_) | (have H2_ := (Option.bind_some _ _).symm.trans H; with_reducible exact H2_) | with_reducible exact H | (rw [hy205]; exact H) | exact H
    have Ny205 := Aside0.mk hy205
    clear hy205
    by_cases c5 : (y205.length : Int) > 0
    · rw [if_pos c5] at H
      have c5b0 : decide (0 < (y205.length : Int)) = true := decide_eq_true c5
      have c5b1 : decide (0 < y205.length) = true := decide_eq_true (by omega)
      clear c5
      replace H := Option.bind_eq_some_iff.mp H
      obtain ⟨t208, A60, H⟩ := H
      replace H : (if 0 ≤ t208 then (if t208 < (y205.length : Int) then ((fullingkeep_Pick.f a2 32).bind fun t210 => (if 0 ≤ (IntKind.u64.wrap (t210)) then (some (y205.set (t208 : Int).toNat (Go.bits .xor .u32 (rd y205 t208) (shl .u32 1 (IntKind.u64.wrap (t210)))))) else (none))) else (none)) else (none)) = some r := H
      have A6 := Aside0.mk A60
      clear A60
      by_cases c7 : 0 ≤ t208
      · rw [if_pos c7] at H
        have c7b0 : decide (0 ≤ t208) = true := decide_eq_true c7
        clear c7
        by_cases c8 : t208 < (y205.length : Int)
        · rw [if_pos c8] at H
          have c8b0 : decide (t208 < (y205.length : Int)) = true := decide_eq_true c8
          clear c8
          replace H := Option.bind_eq_some_iff.mp H
          obtain ⟨t210, A90, H⟩ := H
          replace H : (if 0 ≤ (IntKind.u64.wrap (t210)) then (some (y205.set (t208 : Int).toNat (Go.bits .xor .u32 (rd y205 t208) (shl .u32 1 (IntKind.u64.wrap (t210)))))) else (none)) = some r := H
          have A9 := Aside0.mk A90
          clear A90
          obtain ⟨ji10, hji10⟩ : ∃ j_ : Int, (IntKind.u64.wrap (t210)) = j_ := ⟨_, rfl⟩
          replace H : (if 0 ≤ (ji10) then (some (y205.set (t208 : Int).toNat (Go.bits .xor .u32 (rd y205 t208) (shl .u32 1 (ji10))))) else (none)) = some r := by first | (rw [hji10] at H; exact H) | (simp only [hji10] at H ⊢; exact H)
          (try rw [hji10] at A6)
          (try rw [hji10] at A9)
          by_cases c11 : 0 ≤ (ji10)
          · rw [if_pos c11] at H
            have c11b0 := eq_true c11
            have c11b1 : decide (0 ≤ (ji10)) = true := decide_eq_true c11
            clear c11
            obtain ⟨ji12, hji12⟩ : ∃ j_ : Int, (shl .u32 1 (ji10)) = j_ := ⟨_, rfl⟩
            replace H : (some (y205.set (t208 : Int).toNat (Go.bits .xor .u32 (rd y205 t208) (ji12)))) = some r := by first | (rw [hji12] at H; exact H) | (simp only [hji12] at H ⊢; exact H)
            (try rw [hji12] at A6)
            (try rw [hji12] at A9)
            have hji12_ : (IntKind.u32.wrap (1 * 2 ^ min (ji10).toNat 32)) = ji12 := hji12
            have hji12z : (ji10) ≤ 32 → (IntKind.u32.wrap (1 * 2 ^ (ji10).toNat)) = ji12 := shl_small hji12
            have hji12u : (IntKind.u32.wrap (2 ^ min (ji10).toNat 32)) = ji12 := by have h_ := hji12_; rw [Int.one_mul] at h_; exact h_
            have hji12v : (ji10) ≤ 32 → (IntKind.u32.wrap (2 ^ (ji10).toNat)) = ji12 := fun hle_ => by have h_ := hji12z hle_; rw [Int.one_mul] at h_; exact h_
            obtain ⟨y211, hy211⟩ : ∃ y_ : List Int, y_ = (y205.set (t208 : Int).toNat (Go.bits .xor .u32 (rd y205 t208) (ji12))) := ⟨_, rfl⟩
            replace H : (some y211) = some r := by first | (rw [hy211]; with_reducible exact H) | (have H2_ := (Option.bind_some _ _).symm.trans H; rw [hy211]; with_reducible exact H2_) | (have H2_ := (Option.bind_some _ _).symm.trans H; with_reducible exact H2_) | with_reducible exact H | (rw [hy211]; exact H) | exact H
            have Ny211 := Aside0.mk hy211
            clear hy211
            obtain rfl := Option.some.inj H
            go_enter Tryd.func40, Tryd.ntmps40
            try go_wp2_with (first | ((with_reducible refine gate_builtin (b := .append) (xs := #[(.const (.slice none 0 0)), .tmp 8]) rfl ?_); at_builtin; refine Kd.R_append_rows (Kd.int .u32) (w0 := w) w.heap.size rfl (.const (.slice none 0 0)) (.tmp 8) 23 53 (.int .u32 0) 4 rfl Tryd.underlying23 info53 rfl (by decide) (by omega) (.slice none 0 0) ([] : List Int) l0 _ _ _ (fun _ => True) (fun _ => False) rfl rfl ?aO ?aR (fun _ _ h => h) (fun _ h => h.elim) ?aF ?aB ?aS ?aL ?_; (case aR => repeat (first | exact HR0.out | (with_reducible refine Kd.C_alloc ?_ _) | (with_reducible refine Kd.C_drewN ?_ _) | (with_reducible refine Kd.C_drew ?_))); (case aB => exact (by repeat (first | (with_reducible first | exact HB.out | apply below_alloc | apply pw_below_drewN | apply below_drew1) | exact HB.out))); (case aF => exact (fun _ _ => trivial)); (case aO => exact ((Kd.R_nil _ _ _ _ (fun _ => True)))); (case aS => exact (below_size (by repeat (first | (with_reducible first | exact HB.out | apply below_alloc | apply pw_below_drewN | apply below_drew1) | exact HB.out)))); (case aL => have := LMc4.out; omega); intro v206 w14 ho hb hg hat; rw [← Ny205.out] at ho; have n0_ := Aside0.mk (hb); have n1_ := Aside0.mk (ho); clear HB; have HB := n0_; have HO207 := n1_; clear n0_ n1_; clear ho hb hg hat; obtain ⟨Ao15, co15, eo15⟩ := Kd.R_slice HO207.out; subst eo15))
            have n0_ := Aside0.mk (Kd.R_drew HO207.out)
            have n1_ := Aside0.mk (below_drew1 HB.out)
            clear HO207
            clear HB
            have HO207 := n0_
            have HB := n1_
            clear n0_ n1_
            have p209 : 0 ≤ (t208 : Int) := of_decide_eq_true (by first | (with_reducible assumption) | assumption)
            have q209 : t208 < (y205.length : Int) := of_decide_eq_true (by first | (with_reducible assumption) | assumption)
            obtain ⟨ad209, e209, hx209_0⟩ := Kd.at_int (Kd.R_reads' HO207.out).2.2 t208 p209 q209
            cases e209
            replace p209 := eq_true p209
            replace q209 := eq_true q209
            refine start_ (n := 14) (S := fun w' => w'.cell? (ad209.add (t208).toNat) = some (.int .u32 (rd y205 t208))) (ds := [13]) #[false, false, false, false, false, false, false, false, false, false, false, false, false, false] (by kernel_rfl) rfl rfl (hx209_0) (fun hHeld => ?_); refine with_tabW fullingkeep2_FlipBit.tab3 fullingkeep2_FlipBit.bits3 (fun HT_ HW_ => ?_)
            generalize w14.drew = w16 at HO207 HB hx209_0 hHeld ⊢
            refine pure_ (i := 0) (N := some 13) (v := ?_) (a' := ?_) #[true, false, false, false, false, false, false, false, false, false, false, false, false, false] rfl rfl (any_of HT_.out (by kernel_rfl)) (fun _ _ _ h => h) (Or.inl ⟨by rfl, ?_⟩) ?_ ?_
            rotate_left
            · intro w'
              go_simp
              with_reducible rfl
            rotate_left
            · simp only [Act.put, List.setIfInBounds_toArray, List.set_cons_zero, List.set_cons_succ, i64_w, i32_w]
              rfl
            refine pure_ (i := 1) (N := some 14) (v := ?_) (a' := ?_) #[true, true, false, false, false, false, false, false, false, false, false, false, false, false] rfl rfl (any_of HT_.out (by kernel_rfl)) (fun _ _ _ h => h) (Or.inl ⟨by rfl, ?_⟩) ?_ ?_
            rotate_left
            · intro w'
              go_simp
              with_reducible rfl
            rotate_left
            · simp only [Act.put, List.setIfInBounds_toArray, List.set_cons_zero, List.set_cons_succ, i64_w, i32_w]
              rfl
            refine pure_ (i := 2) (N := some 15) (v := ?_) (a' := ?_) #[true, true, true, false, false, false, false, false, false, false, false, false, false, false] rfl rfl (any_of HT_.out (by kernel_rfl)) (fun _ _ _ h => h) (Or.inl ⟨by rfl, ?_⟩) ?_ ?_
            rotate_left
            · intro w'
              go_simp
              with_reducible rfl
            rotate_left
            · simp only [Act.put, List.setIfInBounds_toArray, List.set_cons_zero, List.set_cons_succ, i64_w, i32_w]
              rfl
            refine pure_ (i := 3) (N := some 16) (v := ?_) (a' := ?_) #[true, true, true, true, false, false, false, false, false, false, false, false, false, false] rfl rfl (any_of HT_.out (by kernel_rfl)) (fun _ _ _ h => h) (Or.inl ⟨by rfl, ?_⟩) ?_ ?_
            rotate_left
            · intro w'
              go_simp
              with_reducible rfl
            rotate_left
            · simp only [Act.put, List.setIfInBounds_toArray, List.set_cons_zero, List.set_cons_succ, i64_w, i32_w]
              rfl
            refine pure_ (i := 7) (N := some 20) (v := ?_) (a' := ?_) #[true, true, true, true, false, false, false, true, false, false, false, false, false, false] rfl rfl (any_of HT_.out (by kernel_rfl)) (fun _ _ _ h => h) (Or.inl ⟨by rfl, ?_⟩) ?_ ?_
            rotate_left
            · intro w'
              go_simp
              with_reducible rfl
            rotate_left
            · simp only [Act.put, List.setIfInBounds_toArray, List.set_cons_zero, List.set_cons_succ, i64_w, i32_w]
              rfl
            refine one_ (i := 4) (N := some 17) #[true, true, true, true, true, false, false, true, false, false, false, false, false, false] rfl rfl (one_of HT_.out (by kernel_rfl)) (by decide) (fun K hK => ?_)
            refine goes_ Tryd.func19 (by kernel_rfl) rfl #[.int .i64 a1, .int .i64 (y205.length : Int)] (by rfl) rfl rfl (by (try simp only [List.map_toArray, List.map_cons, List.map_nil]); first | done | rfl | (simp only [List.length_drop, List.length_take]; rfl)) ?_
            with_reducible refine (fullingkeep_Pick.calls a1 (y205.length : Int) t208 _ A6.out).mono ?_
            rintro e w' ⟨rfl, ⟨nd, rfl⟩⟩
            refine ⟨_, rfl, ?_⟩
            refine hK.out _ _ (hHeld) (fun hHeld => ?_)
            clear hK K
            refine norm_ (a' := ?_) ?_ ?_
            rotate_left
            · show Act.put _ (some 17) _ = _
              simp only [Act.put, List.setIfInBounds_toArray, List.set_cons_zero, List.set_cons_succ, i64_w, i32_w]
              rfl
            refine pure_ (i := 5) (N := some 18) (v := ?_) (a' := ?_) #[true, true, true, true, true, true, false, true, false, false, false, false, false, false] rfl rfl (any_of HT_.out (by kernel_rfl)) (fun _ _ _ h => h) (Or.inl ⟨by rfl, ?_⟩) ?_ ?_
            rotate_left
            · intro w'
              go_simp
              with_reducible rfl
            rotate_left
            · simp only [Act.put, List.setIfInBounds_toArray, List.set_cons_zero, List.set_cons_succ, i64_w, i32_w]
              rfl
            refine take_ (i := 6) (N := some 19) (v := ?_) (a' := ?_) #[true, true, true, true, true, true, true, true, false, false, false, false, false, false] rfl rfl (take_ofW HT_.out HW_.out (by kernel_rfl)) (fun _ _ _ h => h) (Or.inl ⟨by rfl, ?_⟩) hHeld ?_ ?_
            rotate_left
            · intro w' s0
              go_simp
              with_reducible rfl
            rotate_left
            · simp only [Act.put, List.setIfInBounds_toArray, List.set_cons_zero, List.set_cons_succ, i64_w, i32_w]
              rfl
            refine one_ (i := 8) (N := some 21) #[true, true, true, true, true, true, true, true, true, false, false, false, false, false] rfl rfl (one_of HT_.out (by kernel_rfl)) (by decide) (fun K hK => ?_)
            refine goes_ Tryd.func19 (by kernel_rfl) rfl #[.int .i64 a2, .int .i64 32] (by rfl) rfl rfl (by (try simp only [List.map_toArray, List.map_cons, List.map_nil]); first | done | rfl | (simp only [List.length_drop, List.length_take]; rfl)) ?_
            with_reducible refine (fullingkeep_Pick.calls a2 32 t210 _ A9.out).mono ?_
            rintro e w' ⟨rfl, ⟨nd, rfl⟩⟩
            refine ⟨_, rfl, ?_⟩
            have p13 : 0 ≤ (t208 : Int) := of_decide_eq_true (by first | (with_reducible assumption) | assumption)
            have q13 : (t208 : Int) < ((y205.length : Int) : Int) := of_decide_eq_true (by first | (with_reducible assumption) | assumption)
            obtain ⟨go13, co13, eo13, gb13, gl13, cl13, HG13⟩ := Kd.R_form HO207.out (by omega)
            (first | cases eo13 | (injection eo13 with ea_ en_ ec_; (first | subst ea_ | (injection ea_ with ea_; subst ea_)); subst ec_; clear en_))
            have GB13 := Aside0.mk gb13
            have GG13 := Aside0.mk HG13
            clear gb13 gl13 HG13
            (first | simp only [add_plain] at hx209_0 | skip)
            obtain ⟨hx13_0, hf13_0⟩ := Kd.R_celln 0 HO207.out (t208 : Int) p13 q13
            replace p13 := eq_true p13
            replace q13 := eq_true q13
            have HP17 := Kd.R_putn HO207.out (t208 : Int) (Go.bits .xor .u32 (rd y205 t208) (ji12))
            rw [← Ny211.out] at HP17
            have HQ17 := Aside0.mk HP17
            clear HP17
            refine hK.out _ _ (hHeld) (fun hHeld => ?_)
            clear hK K
            refine norm_ (a' := ?_) ?_ ?_
            rotate_left
            · show Act.put _ (some 21) _ = _
              simp only [Act.put, List.setIfInBounds_toArray, List.set_cons_zero, List.set_cons_succ, i64_w, i32_w]
              rfl
            refine pure_ (i := 9) (N := some 22) (v := ?_) (a' := ?_) #[true, true, true, true, true, true, true, true, true, true, false, false, false, false] rfl rfl (any_of HT_.out (by kernel_rfl)) (fun _ _ _ h => h) (Or.inl ⟨by rfl, ?_⟩) ?_ ?_
            rotate_left
            · intro w'
              go_simp
              with_reducible rfl
            rotate_left
            · simp only [Act.put, List.setIfInBounds_toArray, List.set_cons_zero, List.set_cons_succ, i64_w, i32_w]
              rfl
            refine pure_ (i := 10) (N := some 23) (v := ?_) (a' := ?_) #[true, true, true, true, true, true, true, true, true, true, true, false, false, false] rfl rfl (any_of HT_.out (by kernel_rfl)) (fun _ _ _ h => h) (Or.inl ⟨by rfl, ?_⟩) ?_ ?_
            rotate_left
            · intro w'
              go_simp
              with_reducible rfl
            rotate_left
            · simp only [Act.put, List.setIfInBounds_toArray, List.set_cons_zero, List.set_cons_succ, i64_w, i32_w]
              rfl
            refine pure_ (i := 11) (N := some 24) (v := ?_) (a' := ?_) #[true, true, true, true, true, true, true, true, true, true, true, true, false, false] rfl rfl (any_of HT_.out (by kernel_rfl)) (fun _ _ _ h => h) (Or.inl ⟨by rfl, ?_⟩) ?_ ?_
            rotate_left
            · intro w'
              go_simp
              with_reducible rfl
            rotate_left
            · simp only [Act.put, List.setIfInBounds_toArray, List.set_cons_zero, List.set_cons_succ, i64_w, i32_w]
              rfl
            refine pure_ (i := 12) (N := some 25) (v := ?_) (a' := ?_) #[true, true, true, true, true, true, true, true, true, true, true, true, true, false] rfl rfl (any_of HT_.out (by kernel_rfl)) (fun _ _ _ h => h) (Or.inl ⟨by rfl, ?_⟩) ?_ ?_
            rotate_left
            · intro w'
              go_simp
              with_reducible rfl
            rotate_left
            · simp only [Act.put, List.setIfInBounds_toArray, List.set_cons_zero, List.set_cons_succ, i64_w, i32_w]
              rfl
            refine last_ (i := 13) (N := none) #[true, true, true, true, true, true, true, true, true, true, true, true, true, true] rfl rfl (one_of HT_.out (by kernel_rfl)) (by decide) (fun K hK => ?_)
            refine skip_ (w1 := ?_) (by rfl) rfl ?_ ?_
            rotate_left
            · go_simp
              rfl
            refine hK.out _ _ ?_
            clear hK K
            refine done_ (done_of HT_.out (by kernel_rfl)) ?_
            try go_wp2
            go_ret
            exact ⟨_, by first | rfl | (simp [errW_none, errW_some] <;> rfl) | (simp only [← hji10, ← hji12]; first | rfl | (simp [errW_none, errW_some] <;> rfl)) | (simp [*, errW_none, errW_some] <;> rfl), by (with_reducible repeat (first | apply Kd.R_alloc | apply Kd.R_drewN | apply Kd.R_drew)); exact HQ17.out, by repeat (first | (with_reducible first | exact HB.out | apply below_alloc | apply pw_below_drewN | apply below_drew1 | refine below_set ?_ GB13.out) | exact HB.out)⟩
          · rw [if_neg c11] at H
            exact absurd H (by simp)
        · rw [if_neg c8] at H
          exact absurd H (by simp)
      · rw [if_neg c7] at H
        exact absurd H (by simp)
    · rw [if_neg c5] at H
      have c5b0 : decide (0 < (y205.length : Int)) = false := decide_eq_false c5
      have c5b1 : decide (0 < y205.length) = false := decide_eq_false (by omega)
      clear c5
      obtain rfl := Option.some.inj H
      go_enter Tryd.func40, Tryd.ntmps40
      go_wp2_with (first | ((with_reducible refine gate_builtin (b := .append) (xs := #[(.const (.slice none 0 0)), .tmp 8]) rfl ?_); at_builtin; refine Kd.R_append_rows (Kd.int .u32) (w0 := w) w.heap.size rfl (.const (.slice none 0 0)) (.tmp 8) 23 53 (.int .u32 0) 4 rfl Tryd.underlying23 info53 rfl (by decide) (by omega) (.slice none 0 0) ([] : List Int) l0 _ _ _ (fun _ => True) (fun _ => False) rfl rfl ?aO ?aR (fun _ _ h => h) (fun _ h => h.elim) ?aF ?aB ?aS ?aL ?_; (case aR => repeat (first | exact HR0.out | (with_reducible refine Kd.C_alloc ?_ _) | (with_reducible refine Kd.C_drewN ?_ _) | (with_reducible refine Kd.C_drew ?_))); (case aB => exact (by repeat (first | (with_reducible first | exact HB.out | apply below_alloc | apply pw_below_drewN | apply below_drew1) | exact HB.out))); (case aF => exact (fun _ _ => trivial)); (case aO => exact ((Kd.R_nil _ _ _ _ (fun _ => True)))); (case aS => exact (below_size (by repeat (first | (with_reducible first | exact HB.out | apply below_alloc | apply pw_below_drewN | apply below_drew1) | exact HB.out)))); (case aL => have := LMc4.out; omega); intro v206 w18 ho hb hg hat; rw [← Ny205.out] at ho; have n0_ := Aside0.mk (hb); have n1_ := Aside0.mk (ho); clear HB; have HB := n0_; have HO207 := n1_; clear n0_ n1_; clear ho hb hg hat; obtain ⟨Ao19, co19, eo19⟩ := Kd.R_slice HO207.out; subst eo19))
      go_ret
      exact ⟨_, by first | rfl | (simp [errW_none, errW_some] <;> rfl) | (simp [*, errW_none, errW_some] <;> rfl), by (with_reducible repeat (first | apply Kd.R_alloc | apply Kd.R_drewN | apply Kd.R_drew)); exact HO207.out, by repeat (first | (with_reducible first | exact HB.out | apply below_alloc | apply pw_below_drewN | apply below_drew1) | exact HB.out)⟩
  · rw [if_neg c4] at H
    exact absurd H (by simp)
end Go.Proofs.YtcjidibdidijaaaDoor.PCod
namespace Go.Proofs.YtcjidibdidijaaaDoor.PCod
open Go.RowKit Go.Proofs.YtcjidibdidijaaaDoorW.PrintWords Go.Proofs.YtcjidibdidijaaaDoorW.PrintLast Go.Proofs.YtcjidibdidijaaaDoorW.PrintMore
attribute [local go_sem] max2_int min2_int max_two min_two max_three min_three max_four min_four   -- for this text's walks alone
set_option linter.unusedVariables false
set_option linter.unusedSimpArgs false

/-! ### fullingref22_SameInts: function 44 -/
def fullingref22_SameInts.l0 : Nat → List Int → List Int → Int → Option (Bool)
  | 0, _, _, _ => none
  | k + 1, x0, x1, x5 => if x5 < (x0.length : Int) then (if 0 ≤ x5 then (if x5 < (x1.length : Int) then (if (rd x0 x5) = (rd x1 x5) then (fullingref22_SameInts.l0 k x0 x1 (wrap64 (x5 + 1))) else (some false)) else (none)) else (none)) else (some true)
def fullingref22_SameInts.f (k : Nat) (l0 : List Int) (l1 : List Int) : Option (Bool) := if (l0.length : Int) = (l1.length : Int) then (fullingref22_SameInts.l0 k l0 l1 0) else (some false)
theorem fullingref22_SameInts.mono_l : ∀ k, (∀ y0 y1 y2, LeO (fullingref22_SameInts.l0 k y0 y1 y2) (fullingref22_SameInts.l0 (k + 1) y0 y1 y2))
  | 0 => fun _ _ _ r h => by simp [fullingref22_SameInts.l0] at h
  | k + 1 => by
    have ih0 := fullingref22_SameInts.mono_l k
    · intro y0 y1 y2
      unfold fullingref22_SameInts.l0
      repeat' first
      | (with_reducible exact ih0 _ _ _)
      | (with_reducible exact LeO.refl _)
      | (with_reducible exact LeO.none _)
      | (with_reducible refine LeO.ite ?_ ?_)
      | (with_reducible refine LeO.bind ?_ (fun _ => ?_))
      | exact ih0 _ _ _
      | exact LeO.none _
      | refine LeO.ite ?_ ?_
      | refine LeO.bind ?_ (fun _ => ?_)
theorem fullingref22_SameInts.mono : ∀ a0 a1 k, LeO (fullingref22_SameInts.f k a0 a1) (fullingref22_SameInts.f (k + 1) a0 a1) := by
  intro a0 a1 k
  have ih0 := fullingref22_SameInts.mono_l k
  unfold fullingref22_SameInts.f
  repeat' first
      | (with_reducible exact ih0 _ _ _)
      | (with_reducible exact LeO.refl _)
      | (with_reducible exact LeO.none _)
      | (with_reducible refine LeO.ite ?_ ?_)
      | (with_reducible refine LeO.bind ?_ (fun _ => ?_))
      | exact ih0 _ _ _
      | exact LeO.none _
      | refine LeO.ite ?_ ?_
      | refine LeO.bind ?_ (fun _ => ?_)
set_option maxHeartbeats 8000000 in
set_option maxRecDepth 100000 in
theorem fullingref22_SameInts.calls (k : Nat) (A0 : Option Addr) (c0 : Nat) (l0 : List Int) (A1 : Option Addr) (c1 : Nat) (l1 : List Int) (r : Bool) (w : World) (hr0 : Kd.C (Kd.int .i64) w A0 l0.length l0) (hc0 : l0.length ≤ c0) (hr1 : Kd.C (Kd.int .i64) w A1 l1.length l1) (hc1 : l1.length ≤ c1) (h : fullingref22_SameInts.f k l0 l1 = some r) :
    Calls Tryd.prog 44 #[.slice A0 l0.length c0, .slice A1 l1.length c1] w fun e w' => e = .returned (.bool r) ∧ Drawn0 w w' := by
  have HR0 := Aside0.mk hr0
  have HC0 := Aside0.mk hc0
  clear hr0 hc0
  have HR1 := Aside0.mk hr1
  have HC1 := Aside0.mk hc1
  clear hr1 hc1
  have H : (if (l0.length : Int) = (l1.length : Int) then (fullingref22_SameInts.l0 k l0 l1 0) else (some false)) = some r := h
  clear h
  by_cases c3 : (l0.length : Int) = (l1.length : Int)
  · rw [if_pos c3] at H
    have c3b0 : ((l0.length : Int) == (l1.length : Int)) = true := beq_iff_eq.mpr c3
    have c3b1 : ((l0.length : Int) != (l1.length : Int)) = false := bne_eq_false_iff_eq.mpr c3
    have c3b2 : (l0.length == l1.length) = true := by first | simpa using c3 | (simp at c3 ⊢; omega)
    clear c3
    have H' := Aside0.mk H
    clear H
    go_enter Tryd.func44, Tryd.ntmps44
    go_wp2
    repeat (go_quiet (fail); try go_wp2)
    go_loopg [5] k (fun kq v5 w' => ∃ (x5_1 : Int), v5 = .int .i64 x5_1 ∧ Aside0 (fullingref22_SameInts.l0 kq l0 l1 x5_1 = some r) ∧ Aside0 (kq ≤ k) ∧ Drawn0 w w')
    case atStart => exact ⟨(0), (by first | rfl | (simp; done) | (simp [*]; done)), H', ⟨Nat.le_refl _⟩, by repeat (first | exact Drawn0.refl _ | apply Drawn0.step)⟩
    case round =>
      clear H'
      try clear c1
      try clear p2
      try clear c3
      try clear c3b0
      try clear c3b1
      try clear c3b2
      obtain ⟨x5_1, rfl, HA, HK1, ⟨m1, rfl⟩⟩ := hrel
      cases gk with
      | zero => exact absurd HA.out (by simp [fullingref22_SameInts.l0])
      | succ k1 =>
        have H := HA.out
        clear HA
        simp only [fullingref22_SameInts.l0] at H
        by_cases c4 : x5_1 < (l0.length : Int)
        · rw [if_pos c4] at H
          have c4b0 : decide (x5_1 < (l0.length : Int)) = true := decide_eq_true c4
          clear c4
          by_cases c5 : 0 ≤ x5_1
          · rw [if_pos c5] at H
            have c5b0 : decide (0 ≤ x5_1) = true := decide_eq_true c5
            clear c5
            by_cases c6 : x5_1 < (l1.length : Int)
            · rw [if_pos c6] at H
              have c6b0 : decide (x5_1 < (l1.length : Int)) = true := decide_eq_true c6
              clear c6
              by_cases c7 : (rd l0 x5_1) = (rd l1 x5_1)
              · rw [if_pos c7] at H
                have c7b0 : ((rd l0 x5_1) == (rd l1 x5_1)) = true := beq_iff_eq.mpr c7
                have c7b1 : ((rd l0 x5_1) != (rd l1 x5_1)) = false := bne_eq_false_iff_eq.mpr c7
                clear c7
                have H' := Aside0.mk H
                clear H
                have p299 : 0 ≤ (x5_1 : Int) := of_decide_eq_true (by first | (with_reducible assumption) | assumption)
                have q299 : x5_1 < (l0.length : Int) := of_decide_eq_true (by first | (with_reducible assumption) | assumption)
                obtain ⟨ad299, e299, hx299_0⟩ := Kd.at_int HR0.out x5_1 p299 q299
                cases e299
                replace p299 := eq_true p299
                replace q299 := eq_true q299
                have p300 : 0 ≤ (x5_1 : Int) := of_decide_eq_true (by first | (with_reducible assumption) | assumption)
                have q300 : x5_1 < (l1.length : Int) := of_decide_eq_true (by first | (with_reducible assumption) | assumption)
                obtain ⟨ad300, e300, hx300_0⟩ := Kd.at_int HR1.out x5_1 p300 q300
                cases e300
                replace p300 := eq_true p300
                replace q300 := eq_true q300
                go_wp2
                repeat (go_quiet (fail); try go_wp2)
                go_roundg k1
                case measure => have := HK1.out; omega
                case rel => exact ⟨(wrap64 (x5_1 + 1)), (by first | rfl | (simp; done) | (simp [*]; done)), H', ⟨by have := HK1.out; omega⟩, by repeat (first | exact Drawn0.refl _ | apply Drawn0.step)⟩
              · rw [if_neg c7] at H
                have c7b0 : ((rd l0 x5_1) == (rd l1 x5_1)) = false := beq_eq_false_iff_ne.mpr c7
                have c7b1 : ((rd l0 x5_1) != (rd l1 x5_1)) = true := bne_iff_ne.mpr c7
                obtain rfl := Option.some.inj H
                have p299 : 0 ≤ (x5_1 : Int) := of_decide_eq_true (by first | (with_reducible assumption) | assumption)
                have q299 : x5_1 < (l0.length : Int) := of_decide_eq_true (by first | (with_reducible assumption) | assumption)
                obtain ⟨ad299, e299, hx299_0⟩ := Kd.at_int HR0.out x5_1 p299 q299
                cases e299
                replace p299 := eq_true p299
                replace q299 := eq_true q299
                have p300 : 0 ≤ (x5_1 : Int) := of_decide_eq_true (by first | (with_reducible assumption) | assumption)
                have q300 : x5_1 < (l1.length : Int) := of_decide_eq_true (by first | (with_reducible assumption) | assumption)
                obtain ⟨ad300, e300, hx300_0⟩ := Kd.at_int HR1.out x5_1 p300 q300
                cases e300
                replace p300 := eq_true p300
                replace q300 := eq_true q300
                go_wp2
                repeat (go_quiet (fail); try go_wp2)
                go_ret
                exact ⟨by first | rfl | (simp; done) | (simp [*]; done), by repeat (first | exact Drawn0.refl _ | apply Drawn0.step)⟩
            · rw [if_neg c6] at H
              exact absurd H (by simp)
          · rw [if_neg c5] at H
            exact absurd H (by simp)
        · rw [if_neg c4] at H
          have c4b0 : decide (x5_1 < (l0.length : Int)) = false := decide_eq_false c4
          clear c4
          obtain rfl := Option.some.inj H
          go_wp2
          repeat (go_quiet (fail); try go_wp2)
          go_ret
          exact ⟨by first | rfl | (simp; done) | (simp [*]; done), by repeat (first | exact Drawn0.refl _ | apply Drawn0.step)⟩
  · rw [if_neg c3] at H
    have c3b0 : ((l0.length : Int) == (l1.length : Int)) = false := beq_eq_false_iff_ne.mpr c3
    have c3b1 : ((l0.length : Int) != (l1.length : Int)) = true := bne_iff_ne.mpr c3
    have c3b2 : (l0.length == l1.length) = false := by first | simpa using c3 | (simp at c3 ⊢; omega)
    obtain rfl := Option.some.inj H
    go_enter Tryd.func44, Tryd.ntmps44
    go_wp2
    repeat (go_quiet (fail); try go_wp2)
    go_ret
    exact ⟨by first | rfl | (simp; done) | (simp [*]; done), by repeat (first | exact Drawn0.refl _ | apply Drawn0.step)⟩
end Go.Proofs.YtcjidibdidijaaaDoor.PCod
namespace Go.Proofs.YtcjidibdidijaaaDoor.DecL
open Go.RowKit Go.Proofs.YtcjidibdidijaaaDoor Go.Proofs.YtcjidibdidijaaaDoor.PCod Go.Proofs.YtcjidibdidijaaaDoorW.PrintWords Go.Proofs.YtcjidibdidijaaaDoorW.PrintMore
set_option linter.unusedVariables false
set_option linter.unusedSimpArgs false

theorem pick_f (n m : Int) (h : m ≠ 0) : fullingkeep_Pick.f n m = some (pickN n m) := by
  unfold fullingkeep_Pick.f pickN
  rw [if_neg h]
  split <;> rfl
/-- The words with one bit flipped. -/
def flipW (w : List Int) (p q : Int) : List Int := if w.length = 0 then w else w.set (pickN p w.length).toNat (Go.bits .xor .u32 (rd w (pickN p w.length)) ((2 ^ (pickN q 32).toNat : Nat) : Int))
theorem shl_one (k : Nat) (h : k < 32) : shl .u32 1 (k : Int) = ((2 ^ k : Nat) : Int) := by
  have hp : 2 ^ k < 2 ^ 32 := Nat.pow_lt_pow_right (by omega) h
  have hp' : 2 ^ k < 4294967296 := hp
  rw [shl32 1 k k rfl (by omega), Int.one_mul]
  clear hp
  generalize 2 ^ k = m at *
  omega
theorem flip_f (w : List Int) (p q : Int) (hl : w.length < 35184372088832) : fullingkeep2_FlipBit.f w p q = some (flipW w p q) := by
  unfold fullingkeep2_FlipBit.f flipW
  rw [if_pos (by simpa using hl), Option.bind_some, List.nil_append]
  by_cases h0 : w.length = 0
  · rw [if_neg (by omega), if_pos h0]
  · have hp := pickN_range p w.length (by omega) (by omega)
    have hq := pickN_range q 32 (by omega) (by omega)
    rw [if_pos (by omega), if_neg h0, pick_f _ _ (by omega), Option.bind_some, if_pos hp.1, if_pos hp.2, pick_f _ _ (by omega), Option.bind_some]
    have e : IntKind.u64.wrap (pickN q 32) = ((pickN q 32).toNat : Int) := by rw [u64w]; omega
    rw [e, if_pos (by omega), shl_one _ (by omega)]
theorem flip_u32 (w : List Int) (hw : u32s w) (p q : Int) : u32s (flipW w p q) := by
  unfold flipW
  split
  · exact hw
  · intro x hx
    rcases List.mem_or_eq_of_mem_set hx with h | h
    · exact hw x h
    · rw [h]; exact xor32_range _ _
theorem flip_len (w : List Int) (p q : Int) : (flipW w p q).length = w.length := by
  unfold flipW
  split
  · rfl
  · rw [List.length_set]

/-- A slice of words that the walk holds. -/
structure SL (w : World) (A : Option Addr) (n c : Nat) (l : List Int) : Prop where
  C : Kd.C (Kd.int .u32) w A n l
  le : n ≤ c
  len : l.length = n
  u : u32s l
  sm : n ≤ 35184372088831
theorem SL.below {w w' : World} {A : Option Addr} {n c : Nat} {l : List Int} (h : SL w A n c l) (hb : Below w.heap.size w w') : SL w' A n c l := ⟨Kd.C_below h.C hb, h.le, h.len, h.u, h.sm⟩
theorem SL.take {w : World} {A : Option Addr} {n c : Nat} {l : List Int} (h : SL w A n c l) (m : Nat) (hm : m ≤ n) : SL w A m c (l.take m) :=
  ⟨Kd.C_of_reads (d := (0 : Int)) (h1 := fun _ => rfl) (ReadsInt.take_ (readsInt_of.2 (Kd.reads_of_C (d := (0 : Int)) h.C)) m hm), by have := h.le; omega, by rw [List.length_take, h.len]; omega, fun x hx => h.u x (List.mem_of_mem_take hx), by have := h.sm; omega⟩
theorem dec_any {A : Option Addr} {n c : Nat} {l : List Int} {w : World} (h : SL w A n c l) (a : Int) (HT : Aside0 (TabOK w)) : Calls Tryd.prog 34 #[.slice A n c, .int .i64 a] w fun e w' => e = .returned (decV (decS l a)) ∧ Below w.heap.size w w' := by
  obtain ⟨hC, hc, rfl, hu, hl⟩ := h
  obtain ⟨k, hk⟩ := (dec_ev l hu (by omega) a).rounds
  generalize decS l a = d at *
  obtain ⟨r1, r2, r3, r4, r5, r6, r7⟩ := d
  exact encoding_Decode.calls k A c l a r1 r2 r3 r4 r5 r6 r7 w hC hc hk HT
theorem rdec2_any {A : Option Addr} {n c : Nat} {l : List Int} {w : World} (h : SL w A n c l) (a : Int) : Calls Tryd.prog 27 #[.slice A n c, .int .i64 a] w fun e w' => e = .returned (decV (decS l a)) ∧ Below w.heap.size w w' := by
  obtain ⟨hC, hc, rfl, hu, hl⟩ := h
  exact rdec_any A c l a w hC hu (by omega)
theorem decA_len (w : List Int) : ∀ (n a : Nat) (l : List S42), decA w n a = some l → l.length ≤ n
  | 0, a, l, h => by cases h; simp
  | n + 1, a, l, h => by
    rw [decA] at h
    split at h
    · split at h
      · obtain ⟨t, ht, rfl⟩ := Option.map_eq_some_iff.1 h
        have := decA_len w n _ t ht
        simp; omega
      · cases h
    · cases h; simp
theorem decR_len (w : List Int) : (decR w).1.length ≤ w.length + 1 ∧ (decR w).2.1.length ≤ w.length + 1 := by
  unfold decR
  cases e : decA w (w.length + 1) 0 with
  | none => simp
  | some l =>
    have := decA_len w _ _ l e
    simp only [starts_len]
    omega
/-- What both DecodeAll hand back. -/
def AllPost (w : World) (r : List S42 × List Int × Int) (e : Ending) (w' : World) : Prop :=
  ∃ A0 c0 A1 c1, e = .returned (.tuple #[.slice A0 r.1.length c0, .slice A1 r.2.1.length c1, .int .i64 r.2.2]) ∧ Kd.C k42 w' A0 r.1.length r.1 ∧ r.1.length ≤ c0 ∧ Kd.C (Kd.int .i64) w' A1 r.2.1.length r.2.1 ∧ r.2.1.length ≤ c1 ∧ Below w.heap.size w w'
theorem allPost {w w' : World} {r : List S42 × List Int × Int} {e : Ending} {v0 v1 : Value} (he : e = .returned (.tuple #[v0, v1, .int .i64 r.2.2])) (h0 : Kd.R k42 42 w' w.heap.size (fun _ => True) v0 r.1) (h1 : Kd.R (Kd.int .i64) 3 w' w.heap.size (fun _ => True) v1 r.2.1) (hb : Below w.heap.size w w') : AllPost w r e w' := by
  obtain ⟨A0, c0, rfl, hc0, hC0⟩ := Kd.R_reads h0
  obtain ⟨A1, c1, rfl, hc1, hC1⟩ := Kd.R_reads h1
  exact ⟨A0, c0, A1, c1, he, hC0, hc0, hC1, hc1, hb⟩
theorem dall_any {A : Option Addr} {n c : Nat} {l : List Int} {w : World} (hm : n ≤ 60) (h : SL w A n c l) (HT : Aside0 (TabOK w)) : Calls Tryd.prog 41 #[.slice A n c] w (AllPost w (decR l)) := by
  obtain ⟨hC, hc, rfl, hu, hl⟩ := h
  obtain ⟨k, hk⟩ := (dall_ev l hu (by omega)).rounds
  generalize decR l = d at *
  obtain ⟨r1, r2, r3⟩ := d
  exact (encoding_DecodeAll.calls k A c l r1 r2 r3 w hC hc hk HT).mono fun e w' ⟨v0, v1, he, h0, h1, hb⟩ => allPost (r := (r1, r2, r3)) he h0 h1 hb
theorem rdall_any {A : Option Addr} {n c : Nat} {l : List Int} {w : World} (hm : n ≤ 60) (h : SL w A n c l) : Calls Tryd.prog 42 #[.slice A n c] w (AllPost w (decR l)) := by
  obtain ⟨hC, hc, rfl, hu, hl⟩ := h
  obtain ⟨k, hk⟩ := (rdall_ev l hu (by omega)).rounds
  generalize decR l = d at *
  obtain ⟨r1, r2, r3⟩ := d
  exact (fullingref29_DecodeAll.calls k A c l r1 r2 r3 w hC hc hk).mono fun e w' ⟨v0, v1, he, h0, h1, hb⟩ => allPost (r := (r1, r2, r3)) he h0 h1 hb
theorem sameN_loop (l : List Int) (hl : l.length < 9223372036854775807) : ∀ (d j : Nat), l.length - j = d → j ≤ l.length → Ev (fun k => fullingref22_SameInts.l0 k l l (j : Int)) true
  | 0, j, hd, hj => by
    refine Ev.step (f := fun _ => some true) (fun k => ?_) (Ev.now _)
    rw [fullingref22_SameInts.l0, if_neg (by omega)]
  | d + 1, j, hd, hj => by
    refine Ev.step (fun k => ?_) (sameN_loop l hl d (j + 1) (by omega) (by omega))
    rw [fullingref22_SameInts.l0, if_pos (by omega), if_pos (by omega), if_pos (by omega), if_pos rfl, wrap_succ j (by omega)]
theorem sameN_ev (l : List Int) (hl : l.length < 9223372036854775807) : Ev (fun k => fullingref22_SameInts.f k l l) true := by
  refine Ev.congr (fun k => ?_) (sameN_loop l hl _ 0 rfl (by omega))
  show fullingref22_SameInts.f k l l = _
  unfold fullingref22_SameInts.f
  rw [if_pos rfl]
  rfl
theorem same43 {w : World} {A0 A1 : Option Addr} {c0 c1 : Nat} {l : List S42} (hC0 : Kd.C k42 w A0 l.length l) (hc0 : l.length ≤ c0) (hC1 : Kd.C k42 w A1 l.length l) (hc1 : l.length ≤ c1) (hl : l.length < 9223372036854775807) :
    Calls Tryd.prog 43 #[.slice A0 l.length c0, .slice A1 l.length c1] w fun e w' => e = .returned (.bool true) ∧ Below w.heap.size w w' := by
  obtain ⟨k, hk⟩ := (sameI_ev l hl).rounds
  exact (fullingref32_SameInstrs.calls k A0 c0 l A1 c1 l true w hC0 hc0 hC1 hc1 hk).mono fun e w' ⟨he, hd⟩ => ⟨he, hd.below⟩
theorem same44 {w : World} {A0 A1 : Option Addr} {c0 c1 : Nat} {l : List Int} (hC0 : Kd.C (Kd.int .i64) w A0 l.length l) (hc0 : l.length ≤ c0) (hC1 : Kd.C (Kd.int .i64) w A1 l.length l) (hc1 : l.length ≤ c1) (hl : l.length < 9223372036854775807) :
    Calls Tryd.prog 44 #[.slice A0 l.length c0, .slice A1 l.length c1] w fun e w' => e = .returned (.bool true) ∧ Below w.heap.size w w' := by
  obtain ⟨k, hk⟩ := (sameN_ev l hl).rounds
  exact (fullingref22_SameInts.calls k A0 c0 l A1 c1 l true w hC0 hc0 hC1 hc1 hk).mono fun e w' ⟨he, hd⟩ => ⟨he, hd.below⟩
theorem inst_any {w : World} {A : Option Addr} {n c : Nat} {l : List Int} (hC : Kd.C (Kd.int .i64) w A n l) (hn : l.length = n) (hc : n ≤ c) :
    Calls Tryd.prog 36 #[.slice A n c, .int .i64 8] w fun e w' => ∃ A' n' c', e = .returned (.slice A' n' c') ∧ n' = (mkL l 8).length ∧ Kd.C k42 w' A' n' (mkL l 8) ∧ n' ≤ c' ∧ Below w.heap.size w w' := by
  subst hn
  obtain ⟨k, hk⟩ := (instrs_ev l 8 (by omega)).rounds
  refine (fullingkeep2_Instrs.calls k A c l 8 _ w hC hc hk).mono fun e w' ⟨v, he, hR, hb⟩ => ?_
  obtain ⟨A', c', rfl, hc', hC'⟩ := Kd.R_reads hR
  exact ⟨A', _, c', he, rfl, hC', hc', hb⟩
theorem encL_words (L : List S42) (h : L.length ≤ 8) : u32s (encL L).1 ∧ (encL L).1.length ≤ 35184372088831 := by
  unfold encL
  split
  · rename_i hv
    exact ⟨flat_u32 L hv, by have := (flat_len L hv).2; show (L.flatMap wI).length ≤ _; omega⟩
  · show u32s [] ∧ ([] : List Int).length ≤ _
    exact ⟨fun x hx => absurd hx (by simp), by simp⟩
theorem enc_any {w : World} {A : Option Addr} {n c : Nat} {L : List S42} (hC : Kd.C k42 w A n L) (hn : n = L.length) (hc : n ≤ c) (h8 : L.length ≤ 8) :
    Calls Tryd.prog 37 #[.slice A n c] w fun e w' => ∃ A' n' c' l er, e = .returned (.tuple #[.slice A' n' c', .int .i64 er]) ∧ SL w' A' n' c' l ∧ Below w.heap.size w w' := by
  subst hn
  obtain ⟨k, hk⟩ := (renc_ev L (by omega)).rounds
  refine (fullingref29_Encode.calls k A c L _ _ w hC hc hk).mono fun e w' ⟨v, he, hR, hb⟩ => ?_
  obtain ⟨A', c', rfl, hc', hC'⟩ := Kd.R_reads hR
  have hw := encL_words L h8
  exact ⟨A', _, c', _, _, he, ⟨hC', hc', rfl, hw.1, hw.2⟩, hb⟩
theorem flip_any {w : World} {A : Option Addr} {n c : Nat} {l : List Int} (h : SL w A n c l) (p q : Int) :
    Calls Tryd.prog 40 #[.slice A n c, .int .i64 p, .int .i64 q] w fun e w' => ∃ A' n' c' l', e = .returned (.slice A' n' c') ∧ SL w' A' n' c' l' ∧ Below w.heap.size w w' := by
  obtain ⟨hC, hc, rfl, hu, hl⟩ := h
  refine (fullingkeep2_FlipBit.calls A c l p q _ w hC hc (flip_f l p q (by omega))).mono fun e w' ⟨v, he, hR, hb⟩ => ?_
  obtain ⟨A', c', rfl, hc', hC'⟩ := Kd.R_reads hR
  exact ⟨A', _, c', _, he, ⟨hC', hc', rfl, flip_u32 l hu p q, by rw [flip_len]; exact hl⟩, hb⟩
theorem pick_any (a : Int) (w : World) : Calls Tryd.prog 19 #[.int .i64 a, .int .i64 9] w fun e w' => ∃ p, e = .returned (.int .i64 p) ∧ 0 ≤ p ∧ p < 9 ∧ Below w.heap.size w w' := by
  have h := pickN_range a 9 (by omega) (by omega)
  exact (fullingkeep_Pick.calls a 9 _ w (pick_f a 9 (by omega))).mono fun e w' ⟨he, hd⟩ => ⟨_, he, h.1, h.2, hd.below⟩
theorem dec_anyD {A : Option Addr} {n c : Nat} {l : List Int} {w : World} {a r1 r2 r3 r4 r5 r6 r7 : Int} (hd : decS l a = (r1, r2, r3, r4, r5, r6, r7)) (h : SL w A n c l) (HT : Aside0 (TabOK w)) : Calls Tryd.prog 34 #[.slice A n c, .int .i64 a] w fun e w' => e = .returned (.tuple #[.agg #[.int .i64 r1, .int .i64 r2, .int .i64 r3, .int .i64 r4, .int .i64 r5], .int .i64 r6, .int .i64 r7]) ∧ Below w.heap.size w w' := by
  have := dec_any h a HT
  rw [hd] at this
  exact this
theorem rdec_anyD {A : Option Addr} {n c : Nat} {l : List Int} {w : World} {a r1 r2 r3 r4 r5 r6 r7 : Int} (hd : decS l a = (r1, r2, r3, r4, r5, r6, r7)) (h : SL w A n c l) : Calls Tryd.prog 27 #[.slice A n c, .int .i64 a] w fun e w' => e = .returned (.tuple #[.agg #[.int .i64 r1, .int .i64 r2, .int .i64 r3, .int .i64 r4, .int .i64 r5], .int .i64 r6, .int .i64 r7]) ∧ Below w.heap.size w w' := by
  have := rdec2_any h a
  rw [hd] at this
  exact this
theorem dall_anyD {A : Option Addr} {n c : Nat} {l : List Int} {w : World} {r : List S42 × List Int × Int} (hm : n ≤ 60) (hr : decR l = r) (h : SL w A n c l) (HT : Aside0 (TabOK w)) : Calls Tryd.prog 41 #[.slice A n c] w (AllPost w r) := hr ▸ dall_any hm h HT
theorem rdall_anyD {A : Option Addr} {n c : Nat} {l : List Int} {w : World} {r : List S42 × List Int × Int} (hm : n ≤ 60) (hr : decR l = r) (h : SL w A n c l) : Calls Tryd.prog 42 #[.slice A n c] w (AllPost w r) := hr ▸ rdall_any hm h
theorem SL.run {w : World} {A : Option Addr} {n c : Nat} {l : List Int} (h : SL w A n c l) (j : Int) (m : Nat) (hj : j = m) (hm : m ≤ n) (W : World) : (Instr.slice 23 (.slice A n c) none (some (.int .i64 j)) none).run Tryd.prog W = .ok (.slice A m c) W := by
  obtain ⟨hC, hc, rfl, hu, hl⟩ := h
  obtain ⟨i53, hi53, e53⟩ := Option.map_eq_some_iff.1 info53
  have z53 : i53.size = 1 := congrArg (fun p => p.2.1) e53
  have := (print_take_int (k := .u32) (P := Tryd.prog) 23 53 Tryd.underlying23 hi53 z53 A c l j (by omega) (by omega) hc).1 W
  rw [this, show (l.take j.toNat).length = m by rw [List.length_take]; omega]
end Go.Proofs.YtcjidibdidijaaaDoor.DecL
namespace Go.Proofs.YtcjidibdidijaaaDoor.DecL
open Go.RowKit Go.Proofs.YtcjidibdidijaaaDoor Go.Proofs.YtcjidibdidijaaaDoor.PCod Go.Proofs.YtcjidibdidijaaaDoorW.PrintWords Go.Proofs.YtcjidibdidijaaaDoorW.PrintMore
attribute [local go_sem] max2_int min2_int max_two min_two
attribute [local go_sem high] eqA42
set_option linter.unusedVariables false
set_option linter.unusedSimpArgs false

set_option maxRecDepth 100000 in
set_option maxHeartbeats 8000000 in
theorem law_decode {A0 A1 : Option Addr} {n0 c0 n1 c1 : Nat} {l0 l1 : List Int} (at_ bit : Int) (w : World) (h0 : SL w A0 n0 c0 l0) (hC1 : Kd.C (Kd.int .i64) w A1 n1 l1) (hn1 : l1.length = n1) (hc1 : n1 ≤ c1) (HT : Aside0 (TabOK w)) :
    Calls Tryd.prog 9 #[.slice A0 n0 c0, .slice A1 n1 c1, .int .i64 at_, .int .i64 bit] w fun e w' => e = .returned (.bool true) ∧ Below w.heap.size w w' := by
  go_enter Tryd.func9, Tryd.ntmps9
  go_wp2_with fail
  refine (inst_any hC1 hn1 hc1).mono ?_
  rintro e w1 ⟨A2, n2, c2, rfl, hn2, hC2, hc2, hb1⟩
  have HB1 := Aside0.mk (hb1 : Below w.heap.size w w1)
  replace hn2 := Lib.hid hn2
  clear hb1 hC1 hn1 hc1
  go_wp2_with fail
  refine (enc_any hC2 hn2.out hc2 (by rw [mkL_len]; omega)).mono ?_
  rintro e w2 ⟨A3, n3, c3, l3, er3, rfl, h3, hb2⟩
  have HB2 := Aside0.mk (below_step HB1.out hb2)
  clear hb2 HB1 hC2 hn2 hc2
  go_wp2_with fail
  refine (flip_any h3 at_ bit).mono ?_
  rintro e w3 ⟨A4, n4, c4, l4, rfl, h4, hb3⟩
  replace h3 := h3.below hb3
  have HB3 := Aside0.mk (below_step HB2.out hb3)
  clear hb3 HB2
  go_wp2_with fail
  refine (pick_any at_ _).mono ?_
  rintro e w4 ⟨p, rfl, p0, p9, hb4⟩
  replace h3 := h3.below hb4
  replace h4 := h4.below hb4
  have HB4 := Aside0.mk (below_step HB3.out hb4)
  clear hb4 HB3
  obtain ⟨m, hm, hm3⟩ : ∃ m : Nat, (if p < (n3 : Int) then p else (n3 : Int)) = (m : Int) ∧ m ≤ n3 := by
    split
    · exact ⟨p.toNat, by omega, by omega⟩
    · exact ⟨n3, rfl, Nat.le_refl _⟩
  have hr3 := h3.run m m rfl hm3
  go_wp2_with fail
  clear hr3 hm
  have BK := blk_new w4 (.cells #[.slice A0 n0 c0, .slice A3 n3 c3, .slice A4 n4 c4, .slice A3 m c3] 23 (0, 0))
  have H0 : SL w4 A0 n0 c0 l0 := h0.below HB4.out
  have hba : Below w4.heap.size w4 (w4.alloc (.cells #[.slice A0 n0 c0, .slice A3 n3 c3, .slice A4 n4 c4, .slice A3 m c3] 23 (0, 0))) := below_alloc (Below.refl _ _) _
  have HB5 : Below w.heap.size w (w4.alloc (.cells #[.slice A0 n0 c0, .slice A3 n3 c3, .slice A4 n4 c4, .slice A3 m c3] 23 (0, 0))) := below_alloc HB4.out _
  have h3m := (h3.take m hm3).below hba
  replace h3 := h3.below hba
  replace h4 := h4.below hba
  replace H0 := H0.below hba
  replace HB5 := Aside0.mk HB5
  clear hba HB4
  generalize w4.alloc (.cells #[.slice A0 n0 c0, .slice A3 n3 c3, .slice A4 n4 c4, .slice A3 m c3] 23 (0, 0)) = W at *
  generalize hAd : (⟨w4.heap.size, 0, none⟩ : Addr) = ad at *
  have row : Aside0 (∀ i : Int, 0 ≤ i → i < 4 → ∃ A n c l, W.cell? (ad.add i.toNat) = some (.slice A n c) ∧ SL W A n c l) := by
    refine ⟨fun i i0 i4 => ?_⟩
    rw [← hAd]
    rcases (by omega : i = 0 ∨ i = 1 ∨ i = 2 ∨ i = 3) with rfl | rfl | rfl | rfl
    · exact ⟨_, _, _, _, (blk_cell BK 0).trans rfl, H0⟩
    · exact ⟨_, _, _, _, (blk_cell BK 1).trans rfl, h3⟩
    · exact ⟨_, _, _, _, (blk_cell BK 2).trans rfl, h4⟩
    · exact ⟨_, _, _, _, (blk_cell BK 3).trans rfl, h3m⟩
  clear hAd BK h3 h4 h3m h0 p0 p9 hm3
  have HT5 := TabOK.aside HT.out HB5.out
  have H0 := Aside0.mk H0
  clear HT
  go_loopg [53] 4 (fun kq v53 wr => ∃ i : Int, v53 = .int .i64 i ∧ Aside0 (0 ≤ i ∧ i + kq = 4) ∧ Aside0 (Below W.heap.size W wr))
  case atStart => exact ⟨0, rfl, ⟨by omega⟩, ⟨Below.refl _ _⟩⟩
  case round =>
    obtain ⟨i, rfl, Hi, HB⟩ := hrel
    by_cases hi : i < 4
    · have i0 := Hi.out.1
      have hi' := Aside0.mk hi
      have ti : decide (i < 4) = true := decide_eq_true hi
      obtain ⟨A, n, c, l, hcell, hs⟩ := row.out i i0 hi
      have hlt := World.block_lt_of_cell? _ _ hcell
      replace hcell := (HB.out.cell hlt).trans hcell
      replace hs := Aside0.mk hs
      by_cases hb : 60 < n
      · have tb : decide (60 < (n : Int)) = true := decide_eq_true (by omega)
        have hr6 := hs.out.run 60 60 rfl (by omega)
        have hs6 := Aside0.mk (hs.out.take 60 (by omega))
        clear hs
        have hs := hs6
        clear hs6
        generalize l.take 60 = l6 at hs
        clear hb
        go_wp2_with fail
        clear hr6 tb ti hi hcell hlt
        go_loopg [13] (60 + 2) (fun kq v13 wr => ∃ q : Int, v13 = .int .i64 q ∧ Aside0 (-1 ≤ q ∧ q + kq = (60 : Int) + 1) ∧ Aside0 (Below W.heap.size W wr))
        case atStart => exact ⟨-1, rfl, ⟨by omega⟩, HB⟩
        case round =>
          clear HB
          obtain ⟨q, rfl, Hq, HB⟩ := hrel
          by_cases hq : q ≤ (60 : Int)
          · have tq : decide (q ≤ (60 : Int)) = true := decide_eq_true hq
            have hq' := Aside0.mk hq
            clear hq
            cases gk with
            | zero => have := Hq.out; have := hq'.out; omega
            | succ k1 =>
              obtain ⟨⟨r1, r2, r3, r4, r5, r6, r7⟩, hd⟩ : ∃ d, decS l6 q = d := ⟨_, rfl⟩
              replace hd := Aside0.mk hd
              go_wp2_with fail
              refine (dec_anyD hd.out (hs.out.below HB.out) (TabOK.aside HT5.out HB.out)).mono ?_
              rintro e wa ⟨rfl, hba⟩
              replace HB := Aside0.mk (below_step HB.out hba)
              clear hba
              go_wp2_with fail
              have B14 := blk_new wa (.cells #[.int .i64 r1, .int .i64 r2, .int .i64 r3, .int .i64 r4, .int .i64 r5] 42 (0, 0))
              generalize hW : World.alloc wa _ = wb at B14 ⊢
              have HBb : Below W.heap.size W wb := by rw [← hW]; exact below_alloc HB.out _
              replace HB := Aside0.mk HBb
              clear HBb hW
              generalize wa.heap.size = g14 at *
              refine (rdec_anyD hd.out (hs.out.below HB.out)).mono ?_
              rintro e wc ⟨rfl, hba⟩
              replace B14 := blk_below B14 hba
              replace HB := Aside0.mk (below_step HB.out hba)
              clear hba wa wb
              have k0 := (blk_cell B14 0).trans rfl
              have k1_ := (blk_cell B14 1).trans rfl
              have k2 := (blk_cell B14 2).trans rfl
              have k3 := (blk_cell B14 3).trans rfl
              have k4 := (blk_cell B14 4).trans rfl
              have hgl := blk_lt B14
              clear B14
              go_wp2_with fail
              have e1 : wrap64 (q + 1) = q + 1 := by have := Hq.out; have := hq'.out; have := hs.out.sm; unfold wrap64; omega
              go_roundg k1
              case measure => omega
              case rel => exact ⟨q + 1, by first | rw [e1] | rw [i64w, e1], ⟨by have := Hq.out; omega⟩, ⟨by first | exact HB.out | exact below_alloc HB.out _⟩⟩
          · have tq : decide (q ≤ (60 : Int)) = false := decide_eq_false hq
            clear hq
            obtain ⟨⟨x1, x2, x3⟩, hr⟩ : ∃ r, decR l6 = r := ⟨_, rfl⟩
            have hx : x1.length < 9223372036854775807 ∧ x2.length < 9223372036854775807 := by
              have h1 := decR_len l6
              rw [hr] at h1
              have h2 := hs.out.sm
              have h3 := hs.out.len
              simp only at h1
              omega
            replace hx := Aside0.mk hx
            replace hr := Aside0.mk hr
            go_wp2_with fail
            refine (dall_anyD (Nat.le_refl _) hr.out (hs.out.below HB.out) (TabOK.aside HT5.out HB.out)).mono ?_
            rintro e wa ⟨A5, c5, A6, c6, rfl, k1, k2, k3, k4, hba⟩
            have K1 := Aside0.mk (And.intro k1 (And.intro k2 (And.intro k3 k4)))
            replace HB := Aside0.mk (below_step HB.out hba)
            clear k1 k2 k3 k4 hba
            go_wp2_with fail
            refine (rdall_anyD (Nat.le_refl _) hr.out (hs.out.below HB.out)).mono ?_
            rintro e wb ⟨A7, c7, A8, c8, rfl, k1, k2, k3, k4, hba⟩
            replace K1 := Aside0.mk (And.intro (Kd.C_below K1.out.1 hba) (And.intro K1.out.2.1 (And.intro (Kd.C_below K1.out.2.2.1 hba) K1.out.2.2.2)))
            have K2 := Aside0.mk (And.intro k1 (And.intro k2 (And.intro k3 k4)))
            replace HB := Aside0.mk (below_step HB.out hba)
            clear k1 k2 k3 k4 hba
            go_wp2_with fail
            refine (same43 K1.out.1 K1.out.2.1 K2.out.1 K2.out.2.1 hx.out.1).mono ?_
            rintro e wc ⟨rfl, hba⟩
            replace K1 := Aside0.mk (And.intro (Kd.C_below K1.out.2.2.1 hba) K1.out.2.2.2)
            replace K2 := Aside0.mk (And.intro (Kd.C_below K2.out.2.2.1 hba) K2.out.2.2.2)
            replace HB := Aside0.mk (below_step HB.out hba)
            clear hba
            go_wp2_with fail
            refine (same44 K1.out.1 K1.out.2 K2.out.1 K2.out.2 hx.out.2).mono ?_
            rintro e wd ⟨rfl, hba⟩
            replace HB := Aside0.mk (below_step HB.out hba)
            clear hba
            go_wp2_with fail
            have e1 : wrap64 (i + 1) = i + 1 := by have := Hi.out; have := hi'.out; unfold wrap64; omega
            go_roundg (3 - i).toNat
            case measure => have := Hi.out; have := hi'.out; omega
            case rel => exact ⟨i + 1, by first | rw [e1] | rw [i64w, e1], ⟨by have := Hi.out; have := hi'.out; omega⟩, HB⟩
      · have tb : decide (60 < (n : Int)) = false := decide_eq_false (by omega)
        replace hb := Aside0.mk hb
        go_wp2_with fail
        clear tb ti hi hcell hlt
        go_loopg [13] (n + 2) (fun kq v13 wr => ∃ q : Int, v13 = .int .i64 q ∧ Aside0 (-1 ≤ q ∧ q + kq = (n : Int) + 1) ∧ Aside0 (Below W.heap.size W wr))
        case atStart => exact ⟨-1, rfl, ⟨by omega⟩, HB⟩
        case round =>
          clear HB
          obtain ⟨q, rfl, Hq, HB⟩ := hrel
          by_cases hq : q ≤ (n : Int)
          · have tq : decide (q ≤ (n : Int)) = true := decide_eq_true hq
            have hq' := Aside0.mk hq
            clear hq
            cases gk with
            | zero => have := Hq.out; have := hq'.out; omega
            | succ k1 =>
              obtain ⟨⟨r1, r2, r3, r4, r5, r6, r7⟩, hd⟩ : ∃ d, decS l q = d := ⟨_, rfl⟩
              replace hd := Aside0.mk hd
              go_wp2_with fail
              refine (dec_anyD hd.out (hs.out.below HB.out) (TabOK.aside HT5.out HB.out)).mono ?_
              rintro e wa ⟨rfl, hba⟩
              replace HB := Aside0.mk (below_step HB.out hba)
              clear hba
              go_wp2_with fail
              have B14 := blk_new wa (.cells #[.int .i64 r1, .int .i64 r2, .int .i64 r3, .int .i64 r4, .int .i64 r5] 42 (0, 0))
              generalize hW : World.alloc wa _ = wb at B14 ⊢
              have HBb : Below W.heap.size W wb := by rw [← hW]; exact below_alloc HB.out _
              replace HB := Aside0.mk HBb
              clear HBb hW
              generalize wa.heap.size = g14 at *
              refine (rdec_anyD hd.out (hs.out.below HB.out)).mono ?_
              rintro e wc ⟨rfl, hba⟩
              replace B14 := blk_below B14 hba
              replace HB := Aside0.mk (below_step HB.out hba)
              clear hba wa wb
              have k0 := (blk_cell B14 0).trans rfl
              have k1_ := (blk_cell B14 1).trans rfl
              have k2 := (blk_cell B14 2).trans rfl
              have k3 := (blk_cell B14 3).trans rfl
              have k4 := (blk_cell B14 4).trans rfl
              have hgl := blk_lt B14
              clear B14
              go_wp2_with fail
              have e1 : wrap64 (q + 1) = q + 1 := by have := Hq.out; have := hq'.out; have := hs.out.sm; unfold wrap64; omega
              go_roundg k1
              case measure => omega
              case rel => exact ⟨q + 1, by first | rw [e1] | rw [i64w, e1], ⟨by have := Hq.out; omega⟩, ⟨by first | exact HB.out | exact below_alloc HB.out _⟩⟩
          · have tq : decide (q ≤ (n : Int)) = false := decide_eq_false hq
            clear hq
            obtain ⟨⟨x1, x2, x3⟩, hr⟩ : ∃ r, decR l = r := ⟨_, rfl⟩
            have hx : x1.length < 9223372036854775807 ∧ x2.length < 9223372036854775807 := by
              have h1 := decR_len l
              rw [hr] at h1
              have h2 := hs.out.sm
              have h3 := hs.out.len
              simp only at h1
              omega
            replace hx := Aside0.mk hx
            replace hr := Aside0.mk hr
            go_wp2_with fail
            refine (dall_anyD (Nat.le_of_not_lt hb.out) hr.out (hs.out.below HB.out) (TabOK.aside HT5.out HB.out)).mono ?_
            rintro e wa ⟨A5, c5, A6, c6, rfl, k1, k2, k3, k4, hba⟩
            have K1 := Aside0.mk (And.intro k1 (And.intro k2 (And.intro k3 k4)))
            replace HB := Aside0.mk (below_step HB.out hba)
            clear k1 k2 k3 k4 hba
            go_wp2_with fail
            refine (rdall_anyD (Nat.le_of_not_lt hb.out) hr.out (hs.out.below HB.out)).mono ?_
            rintro e wb ⟨A7, c7, A8, c8, rfl, k1, k2, k3, k4, hba⟩
            replace K1 := Aside0.mk (And.intro (Kd.C_below K1.out.1 hba) (And.intro K1.out.2.1 (And.intro (Kd.C_below K1.out.2.2.1 hba) K1.out.2.2.2)))
            have K2 := Aside0.mk (And.intro k1 (And.intro k2 (And.intro k3 k4)))
            replace HB := Aside0.mk (below_step HB.out hba)
            clear k1 k2 k3 k4 hba
            go_wp2_with fail
            refine (same43 K1.out.1 K1.out.2.1 K2.out.1 K2.out.2.1 hx.out.1).mono ?_
            rintro e wc ⟨rfl, hba⟩
            replace K1 := Aside0.mk (And.intro (Kd.C_below K1.out.2.2.1 hba) K1.out.2.2.2)
            replace K2 := Aside0.mk (And.intro (Kd.C_below K2.out.2.2.1 hba) K2.out.2.2.2)
            replace HB := Aside0.mk (below_step HB.out hba)
            clear hba
            go_wp2_with fail
            refine (same44 K1.out.1 K1.out.2 K2.out.1 K2.out.2 hx.out.2).mono ?_
            rintro e wd ⟨rfl, hba⟩
            replace HB := Aside0.mk (below_step HB.out hba)
            clear hba
            go_wp2_with fail
            have e1 : wrap64 (i + 1) = i + 1 := by have := Hi.out; have := hi'.out; unfold wrap64; omega
            go_roundg (3 - i).toNat
            case measure => have := Hi.out; have := hi'.out; omega
            case rel => exact ⟨i + 1, by first | rw [e1] | rw [i64w, e1], ⟨by have := Hi.out; have := hi'.out; omega⟩, HB⟩
    · have ti : decide (i < 4) = false := decide_eq_false hi
      have hi' := Hi.out
      obtain ⟨⟨r1, r2, r3, r4, r5, r6, r7⟩, hd⟩ : ∃ d, decS l0 at_ = d := ⟨_, rfl⟩
      replace hd := Aside0.mk hd
      go_wp2_with fail
      refine (dec_anyD hd.out (H0.out.below HB.out) (TabOK.aside HT5.out HB.out)).mono ?_
      rintro e wa ⟨rfl, hba⟩
      replace HB := Aside0.mk (below_step HB.out hba)
      clear hba
      go_wp2_with fail
      generalize hW : World.alloc wa _ = wb
      have HBb : Below W.heap.size W wb := by rw [← hW]; exact below_alloc HB.out _
      replace HB := Aside0.mk HBb
      clear HBb hW
      refine (rdec_anyD hd.out (H0.out.below HB.out)).mono ?_
      rintro e wc ⟨rfl, hba⟩
      replace HB := Aside0.mk (below_step HB.out hba)
      clear hba
      go_wp2_with fail
      generalize hW : World.alloc wc _ = wd
      have HBb : Below W.heap.size W wd := by rw [← hW]; exact below_alloc HB.out _
      replace HB := Aside0.mk HBb
      clear HBb hW
      refine (exa_calls true _ rfl (TabOK.aside HT5.out HB.out)).mono ?_
      rintro e we ⟨rfl, hba⟩
      replace HB := Aside0.mk (below_step HB.out hba)
      clear hba
      go_wp2_with fail
      go_ret
      exact ⟨rfl, below_step HB5.out (HB.out)⟩
end Go.Proofs.YtcjidibdidijaaaDoor.DecL
