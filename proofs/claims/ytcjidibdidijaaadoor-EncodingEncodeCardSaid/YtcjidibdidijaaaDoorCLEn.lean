/- One part of this proof, by a program of this session (turned from the kit printer): what Go functions answer, as plain Lean functions, with the proof that the calls answer so. -/
import Derived.Test.YtcjidibdidijaaaDoorCT
import Derived.Test.YtcjidibdidijaaaDoorCEnc
import Derived.Test.YtcjidibdidijaaaDoorCIns
import Derived.Test.YtcjidibdidijaaaDoorCREn
import Derived.Test.YtcjidibdidijaaaDoorExa
namespace Go.Proofs.YtcjidibdidijaaaDoor.PCod
open Go.RowKit Go.Proofs.YtcjidibdidijaaaDoorW.PrintWords Go.Proofs.YtcjidibdidijaaaDoorW.PrintLast Go.Proofs.YtcjidibdidijaaaDoorW.PrintMore
attribute [local go_sem] max2_int min2_int max_two min_two max_three min_three max_four min_four   -- for this text's walks alone
set_option linter.unusedVariables false
set_option linter.unusedSimpArgs false
attribute [local go_sem high] eqA42

/-! ### fullinglaw30_EncodingEncode: function 6 -/
def fullinglaw30_EncodingEncode.l0 : Nat → List (List (S42)) → Int → Int → Option (Bool)
  | 0, _, _, _ => none
  | k + 1, x20, x21, x22 => if x22 < x21 then (if 0 ≤ x22 then (if x22 < (x20.length : Int) then ((encoding_Encode.f k (rd_L7 x20 x22)).bind fun bt252 => ((fullingref29_Encode.f k (rd_L7 x20 x22)).bind fun bt256 => (if bt252.2 = bt256.2 then ((fullingref32_SameWords.f k bt252.1 bt256.1).bind fun t260 => (if t260 = true then (fullinglaw30_EncodingEncode.l0 k x20 x21 (wrap64 (x22 + 1))) else (some false))) else (some false)))) else (none)) else (none)) else ((fullinglaw30_EncodingExamples.f).bind fun t250 => (some t250))
def fullinglaw30_EncodingEncode.f (k : Nat) (l0 : List (S42)) (l1 : List Int) : Option (Bool) := (fullingkeep2_Instrs.f k l1 12).bind fun t238 => (if ([] : List (S42)).length + t238.length < 3518437208883 then ((some (([] : List (S42)) ++ t238 : List (S42))).bind fun y241 => (if y241.length + l0.length < 3518437208883 then ((some (([l0, t238, (y241 ++ l0)] : List (List (S42))) : List (List (S42)))).bind fun y247 => (fullinglaw30_EncodingEncode.l0 k y247 (y247.length : Int) 0)) else (none))) else (none))
theorem fullinglaw30_EncodingEncode.mono_l : ∀ k, (∀ y0 y1 y2, LeO (fullinglaw30_EncodingEncode.l0 k y0 y1 y2) (fullinglaw30_EncodingEncode.l0 (k + 1) y0 y1 y2))
  | 0 => fun _ _ _ r h => by simp [fullinglaw30_EncodingEncode.l0] at h
  | k + 1 => by
    have ih0 := fullinglaw30_EncodingEncode.mono_l k
    · intro y0 y1 y2
      unfold fullinglaw30_EncodingEncode.l0
      repeat' first
      | (with_reducible exact ih0 _ _ _)
      | (with_reducible exact encoding_Encode.mono _ _)
      | (with_reducible exact fullingkeep2_Instrs.mono _ _ _)
      | (with_reducible exact fullingref29_Encode.mono _ _)
      | (with_reducible exact fullingref32_SameWords.mono _ _ _)
      | (with_reducible exact LeO.refl _)
      | (with_reducible exact LeO.none _)
      | (with_reducible refine LeO.ite ?_ ?_)
      | (with_reducible refine LeO.bind ?_ (fun _ => ?_))
      | exact ih0 _ _ _
      | exact encoding_Encode.mono _ _
      | exact fullingkeep2_Instrs.mono _ _ _
      | exact fullingref29_Encode.mono _ _
      | exact fullingref32_SameWords.mono _ _ _
      | exact LeO.none _
      | refine LeO.ite ?_ ?_
      | refine LeO.bind ?_ (fun _ => ?_)
theorem fullinglaw30_EncodingEncode.mono : ∀ a0 a1 k, LeO (fullinglaw30_EncodingEncode.f k a0 a1) (fullinglaw30_EncodingEncode.f (k + 1) a0 a1) := by
  intro a0 a1 k
  have ih0 := fullinglaw30_EncodingEncode.mono_l k
  unfold fullinglaw30_EncodingEncode.f
  repeat' first
      | (with_reducible exact ih0 _ _ _)
      | (with_reducible exact encoding_Encode.mono _ _)
      | (with_reducible exact fullingkeep2_Instrs.mono _ _ _)
      | (with_reducible exact fullingref29_Encode.mono _ _)
      | (with_reducible exact fullingref32_SameWords.mono _ _ _)
      | (with_reducible exact LeO.refl _)
      | (with_reducible exact LeO.none _)
      | (with_reducible refine LeO.ite ?_ ?_)
      | (with_reducible refine LeO.bind ?_ (fun _ => ?_))
      | exact ih0 _ _ _
      | exact encoding_Encode.mono _ _
      | exact fullingkeep2_Instrs.mono _ _ _
      | exact fullingref29_Encode.mono _ _
      | exact fullingref32_SameWords.mono _ _ _
      | exact LeO.none _
      | refine LeO.ite ?_ ?_
      | refine LeO.bind ?_ (fun _ => ?_)
set_option maxHeartbeats 8000000 in
set_option maxRecDepth 100000 in
theorem fullinglaw30_EncodingEncode.calls (k : Nat) (P0_ : Nat → Prop) (A0 : Option Addr) (c0 : Nat) (l0 : List (S42)) (A1 : Option Addr) (c1 : Nat) (l1 : List Int) (r : Bool) (w : World) (hs0 : Kd.V k42 42 w w.heap.size (fun k_ => P0_ k_) (.slice A0 l0.length c0) l0) (hr1 : Kd.C (Kd.int .i64) w A1 l1.length l1) (hc1 : l1.length ≤ c1) (h : fullinglaw30_EncodingEncode.f k l0 l1 = some r) (HT : Aside0 (TabOK w)) (hr_ : Aside0 (r = true)) :
    Calls Tryd.prog 6 #[.slice A0 l0.length c0, .slice A1 l1.length c1] w fun e w' => e = .returned (.bool r) ∧ Below w.heap.size w w' := by
  have HO0 := Aside0.mk (show Kd.V k42 42 w w.heap.size (fun k_ => (P0_ k_ ∨ w.heap.size ≤ k_)) (.slice A0 l0.length c0) l0 from Kd.V_mono hs0 (fun k_ hk => .inl hk))
  have HR1 := Aside0.mk hr1
  have HC1 := Aside0.mk hc1
  clear hr1 hc1
  have HB := Aside0.mk (Below.refl w.heap.size w)
  have H : ((fullingkeep2_Instrs.f k l1 12).bind fun t238 => (if ([] : List (S42)).length + t238.length < 3518437208883 then ((some (([] : List (S42)) ++ t238 : List (S42))).bind fun y241 => (if y241.length + l0.length < 3518437208883 then ((some (([l0, t238, (y241 ++ l0)] : List (List (S42))) : List (List (S42)))).bind fun y247 => (fullinglaw30_EncodingEncode.l0 k y247 (y247.length : Int) 0)) else (none))) else (none))) = some r := h
  clear h
  replace H := Option.bind_eq_some_iff.mp H
  obtain ⟨t238, A30, H⟩ := H
  replace H : (if ([] : List (S42)).length + t238.length < 3518437208883 then ((some (([] : List (S42)) ++ t238 : List (S42))).bind fun y241 => (if y241.length + l0.length < 3518437208883 then ((some (([l0, t238, (y241 ++ l0)] : List (List (S42))) : List (List (S42)))).bind fun y247 => (fullinglaw30_EncodingEncode.l0 k y247 (y247.length : Int) 0)) else (none))) else (none)) = some r := H
  have A3 := Aside0.mk A30
  clear A30
  by_cases c4 : ([] : List (S42)).length + t238.length < 3518437208883
  · rw [if_pos c4] at H
    have LMc4 := Aside0.mk c4
    clear c4
    obtain ⟨y241, hy241⟩ : ∃ y_ : List (S42), y_ = (([] : List (S42)) ++ t238) := ⟨_, rfl⟩
    replace H : (if y241.length + l0.length < 3518437208883 then ((some (([l0, t238, (y241 ++ l0)] : List (List (S42))) : List (List (S42)))).bind fun y247 => (fullinglaw30_EncodingEncode.l0 k y247 (y247.length : Int) 0)) else (none)) = some r := by first | (rw [hy241]; with_reducible exact H) | (have H2_ := (Option.bind_some _ _).symm.trans H; rw [hy241]; with_reducible exact H2_) | (have H2_ := (Option.bind_some _ _).symm.trans H; with_reducible exact H2_) | with_reducible exact H | (rw [hy241]; exact H) | exact H
    have Ny241 := Aside0.mk hy241
    clear hy241
    by_cases c5 : y241.length + l0.length < 3518437208883
    · rw [if_pos c5] at H
      have LMc5 := Aside0.mk c5
      clear c5
      obtain ⟨y244, hy244⟩ : ∃ y_ : List (S42), y_ = (y241 ++ l0) := ⟨_, rfl⟩
      replace H : ((some (([l0, t238, y244] : List (List (S42))) : List (List (S42)))).bind fun y247 => (fullinglaw30_EncodingEncode.l0 k y247 (y247.length : Int) 0)) = some r := by first | (rw [hy244]; with_reducible exact H) | (have H2_ := (Option.bind_some _ _).symm.trans H; rw [hy244]; with_reducible exact H2_) | (have H2_ := (Option.bind_some _ _).symm.trans H; with_reducible exact H2_) | with_reducible exact H | (rw [hy244]; exact H) | exact H
      have Ny244 := Aside0.mk hy244
      clear hy244
      obtain ⟨y247, hy247⟩ : ∃ y_ : List (List (S42)), y_ = (([l0, t238, y244] : List (List (S42)))) := ⟨_, rfl⟩
      replace H : (fullinglaw30_EncodingEncode.l0 k y247 (y247.length : Int) 0) = some r := by first | (rw [hy247]; with_reducible exact H) | (have H2_ := (Option.bind_some _ _).symm.trans H; rw [hy247]; with_reducible exact H2_) | (have H2_ := (Option.bind_some _ _).symm.trans H; with_reducible exact H2_) | with_reducible exact H | (rw [hy247]; exact H) | exact H
      have Ny247 := Aside0.mk hy247
      clear hy247
      have H' := Aside0.mk H
      clear H
      go_enter Tryd.func6, Tryd.ntmps6
      go_wp2_with (first | ((with_reducible refine gate_callee (f := 36) rfl ?_); refine goesL_ (some 13) rfl rfl Tryd.func36 (by kernel_rfl) rfl #[.slice A1 l1.length c1, .int .i64 12] rfl (by (try simp only [List.map_toArray, List.map_cons, List.map_nil]); first | done | rfl | (simp only [List.length_drop, List.length_take]; rfl)) ?_; (with_reducible refine (fullingkeep2_Instrs.calls k _ _ l1 12 t238 _ ?side1 ?side2 A3.out).mono ?_); (case side1 => repeat (first | exact HR1.out | (with_reducible refine Kd.C_alloc ?_ _) | (with_reducible refine Kd.C_drewN ?_ _) | (with_reducible refine Kd.C_drew ?_))); (case side2 => exact HC1.out); rintro e w6 ⟨v239, rfl, ho0, hb⟩; refine ⟨_, rfl, ?_⟩; have n0_ := Aside0.mk (Kd.V_elder' (by (with_reducible repeat (first | apply Kd.V_alloc | apply Kd.V_drewN | apply Kd.V_drew)); exact HO0.out) (Kd.R_base ho0) hb); have n1_ := Aside0.mk (Kd.R_lower (Kd.R_newM (M := fun k_ => (w.heap.size ≤ k_)) ho0 (below_size (by repeat (first | (with_reducible first | exact HB.out | apply below_alloc | apply pw_below_drewN | apply below_drew1) | exact HB.out))) (fun k_ h_ => h_)) (below_size (by repeat (first | (with_reducible first | exact HB.out | apply below_alloc | apply pw_below_drewN | apply below_drew1) | exact HB.out)))); have n2_ := Aside0.mk (below_step (by repeat (first | (with_reducible first | exact HB.out | apply below_alloc | apply pw_below_drewN | apply below_drew1) | exact HB.out)) hb); clear HO0; clear HB; have HO0 := n0_; have HO240 := n1_; have HB := n2_; clear n0_ n1_ n2_; (try clear hb); (try clear hb2); (try clear hk); (try clear hi); (try clear ho0); obtain ⟨Ao8, co8, eo8⟩ := Kd.R_slice HO240.out; subst eo8) | ((with_reducible refine gate_builtin (b := .append) (xs := #[(.const (.slice none 0 0)), .tmp 16]) rfl ?_); at_builtin; refine Kd.R_append_rows k42 (w0 := w) w.heap.size rfl (.const (.slice none 0 0)) (.tmp 16) 55 42 (.agg #[(.int .i64 0), (.int .i64 0), (.int .i64 0), (.int .i64 0), (.int .i64 0)]) 40 rfl Tryd.underlying55 info42 rfl (by decide) (by omega) (.slice none 0 0) ([] : List (S42)) t238 _ _ _ (fun k_ => (w.heap.size ≤ k_) ∧ some k_ ≠ (.slice Ao8 t238.length co8 : Value).ownBlock) (fun _ => False) rfl rfl ?aO ?aR (fun _ _ h => h) (fun _ h => h.elim) ?aF ?aB ?aS ?aL ?_; (case aR => repeat (first | exact (Kd.R_reads' HO240.out).2.2 | (with_reducible refine Kd.C_alloc ?_ _) | (with_reducible refine Kd.C_drewN ?_ _) | (with_reducible refine Kd.C_drew ?_))); (case aB => exact (by repeat (first | (with_reducible first | exact HB.out | apply below_alloc | apply pw_below_drewN | apply below_drew1) | exact HB.out))); (case aF => exact (fun k_ hk => ⟨(Nat.le_trans (below_size (by repeat (first | (with_reducible first | exact HB.out | apply below_alloc | apply pw_below_drewN | apply below_drew1) | exact HB.out))) hk), Kd.fresh' (Kd.R_lt (by (with_reducible repeat (first | apply Kd.R_alloc | apply Kd.R_drewN | apply Kd.R_drew)); exact HO240.out)) k_ hk⟩)); (case aO => exact ((Kd.R_nil _ _ _ _ (fun k_ => (w.heap.size ≤ k_) ∧ some k_ ≠ (.slice Ao8 t238.length co8 : Value).ownBlock)))); (case aS => exact (below_size (by repeat (first | (with_reducible first | exact HB.out | apply below_alloc | apply pw_below_drewN | apply below_drew1) | exact HB.out)))); (case aL => have := LMc4.out; omega); intro v242 w7 ho hb hg hat; rw [← Ny241.out] at ho; have n0_ := Aside0.mk (Kd.V_afterv (Kd.V_apart_nil (by (with_reducible repeat (first | apply Kd.V_alloc | apply Kd.V_drewN | apply Kd.V_drew)); exact HO0.out)) hg hat); have n1_ := Aside0.mk (Kd.R_after (Kd.R_apart_nil (by (with_reducible repeat (first | apply Kd.R_alloc | apply Kd.R_drewN | apply Kd.R_drew)); exact HO240.out)) hg hat); have n2_ := Aside0.mk (hb); have n3_ := Aside0.mk (ho); clear HO0; clear HO240; clear HB; have HO0 := n0_; have HO240 := n1_; have HB := n2_; have HO243 := n3_; clear n0_ n1_ n2_ n3_; clear ho hb hg hat) | ((with_reducible refine gate_builtin (b := .append) (xs := #[(.tmp 17), .tmp 18]) rfl ?_); at_builtin; refine Kd.R_append_rows k42 (w0 := w) w.heap.size rfl (.tmp 17) (.tmp 18) 55 42 (.agg #[(.int .i64 0), (.int .i64 0), (.int .i64 0), (.int .i64 0), (.int .i64 0)]) 40 rfl Tryd.underlying55 info42 rfl (by decide) (by omega) v242 y241 l0 _ _ _ (fun k_ => (w.heap.size ≤ k_) ∧ some k_ ≠ (.slice Ao8 t238.length co8 : Value).ownBlock) (fun _ => False) rfl rfl ?aO ?aR (fun _ _ h => h) (fun _ h => h.elim) ?aF ?aB ?aS ?aL ?_; (case aR => repeat (first | exact (Kd.V_reads' HO0.out).2.2 | (with_reducible refine Kd.C_alloc ?_ _) | (with_reducible refine Kd.C_drewN ?_ _) | (with_reducible refine Kd.C_drew ?_))); (case aB => exact (by repeat (first | (with_reducible first | exact HB.out | apply below_alloc | apply pw_below_drewN | apply below_drew1) | exact HB.out))); (case aF => exact (fun k_ hk => ⟨(Nat.le_trans (below_size (by repeat (first | (with_reducible first | exact HB.out | apply below_alloc | apply pw_below_drewN | apply below_drew1) | exact HB.out))) hk), Kd.fresh' (Kd.R_lt (by (with_reducible repeat (first | apply Kd.R_alloc | apply Kd.R_drewN | apply Kd.R_drew)); exact HO240.out)) k_ hk⟩)); (case aO => exact (by (with_reducible repeat (first | apply Kd.R_alloc | apply Kd.R_drewN | apply Kd.R_drew)); exact HO243.out)); (case aS => exact (below_size (by repeat (first | (with_reducible first | exact HB.out | apply below_alloc | apply pw_below_drewN | apply below_drew1) | exact HB.out)))); (case aL => have := LMc5.out; omega); intro v245 w9 ho hb hg hat; rw [← Ny244.out] at ho; have n0_ := Aside0.mk (Kd.V_afterv (ok := (fun k_ => (P0_ k_ ∨ w.heap.size ≤ k_) ∧ some k_ ≠ (.slice Ao8 t238.length co8 : Value).ownBlock)) (by (with_reducible repeat (first | apply Kd.V_alloc | apply Kd.V_drewN | apply Kd.V_drew)); exact HO0.out) hg hat); have n1_ := Aside0.mk (Kd.R_after (ok := (fun k_ => (w.heap.size ≤ k_))) (by (with_reducible repeat (first | apply Kd.R_alloc | apply Kd.R_drewN | apply Kd.R_drew)); exact Kd.R_mono HO240.out (fun _ hk => ⟨hk.1.1, hk.2⟩)) hg hat); have n2_ := Aside0.mk (hb); have n3_ := Aside0.mk (ho); clear HO0; clear HO240; clear HB; clear HO243; have HO0 := n0_; have HO240 := n1_; have HB := n2_; have HO246 := n3_; clear n0_ n1_ n2_ n3_; clear ho hb hg hat; obtain ⟨Ao10, co10, eo10⟩ := Kd.R_slice HO246.out; subst eo10) | ((with_reducible refine gate_dst (N := 20) rfl ?_); refine Kd.N_lit (Kd.slice 42 k42) _ 55 ?hg (N' := 20) ?hd (xs := ([l0, t238, y244] : List (List (S42)))) (inner := [.slice A0 l0.length c0, .slice Ao8 t238.length co8, .slice Ao10 y244.length co10]) (ok := (fun k_ => (P0_ k_ ∨ w.heap.size ≤ k_))) (okp := (fun k_ => (P0_ k_ ∨ w.heap.size ≤ k_))) ?hr ?hp (fun _ hk => hk) ((show ∀ k_, w9.heap.size ≤ k_ → (fun k_ => (P0_ k_ ∨ w.heap.size ≤ k_)) k_ from fun k_ hk => (.inr (Nat.le_trans (below_size (by repeat (first | (with_reducible first | exact HB.out | apply below_alloc | apply pw_below_drewN | apply below_drew1) | exact HB.out))) hk))) _ (Nat.le_refl _)) (Below.refl _ _) (Nat.le_refl _) (by simp) ?_; (case hd => rfl); (case hg => rfl); (case hr => first | (go_simp; done) | (go_simp; rfl)); (case hp => exact (Reps.one (show Kd.FK (Kd.slice 42 k42) _ _ l0 [.slice A0 l0.length c0] from (Kd.FK_slice_mk (Kd.V_reads' (Kd.V_mono (ok' := (fun k_ => (P0_ k_ ∨ w.heap.size ≤ k_))) (HO0.out) (fun k_ hk => hk.1.1))).2.1 (Kd.V_F (Kd.V_mono (ok' := (fun k_ => (P0_ k_ ∨ w.heap.size ≤ k_))) (HO0.out) (fun k_ hk => hk.1.1))))) (Reps.one (show Kd.FK (Kd.slice 42 k42) _ _ t238 [.slice Ao8 t238.length co8] from (Kd.FK_slice_mk (Kd.R_reads' (Kd.R_mono (ok' := (fun k_ => (P0_ k_ ∨ w.heap.size ≤ k_))) (HO240.out) (fun k_ hk => (.inr (hk.1))))).2.1 (Kd.R_F (Kd.R_mono (ok' := (fun k_ => (P0_ k_ ∨ w.heap.size ≤ k_))) (HO240.out) (fun k_ hk => (.inr (hk.1))))))) (Reps.one (show Kd.FK (Kd.slice 42 k42) _ _ y244 [.slice Ao10 y244.length co10] from (Kd.FK_slice_mk (Kd.R_reads' (Kd.R_mono (ok' := (fun k_ => (P0_ k_ ∨ w.heap.size ≤ k_))) (HO246.out) (fun k_ hk => (.inr (hk.1))))).2.1 (Kd.R_F (Kd.R_mono (ok' := (fun k_ => (P0_ k_ ∨ w.heap.size ≤ k_))) (HO246.out) (fun k_ hk => (.inr (hk.1))))))) (Reps.none _ _))))); intro v248 w11 ho12 hb hg_ hnew_; clear hg_ hnew_; (first | rw [← Ny247.out] at ho12 | (simp only [Int.reduceToNat] at ho12; rw [← Ny247.out] at ho12)); have n0_ := Aside0.mk (Kd.V_elder' (by (with_reducible repeat (first | apply Kd.V_alloc | apply Kd.V_drewN | apply Kd.V_drew)); exact HO0.out) (Kd.N_base ho12) hb); have n1_ := Aside0.mk (Kd.N_lower ho12 (below_size (by repeat (first | (with_reducible first | exact HB.out | apply below_alloc | apply pw_below_drewN | apply below_drew1) | exact HB.out)))); have n2_ := Aside0.mk (below_step (by repeat (first | (with_reducible first | exact HB.out | apply below_alloc | apply pw_below_drewN | apply below_drew1) | exact HB.out)) hb); clear HO0; clear HB; clear HO240; clear HO246; have HO0 := n0_; have HO249 := n1_; have HB := n2_; clear n0_ n1_ n2_; clear hb ho12; obtain ⟨Ao13, co13, eo13⟩ := Kd.N_slice HO249.out; subst eo13))
      go_loopg [22] k (fun kq v22 w' => ∃ (x22_1 : Int), v22 = .int .i64 x22_1 ∧ Aside0 (fullinglaw30_EncodingEncode.l0 kq y247 (y247.length : Int) x22_1 = some r) ∧ Aside0 (kq ≤ k) ∧ Aside0 (Kd.N (Kd.slice 42 k42) 55 w' w.heap.size (fun k_ => (P0_ k_ ∨ w.heap.size ≤ k_)) (.slice Ao13 y247.length co13) y247) ∧ Aside0 (Below w.heap.size w w'))
      case atStart => exact ⟨(0), (by first | rfl | (simp; done) | (simp [*]; done)), H', ⟨Nat.le_refl _⟩, ⟨by (with_reducible repeat (first | apply Kd.N_alloc | apply Kd.N_drewN | apply Kd.N_drew)); exact HO249.out⟩, ⟨by repeat (first | (with_reducible first | exact HB.out | apply below_alloc | apply pw_below_drewN | apply below_drew1) | exact HB.out)⟩⟩
      case round =>
        clear H'
        try clear c1
        try clear p2
        try clear c3
        try clear c4
        try clear c5
        try clear c6
        obtain ⟨x22_1, rfl, HA, HK1, HO_20, HB⟩ := hrel
        cases gk with
        | zero => exact absurd HA.out (by simp [fullinglaw30_EncodingEncode.l0])
        | succ k1 =>
          have H := HA.out
          clear HA
          simp only [fullinglaw30_EncodingEncode.l0] at H
          by_cases c14 : x22_1 < (y247.length : Int)
          · rw [if_pos c14] at H
            have c14b0 : decide (x22_1 < (y247.length : Int)) = true := decide_eq_true c14
            clear c14
            by_cases c15 : 0 ≤ x22_1
            · rw [if_pos c15] at H
              have c15b0 : decide (0 ≤ x22_1) = true := decide_eq_true c15
              clear c15
              by_cases c16 : x22_1 < (y247.length : Int)
              · rw [if_pos c16] at H
                have c16b0 : decide (x22_1 < (y247.length : Int)) = true := decide_eq_true c16
                clear c16
                replace H := Option.bind_eq_some_iff.mp H
                obtain ⟨⟨t252, t253⟩, A170, H⟩ := H
                replace H : ((fullingref29_Encode.f k1 (rd_L7 y247 x22_1)).bind fun bt256 => (if t253 = bt256.2 then ((fullingref32_SameWords.f k1 t252 bt256.1).bind fun t260 => (if t260 = true then (fullinglaw30_EncodingEncode.l0 k1 y247 (y247.length : Int) (wrap64 (x22_1 + 1))) else (some false))) else (some false))) = some r := H
                have A17 := Aside0.mk A170
                clear A170
                replace H := Option.bind_eq_some_iff.mp H
                obtain ⟨⟨t256, t257⟩, A180, H⟩ := H
                replace H : (if t253 = t257 then ((fullingref32_SameWords.f k1 t252 t256).bind fun t260 => (if t260 = true then (fullinglaw30_EncodingEncode.l0 k1 y247 (y247.length : Int) (wrap64 (x22_1 + 1))) else (some false))) else (some false)) = some r := H
                have A18 := Aside0.mk A180
                clear A180
                by_cases c19 : t253 = t257
                · rw [if_pos c19] at H
                  have c19b0 : (t253 == t257) = true := beq_iff_eq.mpr c19
                  have c19b1 : (t253 != t257) = false := bne_eq_false_iff_eq.mpr c19
                  clear c19
                  replace H := Option.bind_eq_some_iff.mp H
                  obtain ⟨t260, A200, H⟩ := H
                  replace H : (if t260 = true then (fullinglaw30_EncodingEncode.l0 k1 y247 (y247.length : Int) (wrap64 (x22_1 + 1))) else (some false)) = some r := H
                  have A20 := Aside0.mk A200
                  clear A200
                  by_cases c21 : t260 = true
                  · subst c21
                    have H1 : (fullinglaw30_EncodingEncode.l0 k1 y247 (y247.length : Int) (wrap64 (x22_1 + 1))) = some r := by rw [if_pos rfl] at H; exact H
                    clear H
                    have H := H1
                    clear H1
                    have H' := Aside0.mk H
                    clear H
                    have p251 : 0 ≤ (x22_1 : Int) := of_decide_eq_true (by first | (with_reducible assumption) | assumption)
                    have q251 : x22_1 < (y247.length : Int) := of_decide_eq_true (by first | (with_reducible assumption) | assumption)
                    obtain ⟨ad251, A251_0, c251_0, e251, hx251_0, hl251_0, hi251_0⟩ := at_L7 (Kd.N_reads' HO_20.out).2.2 x22_1 p251 q251
                    cases e251
                    obtain ⟨ce251, hce251, hMe251, hcc251⟩ := Kd.N_get HO_20.out [] x22_1 p251 (by first | exact q251 | exact of_decide_eq_true (by first | (with_reducible assumption) | assumption) | (have e_ := (Kd.N_reads' HO_20.out).1; omega))
                    obtain ⟨ua251_0, uc251_0, rfl, ul251_0, ge251_0⟩ := Kd.FK_slice_open hMe251
                    have hv251_0 := hcc251 0 _ rfl
                    rw [Nat.add_zero, show ((Kd.slice 42 k42)).sz = 1 from rfl, Nat.mul_one] at hv251_0
                    replace hv251_0 := Option.some.inj (hv251_0.symm.trans hx251_0)
                    injection hv251_0 with hva_ hvn_ hvc_
                    rw [hva_] at ge251_0
                    rw [hvc_] at ul251_0
                    have HL251_0 := Aside0.mk (show Kd.V k42 42 _ w.heap.size _ _ (rd_L7 y247 x22_1) from Kd.V_mk ul251_0 ge251_0)
                    clear hva_ hvn_ hvc_ ge251_0 ul251_0
                    clear hcc251 hce251
                    have HR251_0 := Aside0.mk hi251_0
                    have HC251_0 := Aside0.mk hl251_0
                    clear hi251_0 hl251_0
                    replace p251 := eq_true p251
                    replace q251 := eq_true q251
                    go_wp2_with (first | ((with_reducible refine gate_callee (f := 33) rfl ?_); refine goesL_ (some 28) rfl rfl Tryd.func33 (by kernel_rfl) rfl #[.slice A251_0 (rd_L7 y247 x22_1).length c251_0] rfl (by (try simp only [List.map_toArray, List.map_cons, List.map_nil]); first | done | rfl | (simp only [List.length_drop, List.length_take]; rfl)) ?_; (with_reducible refine (encoding_Encode.calls k1 _ _ (rd_L7 y247 x22_1) t252 t253 _ ?side1 ?side2 A17.out ?side3).mono ?_); (case side1 => repeat (first | exact (by repeat (first | (with_reducible exact HR251_0.out) | (with_reducible refine Kd.C_alloc ?_ _) | (with_reducible refine Kd.C_drewN ?_ _) | (with_reducible refine Kd.C_drew ?_) | exact HR251_0.out)) | (with_reducible refine Kd.C_alloc ?_ _) | (with_reducible refine Kd.C_drewN ?_ _) | (with_reducible refine Kd.C_drew ?_))); (case side2 => exact HC251_0.out); (case side3 => exact TabOK.aside HT.out (by repeat (first | (with_reducible first | exact HB.out | apply below_alloc | apply pw_below_drewN | apply below_drew1) | exact HB.out))); rintro e w22 ⟨v254, rfl, ho0, hb⟩; refine ⟨_, rfl, ?_⟩; have n0_ := Aside0.mk (Kd.N_elder' (by (with_reducible repeat (first | apply Kd.N_alloc | apply Kd.N_drewN | apply Kd.N_drew)); exact HO_20.out) (Kd.R_base ho0) hb); have n1_ := Aside0.mk (Kd.V_elder' (by (with_reducible repeat (first | apply Kd.V_alloc | apply Kd.V_drewN | apply Kd.V_drew)); exact HL251_0.out) (Kd.R_base ho0) hb); have n2_ := Aside0.mk (Kd.R_lower (Kd.R_newM (M := fun k_ => (w.heap.size ≤ k_)) ho0 (below_size (by repeat (first | (with_reducible first | exact HB.out | apply below_alloc | apply pw_below_drewN | apply below_drew1) | exact HB.out))) (fun k_ h_ => h_)) (below_size (by repeat (first | (with_reducible first | exact HB.out | apply below_alloc | apply pw_below_drewN | apply below_drew1) | exact HB.out)))); have n3_ := Aside0.mk (Kd.C_below (by repeat (first | (with_reducible exact HR251_0.out) | (with_reducible refine Kd.C_alloc ?_ _) | (with_reducible refine Kd.C_drewN ?_ _) | (with_reducible refine Kd.C_drew ?_) | exact HR251_0.out)) hb); have n4_ := Aside0.mk (below_step (by repeat (first | (with_reducible first | exact HB.out | apply below_alloc | apply pw_below_drewN | apply below_drew1) | exact HB.out)) hb); clear HO_20; clear HL251_0; clear HR251_0; clear HB; have HO_20 := n0_; have HL251_0 := n1_; have HO255 := n2_; have HR251_0 := n3_; have HB := n4_; clear n0_ n1_ n2_ n3_ n4_; (try clear hb); (try clear hb2); (try clear hk); (try clear hi); (try clear ho0)) | ((with_reducible refine gate_callee (f := 37) rfl ?_); refine goesL_ (some 33) rfl rfl Tryd.func37 (by kernel_rfl) rfl #[.slice A251_0 (rd_L7 y247 x22_1).length c251_0] rfl (by (try simp only [List.map_toArray, List.map_cons, List.map_nil]); first | done | rfl | (simp only [List.length_drop, List.length_take]; rfl)) ?_; (with_reducible refine (fullingref29_Encode.calls k1 _ _ (rd_L7 y247 x22_1) t256 t257 _ ?side1 ?side2 A18.out).mono ?_); (case side1 => repeat (first | exact (by repeat (first | (with_reducible exact HR251_0.out) | (with_reducible refine Kd.C_alloc ?_ _) | (with_reducible refine Kd.C_drewN ?_ _) | (with_reducible refine Kd.C_drew ?_) | exact HR251_0.out)) | (with_reducible refine Kd.C_alloc ?_ _) | (with_reducible refine Kd.C_drewN ?_ _) | (with_reducible refine Kd.C_drew ?_))); (case side2 => exact HC251_0.out); rintro e w23 ⟨v258, rfl, ho0, hb⟩; refine ⟨_, rfl, ?_⟩; have n0_ := Aside0.mk (Kd.N_elder' (by (with_reducible repeat (first | apply Kd.N_alloc | apply Kd.N_drewN | apply Kd.N_drew)); exact HO_20.out) (Kd.R_base ho0) hb); have n1_ := Aside0.mk (Kd.V_elder' (by (with_reducible repeat (first | apply Kd.V_alloc | apply Kd.V_drewN | apply Kd.V_drew)); exact HL251_0.out) (Kd.R_base ho0) hb); have n2_ := Aside0.mk (Kd.R_elder' (by (with_reducible repeat (first | apply Kd.R_alloc | apply Kd.R_drewN | apply Kd.R_drew)); exact HO255.out) (Kd.R_base ho0) hb); have n3_ := Aside0.mk (Kd.R_lower (Kd.R_new' (Kd.R_newM (M := fun k_ => (w.heap.size ≤ k_)) ho0 (below_size (by repeat (first | (with_reducible first | exact HB.out | apply below_alloc | apply pw_below_drewN | apply below_drew1) | exact HB.out))) (fun k_ h_ => h_)) (Kd.R_lt (by (with_reducible repeat (first | apply Kd.R_alloc | apply Kd.R_drewN | apply Kd.R_drew)); exact HO255.out))) (below_size (by repeat (first | (with_reducible first | exact HB.out | apply below_alloc | apply pw_below_drewN | apply below_drew1) | exact HB.out)))); have n4_ := Aside0.mk (Kd.C_below (by repeat (first | (with_reducible exact HR251_0.out) | (with_reducible refine Kd.C_alloc ?_ _) | (with_reducible refine Kd.C_drewN ?_ _) | (with_reducible refine Kd.C_drew ?_) | exact HR251_0.out)) hb); have n5_ := Aside0.mk (below_step (by repeat (first | (with_reducible first | exact HB.out | apply below_alloc | apply pw_below_drewN | apply below_drew1) | exact HB.out)) hb); clear HO_20; clear HL251_0; clear HO255; clear HR251_0; clear HB; have HO_20 := n0_; have HL251_0 := n1_; have HO255 := n2_; have HO259 := n3_; have HR251_0 := n4_; have HB := n5_; clear n0_ n1_ n2_ n3_ n4_ n5_; (try clear hb); (try clear hb2); (try clear hk); (try clear hi); (try clear ho0); obtain ⟨Ao24, co24, eo24⟩ := Kd.R_slice HO255.out; subst eo24; obtain ⟨Ao25, co25, eo25⟩ := Kd.R_slice HO259.out; subst eo25) | (go_at_call 35; (with_reducible refine (fullingref32_SameWords.calls k1 _ _ t252 _ _ t256 true _ ?side1 ?side2 ?side3 ?side4 A20.out).mono ?_); (case side1 => repeat (first | exact (Kd.R_reads' HO255.out).2.2 | (with_reducible refine Kd.C_alloc ?_ _) | (with_reducible refine Kd.C_drewN ?_ _) | (with_reducible refine Kd.C_drew ?_))); (case side2 => exact (Kd.R_reads' HO255.out).2.1); (case side3 => repeat (first | exact (Kd.R_reads' HO259.out).2.2 | (with_reducible refine Kd.C_alloc ?_ _) | (with_reducible refine Kd.C_drewN ?_ _) | (with_reducible refine Kd.C_drew ?_))); (case side4 => exact (Kd.R_reads' HO259.out).2.1); rintro e w' ⟨rfl, ⟨nd, rfl⟩⟩))
                    go_roundg k1
                    case measure => have := HK1.out; omega
                    case rel => exact ⟨(wrap64 (x22_1 + 1)), (by first | rfl | (simp; done) | (simp [*]; done)), H', ⟨by have := HK1.out; omega⟩, ⟨by (with_reducible repeat (first | apply Kd.N_alloc | apply Kd.N_drewN | apply Kd.N_drew)); exact Kd.N_mono HO_20.out (fun _ hk => hk.1.1)⟩, ⟨by repeat (first | (with_reducible first | exact HB.out | apply below_alloc | apply pw_below_drewN | apply below_drew1) | exact HB.out)⟩⟩
                  · replace c21 := Bool.eq_false_iff.mpr c21
                    subst c21
                    have H1 : (some false) = some r := by rw [if_neg (show ¬ (false = true) by decide)] at H; exact H
                    clear H
                    have H := H1
                    clear H1
                    exact absurd (hr_.out.symm.trans (Option.some.inj H).symm) Bool.noConfusion
                · rw [if_neg c19] at H
                  have c19b0 : (t253 == t257) = false := beq_eq_false_iff_ne.mpr c19
                  have c19b1 : (t253 != t257) = true := bne_iff_ne.mpr c19
                  exact absurd (hr_.out.symm.trans (Option.some.inj H).symm) Bool.noConfusion
              · rw [if_neg c16] at H
                exact absurd H (by simp)
            · rw [if_neg c15] at H
              exact absurd H (by simp)
          · rw [if_neg c14] at H
            have c14b0 : decide (x22_1 < (y247.length : Int)) = false := decide_eq_false c14
            clear c14
            replace H := Option.bind_eq_some_iff.mp H
            obtain ⟨t250, A260, H⟩ := H
            replace H : (some t250) = some r := H
            have A26 := Aside0.mk A260
            clear A260
            obtain rfl := Option.some.inj H
            go_wp2_with (first | ((with_reducible refine gate_callee (f := 5) rfl ?_); refine goesL_ (some 46) rfl rfl Tryd.func5 (by kernel_rfl) rfl #[] rfl (by (try simp only [List.map_toArray, List.map_cons, List.map_nil]); first | done | rfl | (simp only [List.length_drop, List.length_take]; rfl)) ?_; (with_reducible refine (fullinglaw30_EncodingExamples.calls  t250 _ A26.out ?side1).mono ?_); (case side1 => exact TabOK.aside HT.out (by repeat (first | (with_reducible first | exact HB.out | apply below_alloc | apply pw_below_drewN | apply below_drew1) | exact HB.out))); rintro e w27 ⟨rfl, hb⟩; refine ⟨_, rfl, ?_⟩; have n0_ := Aside0.mk (Kd.N_below (by (with_reducible repeat (first | apply Kd.N_alloc | apply Kd.N_drewN | apply Kd.N_drew)); exact HO_20.out) hb); have n1_ := Aside0.mk (below_step (by repeat (first | (with_reducible first | exact HB.out | apply below_alloc | apply pw_below_drewN | apply below_drew1) | exact HB.out)) hb); clear HO_20; clear HB; have HO_20 := n0_; have HB := n1_; clear n0_ n1_; (try clear hb); (try clear hb2); (try clear hk); (try clear hi)))
            go_ret
            exact ⟨by first | rfl | (simp [errW_none, errW_some] <;> rfl) | (simp [*, errW_none, errW_some] <;> rfl), by repeat (first | (with_reducible first | exact HB.out | apply below_alloc | apply pw_below_drewN | apply below_drew1) | exact HB.out)⟩
    · rw [if_neg c5] at H
      exact absurd H (by simp)
  · rw [if_neg c4] at H
    exact absurd H (by simp)
end Go.Proofs.YtcjidibdidijaaaDoor.PCod
