/- Parts of this proof in one text: CEnc, EncP, RCf, PCf. -/
import Derived.Test.YtcjidibdidijaaaDoorQV2
import Derived.Test.YtcjidibdidijaaaDoorQV5
import Derived.Test.YtcjidibdidijaaaDoorQV7
import Derived.Test.YtcjidibdidijaaaDoorQV6
import Derived.StillTactics
namespace Go.Proofs.YtcjidibdidijaaaDoor.PCod
open Go.RowKit Go.Proofs.YtcjidibdidijaaaDoorW.PrintWords Go.Proofs.YtcjidibdidijaaaDoorW.PrintLast Go.Proofs.YtcjidibdidijaaaDoorW.PrintMore
attribute [local go_sem] max2_int min2_int max_two min_two max_three min_three max_four min_four
set_option linter.unusedVariables false
set_option linter.unusedSimpArgs false
def machine_Info.f (a0 : Int) : Option (ByteArray × Int × Bool × Bool × Bool × Bool × Int × Bool) := infoF a0
theorem machine_Info.calls (a0 : Int) (r1 : ByteArray) (r2 : Int) (r3 : Bool) (r4 : Bool) (r5 : Bool) (r6 : Bool) (r7 : Int) (r8 : Bool) (w : World) (h : machine_Info.f a0 = some (r1, r2, r3, r4, r5, r6, r7, r8)) (HT : Aside0 (TabOK w)) :
    Calls Tryd.prog 59 #[.int .i64 a0] w fun e w' => e = .returned (.tuple #[.agg #[.string r1, .int .i64 r2, .bool r3, .bool r4, .bool r5, .bool r6, .int .i64 r7], .bool r8]) ∧ Below w.heap.size w w' :=
  info_calls a0 r1 r2 r3 r4 r5 r6 r7 r8 w h HT
def machine_Valid.f (a0_0 : Int) (a0_1 : Int) (a0_2 : Int) (a0_3 : Int) (a0_4 : Int) : Option (Bool) := some (valB a0_0 a0_1 a0_2 a0_3 a0_4)
theorem machine_Valid.calls (a0_0 : Int) (a0_1 : Int) (a0_2 : Int) (a0_3 : Int) (a0_4 : Int) (r : Bool) (w : World) (h : machine_Valid.f a0_0 a0_1 a0_2 a0_3 a0_4 = some r) (HT : Aside0 (TabOK w)) :
    Calls Tryd.prog 69 #[.agg #[.int .i64 a0_0, .int .i64 a0_1, .int .i64 a0_2, .int .i64 a0_3, .int .i64 a0_4]] w fun e w' => e = .returned (.bool r) ∧ Below w.heap.size w w' :=
  valid_calls a0_0 a0_1 a0_2 a0_3 a0_4 r w h HT
def encoding_shift.f (a0 : Int) : Option (Int) := if a0 = 8 then (some 6) else (if a0 = 5 then (some 9) else (if a0 = 7 then (some 12) else (some 32)))
set_option maxHeartbeats 8000000 in
set_option maxRecDepth 100000 in
theorem encoding_shift.calls (a0 : Int) (r : Int) (w : World) (h : encoding_shift.f a0 = some r) :
    Calls Tryd.prog 71 #[.int .i64 a0] w fun e w' => e = .returned (.int .u64 r) ∧ Drawn0 w w' := by
  have H : (if a0 = 8 then (some 6) else (if a0 = 5 then (some 9) else (if a0 = 7 then (some 12) else (some 32)))) = some r := h
  clear h
  by_cases c2 : a0 = 8
  · rw [if_pos c2] at H
    have c2b0 : (a0 == 8) = true := beq_iff_eq.mpr c2
    have c2b1 : (a0 != 8) = false := bne_eq_false_iff_eq.mpr c2
    clear c2
    obtain rfl := Option.some.inj H
    go_enter Tryd.func71, Tryd.ntmps71
    go_wp2
    go_ret
    exact ⟨by first | rfl | (simp; done) | (simp [*]; done), by repeat (first | exact Drawn0.refl _ | apply Drawn0.step)⟩
  · rw [if_neg c2] at H
    have c2b0 : (a0 == 8) = false := beq_eq_false_iff_ne.mpr c2
    have c2b1 : (a0 != 8) = true := bne_iff_ne.mpr c2
    by_cases c3 : a0 = 5
    · rw [if_pos c3] at H
      have c3b0 : (a0 == 5) = true := beq_iff_eq.mpr c3
      have c3b1 : (a0 != 5) = false := bne_eq_false_iff_eq.mpr c3
      clear c3
      obtain rfl := Option.some.inj H
      go_enter Tryd.func71, Tryd.ntmps71
      go_wp2
      go_ret
      exact ⟨by first | rfl | (simp; done) | (simp [*]; done), by repeat (first | exact Drawn0.refl _ | apply Drawn0.step)⟩
    · rw [if_neg c3] at H
      have c3b0 : (a0 == 5) = false := beq_eq_false_iff_ne.mpr c3
      have c3b1 : (a0 != 5) = true := bne_iff_ne.mpr c3
      by_cases c4 : a0 = 7
      · rw [if_pos c4] at H
        have c4b0 : (a0 == 7) = true := beq_iff_eq.mpr c4
        have c4b1 : (a0 != 7) = false := bne_eq_false_iff_eq.mpr c4
        clear c4
        obtain rfl := Option.some.inj H
        go_enter Tryd.func71, Tryd.ntmps71
        go_wp2
        go_ret
        exact ⟨by first | rfl | (simp; done) | (simp [*]; done), by repeat (first | exact Drawn0.refl _ | apply Drawn0.step)⟩
      · rw [if_neg c4] at H
        have c4b0 : (a0 == 7) = false := beq_eq_false_iff_ne.mpr c4
        have c4b1 : (a0 != 7) = true := bne_iff_ne.mpr c4
        obtain rfl := Option.some.inj H
        go_enter Tryd.func71, Tryd.ntmps71
        go_wp2
        go_ret
        exact ⟨by first | rfl | (simp; done) | (simp [*]; done), by repeat (first | exact Drawn0.refl _ | apply Drawn0.step)⟩
def encoding_appendInstr.f (l0 : List Int) (a1_0 : Int) (a1_1 : Int) (a1_2 : Int) (a1_3 : Int) (a1_4 : Int) : Option (List Int) := appF l0 a1_0 a1_1 a1_2 a1_3 a1_4
theorem encoding_appendInstr.calls (P0_ : Nat → Prop) (u9000_ : Value) (l0 : List Int) (a1_0 : Int) (a1_1 : Int) (a1_2 : Int) (a1_3 : Int) (a1_4 : Int) (r : List Int) (w0 w : World) (hB : Below w0.heap.size w0 w) (ho0 : Kd.R (Kd.int .u32) 53 w w0.heap.size P0_ u9000_ l0) (h : encoding_appendInstr.f l0 a1_0 a1_1 a1_2 a1_3 a1_4 = some r) (HT : Aside0 (TabOK w0)) :
    Calls Tryd.prog 70 #[u9000_, .agg #[.int .i64 a1_0, .int .i64 a1_1, .int .i64 a1_2, .int .i64 a1_3, .int .i64 a1_4]] w fun e w' => ∃ v0_ : Value, e = .returned (v0_) ∧ Kd.R (Kd.int .u32) 53 w' w0.heap.size (fun k_ => (P0_ k_ ∨ w.heap.size ≤ k_)) v0_ r ∧ Below w0.heap.size w0 w' ∧ Kept w w' (fun k_ => P0_ k_) :=
  app_calls P0_ u9000_ l0 a1_0 a1_1 a1_2 a1_3 a1_4 r w0 w hB ho0 h HT
def encoding_Encode.l0 : Nat → List Int → List (S42) → Int → Int → Option (List Int × Int)
  | 0, _, _, _, _ => none
  | k + 1, x4, x7, x8, x9 => if x9 < x8 then (if 0 ≤ x9 then (if x9 < (x7.length : Int) then ((machine_Valid.f ((rd_T42 x7 x9).f0) ((rd_T42 x7 x9).f1) ((rd_T42 x7 x9).f2) ((rd_T42 x7 x9).f3) ((rd_T42 x7 x9).f4)).bind fun t103 => (if t103 = true then ((encoding_appendInstr.f x4 ((rd_T42 x7 x9).f0) ((rd_T42 x7 x9).f1) ((rd_T42 x7 x9).f2) ((rd_T42 x7 x9).f3) ((rd_T42 x7 x9).f4)).bind fun t104 => (encoding_Encode.l0 k t104 x7 x8 (wrap64 (x9 + 1)))) else (some (([] : List Int), 204)))) else (none)) else (none)) else (some (x4, 0))
def encoding_Encode.f (k : Nat) (l0 : List (S42)) : Option (List Int × Int) := encoding_Encode.l0 k ([] : List Int) l0 (l0.length : Int) 0
theorem encoding_Encode.mono_l : ∀ k, (∀ y0 y1 y2 y3, LeO (encoding_Encode.l0 k y0 y1 y2 y3) (encoding_Encode.l0 (k + 1) y0 y1 y2 y3))
  | 0 => fun _ _ _ _ r h => by simp [encoding_Encode.l0] at h
  | k + 1 => by
    have ih0 := encoding_Encode.mono_l k
    · intro y0 y1 y2 y3
      unfold encoding_Encode.l0
      repeat' first
      | (with_reducible exact ih0 _ _ _ _)
      | (with_reducible exact LeO.refl _)
      | (with_reducible exact LeO.none _)
      | (with_reducible refine LeO.ite ?_ ?_)
      | (with_reducible refine LeO.bind ?_ (fun _ => ?_))
      | exact ih0 _ _ _ _
      | exact LeO.none _
      | refine LeO.ite ?_ ?_
      | refine LeO.bind ?_ (fun _ => ?_)
theorem encoding_Encode.mono : ∀ a0 k, LeO (encoding_Encode.f k a0) (encoding_Encode.f (k + 1) a0) := by
  intro a0 k
  have ih0 := encoding_Encode.mono_l k
  unfold encoding_Encode.f
  repeat' first
      | (with_reducible exact ih0 _ _ _ _)
      | (with_reducible exact LeO.refl _)
      | (with_reducible exact LeO.none _)
      | (with_reducible refine LeO.ite ?_ ?_)
      | (with_reducible refine LeO.bind ?_ (fun _ => ?_))
      | exact ih0 _ _ _ _
      | exact LeO.none _
      | refine LeO.ite ?_ ?_
      | refine LeO.bind ?_ (fun _ => ?_)
set_option maxHeartbeats 8000000 in
set_option maxRecDepth 100000 in
theorem encoding_Encode.calls (k : Nat) (A0 : Option Addr) (c0 : Nat) (l0 : List (S42)) (r1 : List Int) (r2 : Int) (w : World) (hr0 : Kd.C k42 w A0 l0.length l0) (hc0 : l0.length ≤ c0) (h : encoding_Encode.f k l0 = some (r1, r2)) (HT : Aside0 (TabOK w)) :
    Calls Tryd.prog 33 #[.slice A0 l0.length c0] w fun e w' => ∃ v0_ : Value, e = .returned (.tuple #[v0_, .int .i64 r2]) ∧ Kd.R (Kd.int .u32) 53 w' w.heap.size (fun _ => True) v0_ r1 ∧ Below w.heap.size w w' := by
  have hu42 := Tryd.underlying42
  have HR0 := Aside0.mk hr0
  have HC0 := Aside0.mk hc0
  clear hr0 hc0
  have HB := Aside0.mk (Below.refl w.heap.size w)
  have H : (encoding_Encode.l0 k ([] : List Int) l0 (l0.length : Int) 0) = some (r1, r2) := h
  clear h
  have H' := Aside0.mk H
  clear H
  go_enter Tryd.func33, Tryd.ntmps33
  go_wp2
  go_loopg [4, 9] k (fun kq v4 v9 w' => ∃ (x4_1 : List Int) (x9_1 : Int), v9 = .int .i64 x9_1 ∧ Aside0 (encoding_Encode.l0 kq x4_1 l0 (l0.length : Int) x9_1 = some (r1, r2)) ∧ Aside0 (kq ≤ k) ∧ Aside0 (Kd.R (Kd.int .u32) 53 w' w.heap.size (fun _ => True) v4 x4_1) ∧ Aside0 (Below w.heap.size w w'))
  case atStart => exact ⟨(([] : List Int)), (0), (by first | rfl | (simp; done) | (simp [*]; done)), H', ⟨Nat.le_refl _⟩, ⟨by first | exact Kd.R_nil _ _ _ _ _ | exact Kd.N_nil _ _ _ _ _ | exact Kd.V_nil _ _ _ _ _ | exact Kd.Q_nil _ _ _ _ _ | exact Kd.S_nil _ _ _ _ _⟩, ⟨by repeat (first | (with_reducible first | exact HB.out | apply below_alloc | apply pw_below_drewN | apply below_drew1) | exact HB.out)⟩⟩
  case round =>
    clear H'
    obtain ⟨x4_1, x9_1, rfl, HA, HK1, HO_4, HB⟩ := hrel
    cases gk with
    | zero => exact absurd HA.out (by simp [encoding_Encode.l0])
    | succ k1 =>
      have H := HA.out
      clear HA
      simp only [encoding_Encode.l0] at H
      by_cases c2 : x9_1 < (l0.length : Int)
      · rw [if_pos c2] at H
        have c2b0 : decide (x9_1 < (l0.length : Int)) = true := decide_eq_true c2
        clear c2
        by_cases c3 : 0 ≤ x9_1
        · rw [if_pos c3] at H
          have c3b0 : decide (0 ≤ x9_1) = true := decide_eq_true c3
          clear c3
          by_cases c4 : x9_1 < (l0.length : Int)
          · rw [if_pos c4] at H
            have c4b0 : decide (x9_1 < (l0.length : Int)) = true := decide_eq_true c4
            clear c4
            replace H := Option.bind_eq_some_iff.mp H
            obtain ⟨t103, A50, H⟩ := H
            replace H : (if t103 = true then ((encoding_appendInstr.f x4_1 ((rd_T42 l0 x9_1).f0) ((rd_T42 l0 x9_1).f1) ((rd_T42 l0 x9_1).f2) ((rd_T42 l0 x9_1).f3) ((rd_T42 l0 x9_1).f4)).bind fun t104 => (encoding_Encode.l0 k1 t104 l0 (l0.length : Int) (wrap64 (x9_1 + 1)))) else (some (([] : List Int), 204))) = some (r1, r2) := H
            have A5 := Aside0.mk A50
            clear A50
            by_cases c6 : t103 = true
            · subst c6
              have H1 : ((encoding_appendInstr.f x4_1 ((rd_T42 l0 x9_1).f0) ((rd_T42 l0 x9_1).f1) ((rd_T42 l0 x9_1).f2) ((rd_T42 l0 x9_1).f3) ((rd_T42 l0 x9_1).f4)).bind fun t104 => (encoding_Encode.l0 k1 t104 l0 (l0.length : Int) (wrap64 (x9_1 + 1)))) = some (r1, r2) := by rw [if_pos rfl] at H; exact H
              clear H
              have H := H1
              clear H1
              replace H := Option.bind_eq_some_iff.mp H
              obtain ⟨t104, A70, H⟩ := H
              replace H : (encoding_Encode.l0 k1 t104 l0 (l0.length : Int) (wrap64 (x9_1 + 1))) = some (r1, r2) := H
              have A7 := Aside0.mk A70
              clear A70
              have H' := Aside0.mk H
              clear H
              have p101 : 0 ≤ (x9_1 : Int) := of_decide_eq_true (by first | (with_reducible assumption) | assumption)
              have q101 : x9_1 < (l0.length : Int) := of_decide_eq_true (by first | (with_reducible assumption) | assumption)
              obtain ⟨ad101, e101, hx101_0, hx101_1, hx101_2, hx101_3, hx101_4⟩ := at_T42 HR0.out x9_1 p101 q101
              cases e101
              replace hx101_0 := (HB.out.cell (World.block_lt_of_cell? w _ hx101_0)).trans hx101_0
              replace hx101_1 := (HB.out.cell (World.block_lt_of_cell? w _ hx101_1)).trans hx101_1
              replace hx101_2 := (HB.out.cell (World.block_lt_of_cell? w _ hx101_2)).trans hx101_2
              replace hx101_3 := (HB.out.cell (World.block_lt_of_cell? w _ hx101_3)).trans hx101_3
              replace hx101_4 := (HB.out.cell (World.block_lt_of_cell? w _ hx101_4)).trans hx101_4
              replace p101 := eq_true p101
              replace q101 := eq_true q101
              go_wp2_with (first | ((with_reducible refine gate_dst (N := 6) rfl ?_); refine box_event ?hg (N := 6) ?hd (cs := #[.int .i64 0, .int .i64 0, .int .i64 0, .int .i64 0, .int .i64 0]) (t := 42) ?hr ?_; (case hd => rfl); (case hg => rfl); (case hr => first | (go_simp; done) | (go_simp; rfl)); intro gb102 hg w8 hbox hb; have n0_ := Aside0.mk (Kd.R_below (by (with_reducible repeat (first | apply Kd.R_alloc | apply Kd.R_drewN | apply Kd.R_drew)); exact HO_4.out) hb); have n1_ := Aside0.mk (below_step (by repeat (first | (with_reducible first | exact HB.out | apply below_alloc | apply pw_below_drewN | apply below_drew1) | exact HB.out)) hb); have n2_ := Aside0.mk (hbox); have n3_ := Aside0.mk ((by rw [hg]; exact (below_size (by repeat (first | (with_reducible first | exact HB.out | apply below_alloc | apply pw_below_drewN | apply below_drew1) | exact HB.out))) : w.heap.size ≤ gb102)); have n4_ := Aside0.mk ((by rw [hg]; exact (below_size (by repeat (first | (with_reducible first | exact HB.out | apply below_alloc | apply pw_below_drewN | apply below_drew1) | exact HB.out))) : w.heap.size ≤ gb102)); clear HO_4; clear HB; have HO_4 := n0_; have HB := n1_; have BK102 := n2_; have GW102 := n3_; have GE102 := n4_; clear n0_ n1_ n2_ n3_ n4_; clear hb hbox hg; have hcz9_0 : w8.cell? ⟨gb102, 0, none⟩ = some (.int .i64 0) := (blk_cell BK102.out 0).trans rfl; have hcz9_1 : w8.cell? ⟨gb102, 1, none⟩ = some (.int .i64 0) := (blk_cell BK102.out 1).trans rfl; have hcz9_2 : w8.cell? ⟨gb102, 2, none⟩ = some (.int .i64 0) := (blk_cell BK102.out 2).trans rfl; have hcz9_3 : w8.cell? ⟨gb102, 3, none⟩ = some (.int .i64 0) := (blk_cell BK102.out 3).trans rfl; have hcz9_4 : w8.cell? ⟨gb102, 4, none⟩ = some (.int .i64 0) := (blk_cell BK102.out 4).trans rfl; have hfz9_0 := blk_frozen BK102.out 0; have hfz9_1 := blk_frozen BK102.out 1; have hfz9_2 := blk_frozen BK102.out 2; have hfz9_3 := blk_frozen BK102.out 3; have hfz9_4 := blk_frozen BK102.out 4) | ((with_reducible refine gate_callee (f := 69) rfl ?_); refine goesL_ (some 14) rfl rfl Tryd.func69 (by kernel_rfl) rfl #[.agg #[.int .i64 ((rd_T42 l0 x9_1).f0), .int .i64 ((rd_T42 l0 x9_1).f1), .int .i64 ((rd_T42 l0 x9_1).f2), .int .i64 ((rd_T42 l0 x9_1).f3), .int .i64 ((rd_T42 l0 x9_1).f4)]] rfl (by (try simp only [List.map_toArray, List.map_cons, List.map_nil]); first | done | rfl | (simp only [List.length_drop, List.length_take]; rfl)) ?_; (with_reducible refine (machine_Valid.calls ((rd_T42 l0 x9_1).f0) ((rd_T42 l0 x9_1).f1) ((rd_T42 l0 x9_1).f2) ((rd_T42 l0 x9_1).f3) ((rd_T42 l0 x9_1).f4) true _ A5.out ?side1).mono ?_); (case side1 => exact TabOK.aside HT.out (by repeat (first | (with_reducible first | exact HB.out | apply below_alloc | apply pw_below_drewN | apply below_drew1 | refine below_set ?_ GE102.out) | exact HB.out))); rintro e w10 ⟨rfl, hb⟩; refine ⟨_, rfl, ?_⟩; have n0_ := Aside0.mk (Kd.R_below (by (with_reducible repeat (first | apply Kd.R_alloc | apply Kd.R_drewN | apply Kd.R_drew)); exact (Kd.R_mono (Kd.R_far (p := ⟨gb102, 4, none⟩) (Kd.R_far (p := ⟨gb102, 3, none⟩) (Kd.R_far (p := ⟨gb102, 2, none⟩) (Kd.R_far (p := ⟨gb102, 1, none⟩) (Kd.R_far (p := ⟨gb102, 0, none⟩) (Kd.R_types HO_4.out BK102.out (by decide)) (fun _ hk => hk.2) (.int .i64 ((rd_T42 l0 x9_1).f0))) (fun _ hk => hk.2) (.int .i64 ((rd_T42 l0 x9_1).f1))) (fun _ hk => hk.2) (.int .i64 ((rd_T42 l0 x9_1).f2))) (fun _ hk => hk.2) (.int .i64 ((rd_T42 l0 x9_1).f3))) (fun _ hk => hk.2) (.int .i64 ((rd_T42 l0 x9_1).f4))) (fun _ h_ => h_.1))) hb); have n1_ := Aside0.mk (blk_below (g := gb102) (o := .cells #[.int .i64 ((rd_T42 l0 x9_1).f0), .int .i64 ((rd_T42 l0 x9_1).f1), .int .i64 ((rd_T42 l0 x9_1).f2), .int .i64 ((rd_T42 l0 x9_1).f3), .int .i64 ((rd_T42 l0 x9_1).f4)] 42 (0, 0)) (by (with_reducible repeat (first | refine blk_drewN ?_ _ | refine blk_drew ?_ | refine blk_alloc ?_ _)); refine blk_put (cs := #[.int .i64 ((rd_T42 l0 x9_1).f0), .int .i64 ((rd_T42 l0 x9_1).f1), .int .i64 ((rd_T42 l0 x9_1).f2), .int .i64 ((rd_T42 l0 x9_1).f3), .int .i64 0]) ?_ 4 _ rfl; (with_reducible repeat (first | refine blk_drewN ?_ _ | refine blk_drew ?_ | refine blk_alloc ?_ _)); refine blk_put (cs := #[.int .i64 ((rd_T42 l0 x9_1).f0), .int .i64 ((rd_T42 l0 x9_1).f1), .int .i64 ((rd_T42 l0 x9_1).f2), .int .i64 0, .int .i64 0]) ?_ 3 _ rfl; (with_reducible repeat (first | refine blk_drewN ?_ _ | refine blk_drew ?_ | refine blk_alloc ?_ _)); refine blk_put (cs := #[.int .i64 ((rd_T42 l0 x9_1).f0), .int .i64 ((rd_T42 l0 x9_1).f1), .int .i64 0, .int .i64 0, .int .i64 0]) ?_ 2 _ rfl; (with_reducible repeat (first | refine blk_drewN ?_ _ | refine blk_drew ?_ | refine blk_alloc ?_ _)); refine blk_put (cs := #[.int .i64 ((rd_T42 l0 x9_1).f0), .int .i64 0, .int .i64 0, .int .i64 0, .int .i64 0]) ?_ 1 _ rfl; (with_reducible repeat (first | refine blk_drewN ?_ _ | refine blk_drew ?_ | refine blk_alloc ?_ _)); refine blk_put (cs := #[.int .i64 0, .int .i64 0, .int .i64 0, .int .i64 0, .int .i64 0]) ?_ 0 _ rfl; (with_reducible repeat (first | refine blk_drewN ?_ _ | refine blk_drew ?_ | refine blk_alloc ?_ _)); exact BK102.out) hb); have n2_ := Aside0.mk (below_step (by repeat (first | (with_reducible first | exact HB.out | apply below_alloc | apply pw_below_drewN | apply below_drew1 | refine below_set ?_ GE102.out) | exact HB.out)) hb); clear HO_4; clear BK102; clear HB; have HO_4 := n0_; have BK102 := n1_; have HB := n2_; clear n0_ n1_ n2_; (try clear hb); (try clear hb2); (try clear hk); (try clear hi); have hcz11_0 : w10.cell? ⟨gb102, 0, none⟩ = some (.int .i64 ((rd_T42 l0 x9_1).f0)) := (blk_cell BK102.out 0).trans rfl; have hcz11_1 : w10.cell? ⟨gb102, 1, none⟩ = some (.int .i64 ((rd_T42 l0 x9_1).f1)) := (blk_cell BK102.out 1).trans rfl; have hcz11_2 : w10.cell? ⟨gb102, 2, none⟩ = some (.int .i64 ((rd_T42 l0 x9_1).f2)) := (blk_cell BK102.out 2).trans rfl; have hcz11_3 : w10.cell? ⟨gb102, 3, none⟩ = some (.int .i64 ((rd_T42 l0 x9_1).f3)) := (blk_cell BK102.out 3).trans rfl; have hcz11_4 : w10.cell? ⟨gb102, 4, none⟩ = some (.int .i64 ((rd_T42 l0 x9_1).f4)) := (blk_cell BK102.out 4).trans rfl; have hfz11_0 := blk_frozen BK102.out 0; have hfz11_1 := blk_frozen BK102.out 1; have hfz11_2 := blk_frozen BK102.out 2; have hfz11_3 := blk_frozen BK102.out 3; have hfz11_4 := blk_frozen BK102.out 4; obtain ⟨Ao12, co12, eo12⟩ := Kd.R_slice HO_4.out; subst eo12) | ((with_reducible refine gate_callee (f := 70) rfl ?_); refine goesL_ (some 18) rfl rfl Tryd.func70 (by kernel_rfl) rfl #[.slice Ao12 x4_1.length co12, .agg #[.int .i64 ((rd_T42 l0 x9_1).f0), .int .i64 ((rd_T42 l0 x9_1).f1), .int .i64 ((rd_T42 l0 x9_1).f2), .int .i64 ((rd_T42 l0 x9_1).f3), .int .i64 ((rd_T42 l0 x9_1).f4)]] rfl (by (try simp only [List.map_toArray, List.map_cons, List.map_nil]); first | done | rfl | (simp only [List.length_drop, List.length_take]; rfl)) ?_; (with_reducible refine (encoding_appendInstr.calls (fun k_ => some k_ = (.slice Ao12 x4_1.length co12 : Value).ownBlock) (.slice Ao12 x4_1.length co12) x4_1 ((rd_T42 l0 x9_1).f0) ((rd_T42 l0 x9_1).f1) ((rd_T42 l0 x9_1).f2) ((rd_T42 l0 x9_1).f3) ((rd_T42 l0 x9_1).f4) t104 w _ ?side1 ?side2 A7.out HT).mono ?_); (case side1 => repeat (first | (with_reducible first | exact HB.out | apply below_alloc | apply pw_below_drewN | apply below_drew1 | refine below_set ?_ GE102.out) | exact HB.out)); (case side2 => exact Kd.R_tight rfl HO_4.out); rintro e w13 ⟨v105, rfl, ho0, hb, hkp⟩; refine ⟨_, rfl, ?_⟩; have n0_ := Aside0.mk (blk_kept (by (with_reducible repeat (first | refine blk_drewN ?_ _ | refine blk_drew ?_ | refine blk_alloc ?_ _)); exact BK102.out) hkp (fun hs_ => (fun e_ => (Kd.R_ne HO_4.out BK102.out (by decide)) e_) hs_)); have n1_ := Aside0.mk (Kd.R_mono (ok' := fun k_ => True) ho0 (fun k_ hk_ => trivial)); have n2_ := Aside0.mk (hb); clear BK102; clear HB; clear HO_4; have BK102 := n0_; have HO106 := n1_; have HB := n2_; clear n0_ n1_ n2_; (try clear hb); (try clear hkp); (try clear ho0)))
              go_roundg k1
              case measure => have := HK1.out; omega
              case rel => exact ⟨(t104), (wrap64 (x9_1 + 1)), (by first | rfl | (simp; done) | (simp [*]; done)), H', ⟨by have := HK1.out; omega⟩, ⟨by (with_reducible repeat (first | apply Kd.R_alloc | apply Kd.R_drewN | apply Kd.R_drew)); exact HO106.out⟩, ⟨by repeat (first | (with_reducible first | exact HB.out | apply below_alloc | apply pw_below_drewN | apply below_drew1 | refine below_set ?_ GE102.out) | exact HB.out)⟩⟩
            · replace c6 := Bool.eq_false_iff.mpr c6
              subst c6
              have H1 : (some (([] : List Int), 204)) = some (r1, r2) := by rw [if_neg (show ¬ (false = true) by decide)] at H; exact H
              clear H
              have H := H1
              clear H1
              simp only [Option.some.injEq, Prod.mk.injEq] at H
              obtain ⟨rfl, rfl⟩ := H
              have p101 : 0 ≤ (x9_1 : Int) := of_decide_eq_true (by first | (with_reducible assumption) | assumption)
              have q101 : x9_1 < (l0.length : Int) := of_decide_eq_true (by first | (with_reducible assumption) | assumption)
              obtain ⟨ad101, e101, hx101_0, hx101_1, hx101_2, hx101_3, hx101_4⟩ := at_T42 HR0.out x9_1 p101 q101
              cases e101
              replace hx101_0 := (HB.out.cell (World.block_lt_of_cell? w _ hx101_0)).trans hx101_0
              replace hx101_1 := (HB.out.cell (World.block_lt_of_cell? w _ hx101_1)).trans hx101_1
              replace hx101_2 := (HB.out.cell (World.block_lt_of_cell? w _ hx101_2)).trans hx101_2
              replace hx101_3 := (HB.out.cell (World.block_lt_of_cell? w _ hx101_3)).trans hx101_3
              replace hx101_4 := (HB.out.cell (World.block_lt_of_cell? w _ hx101_4)).trans hx101_4
              replace p101 := eq_true p101
              replace q101 := eq_true q101
              go_wp2_with (first | ((with_reducible refine gate_dst (N := 6) rfl ?_); refine box_event ?hg (N := 6) ?hd (cs := #[.int .i64 0, .int .i64 0, .int .i64 0, .int .i64 0, .int .i64 0]) (t := 42) ?hr ?_; (case hd => rfl); (case hg => rfl); (case hr => first | (go_simp; done) | (go_simp; rfl)); intro gb102 hg w14 hbox hb; have n0_ := Aside0.mk (Kd.R_below (by (with_reducible repeat (first | apply Kd.R_alloc | apply Kd.R_drewN | apply Kd.R_drew)); exact HO_4.out) hb); have n1_ := Aside0.mk (below_step (by repeat (first | (with_reducible first | exact HB.out | apply below_alloc | apply pw_below_drewN | apply below_drew1) | exact HB.out)) hb); have n2_ := Aside0.mk (hbox); have n3_ := Aside0.mk ((by rw [hg]; exact (below_size (by repeat (first | (with_reducible first | exact HB.out | apply below_alloc | apply pw_below_drewN | apply below_drew1) | exact HB.out))) : w.heap.size ≤ gb102)); have n4_ := Aside0.mk ((by rw [hg]; exact (below_size (by repeat (first | (with_reducible first | exact HB.out | apply below_alloc | apply pw_below_drewN | apply below_drew1) | exact HB.out))) : w.heap.size ≤ gb102)); clear HO_4; clear HB; have HO_4 := n0_; have HB := n1_; have BK102 := n2_; have GW102 := n3_; have GE102 := n4_; clear n0_ n1_ n2_ n3_ n4_; clear hb hbox hg; have hcz15_0 : w14.cell? ⟨gb102, 0, none⟩ = some (.int .i64 0) := (blk_cell BK102.out 0).trans rfl; have hcz15_1 : w14.cell? ⟨gb102, 1, none⟩ = some (.int .i64 0) := (blk_cell BK102.out 1).trans rfl; have hcz15_2 : w14.cell? ⟨gb102, 2, none⟩ = some (.int .i64 0) := (blk_cell BK102.out 2).trans rfl; have hcz15_3 : w14.cell? ⟨gb102, 3, none⟩ = some (.int .i64 0) := (blk_cell BK102.out 3).trans rfl; have hcz15_4 : w14.cell? ⟨gb102, 4, none⟩ = some (.int .i64 0) := (blk_cell BK102.out 4).trans rfl; have hfz15_0 := blk_frozen BK102.out 0; have hfz15_1 := blk_frozen BK102.out 1; have hfz15_2 := blk_frozen BK102.out 2; have hfz15_3 := blk_frozen BK102.out 3; have hfz15_4 := blk_frozen BK102.out 4) | ((with_reducible refine gate_callee (f := 69) rfl ?_); refine goesL_ (some 14) rfl rfl Tryd.func69 (by kernel_rfl) rfl #[.agg #[.int .i64 ((rd_T42 l0 x9_1).f0), .int .i64 ((rd_T42 l0 x9_1).f1), .int .i64 ((rd_T42 l0 x9_1).f2), .int .i64 ((rd_T42 l0 x9_1).f3), .int .i64 ((rd_T42 l0 x9_1).f4)]] rfl (by (try simp only [List.map_toArray, List.map_cons, List.map_nil]); first | done | rfl | (simp only [List.length_drop, List.length_take]; rfl)) ?_; (with_reducible refine (machine_Valid.calls ((rd_T42 l0 x9_1).f0) ((rd_T42 l0 x9_1).f1) ((rd_T42 l0 x9_1).f2) ((rd_T42 l0 x9_1).f3) ((rd_T42 l0 x9_1).f4) false _ A5.out ?side1).mono ?_); (case side1 => exact TabOK.aside HT.out (by repeat (first | (with_reducible first | exact HB.out | apply below_alloc | apply pw_below_drewN | apply below_drew1 | refine below_set ?_ GE102.out) | exact HB.out))); rintro e w16 ⟨rfl, hb⟩; refine ⟨_, rfl, ?_⟩; have n0_ := Aside0.mk (Kd.R_below (by (with_reducible repeat (first | apply Kd.R_alloc | apply Kd.R_drewN | apply Kd.R_drew)); exact (Kd.R_mono (Kd.R_far (p := ⟨gb102, 4, none⟩) (Kd.R_far (p := ⟨gb102, 3, none⟩) (Kd.R_far (p := ⟨gb102, 2, none⟩) (Kd.R_far (p := ⟨gb102, 1, none⟩) (Kd.R_far (p := ⟨gb102, 0, none⟩) (Kd.R_types HO_4.out BK102.out (by decide)) (fun _ hk => hk.2) (.int .i64 ((rd_T42 l0 x9_1).f0))) (fun _ hk => hk.2) (.int .i64 ((rd_T42 l0 x9_1).f1))) (fun _ hk => hk.2) (.int .i64 ((rd_T42 l0 x9_1).f2))) (fun _ hk => hk.2) (.int .i64 ((rd_T42 l0 x9_1).f3))) (fun _ hk => hk.2) (.int .i64 ((rd_T42 l0 x9_1).f4))) (fun _ h_ => h_.1))) hb); have n1_ := Aside0.mk (blk_below (g := gb102) (o := .cells #[.int .i64 ((rd_T42 l0 x9_1).f0), .int .i64 ((rd_T42 l0 x9_1).f1), .int .i64 ((rd_T42 l0 x9_1).f2), .int .i64 ((rd_T42 l0 x9_1).f3), .int .i64 ((rd_T42 l0 x9_1).f4)] 42 (0, 0)) (by (with_reducible repeat (first | refine blk_drewN ?_ _ | refine blk_drew ?_ | refine blk_alloc ?_ _)); refine blk_put (cs := #[.int .i64 ((rd_T42 l0 x9_1).f0), .int .i64 ((rd_T42 l0 x9_1).f1), .int .i64 ((rd_T42 l0 x9_1).f2), .int .i64 ((rd_T42 l0 x9_1).f3), .int .i64 0]) ?_ 4 _ rfl; (with_reducible repeat (first | refine blk_drewN ?_ _ | refine blk_drew ?_ | refine blk_alloc ?_ _)); refine blk_put (cs := #[.int .i64 ((rd_T42 l0 x9_1).f0), .int .i64 ((rd_T42 l0 x9_1).f1), .int .i64 ((rd_T42 l0 x9_1).f2), .int .i64 0, .int .i64 0]) ?_ 3 _ rfl; (with_reducible repeat (first | refine blk_drewN ?_ _ | refine blk_drew ?_ | refine blk_alloc ?_ _)); refine blk_put (cs := #[.int .i64 ((rd_T42 l0 x9_1).f0), .int .i64 ((rd_T42 l0 x9_1).f1), .int .i64 0, .int .i64 0, .int .i64 0]) ?_ 2 _ rfl; (with_reducible repeat (first | refine blk_drewN ?_ _ | refine blk_drew ?_ | refine blk_alloc ?_ _)); refine blk_put (cs := #[.int .i64 ((rd_T42 l0 x9_1).f0), .int .i64 0, .int .i64 0, .int .i64 0, .int .i64 0]) ?_ 1 _ rfl; (with_reducible repeat (first | refine blk_drewN ?_ _ | refine blk_drew ?_ | refine blk_alloc ?_ _)); refine blk_put (cs := #[.int .i64 0, .int .i64 0, .int .i64 0, .int .i64 0, .int .i64 0]) ?_ 0 _ rfl; (with_reducible repeat (first | refine blk_drewN ?_ _ | refine blk_drew ?_ | refine blk_alloc ?_ _)); exact BK102.out) hb); have n2_ := Aside0.mk (below_step (by repeat (first | (with_reducible first | exact HB.out | apply below_alloc | apply pw_below_drewN | apply below_drew1 | refine below_set ?_ GE102.out) | exact HB.out)) hb); clear HO_4; clear BK102; clear HB; have HO_4 := n0_; have BK102 := n1_; have HB := n2_; clear n0_ n1_ n2_; (try clear hb); (try clear hb2); (try clear hk); (try clear hi)))
              go_ret2
              exact ⟨_, by first | rfl | (simp [errW_none, errW_some] <;> rfl) | (simp [*, errW_none, errW_some] <;> rfl), by first | exact Kd.R_nil _ _ _ _ _ | exact Kd.N_nil _ _ _ _ _ | exact Kd.V_nil _ _ _ _ _ | exact Kd.Q_nil _ _ _ _ _ | exact Kd.S_nil _ _ _ _ _, by repeat (first | (with_reducible first | exact HB.out | apply below_alloc | apply pw_below_drewN | apply below_drew1 | refine below_set ?_ GE102.out) | exact HB.out)⟩
          · rw [if_neg c4] at H
            exact absurd H (by simp)
        · rw [if_neg c3] at H
          exact absurd H (by simp)
      · rw [if_neg c2] at H
        have c2b0 : decide (x9_1 < (l0.length : Int)) = false := decide_eq_false c2
        clear c2
        simp only [Option.some.injEq, Prod.mk.injEq] at H
        obtain ⟨rfl, rfl⟩ := H
        go_wp2
        go_ret2
        exact ⟨_, by first | rfl | (simp [errW_none, errW_some] <;> rfl) | (simp [*, errW_none, errW_some] <;> rfl), by (with_reducible repeat (first | apply Kd.R_alloc | apply Kd.R_drewN | apply Kd.R_drew)); exact HO_4.out, by repeat (first | (with_reducible first | exact HB.out | apply below_alloc | apply pw_below_drewN | apply below_drew1) | exact HB.out)⟩
end Go.Proofs.YtcjidibdidijaaaDoor.PCod
namespace Go.Proofs.YtcjidibdidijaaaDoor
open Go.RowKit Go.Proofs.YtcjidibdidijaaaDoor.PCod Go.Proofs.YtcjidibdidijaaaDoorW.PrintWords Go.Proofs.YtcjidibdidijaaaDoorW.PrintMore
set_option linter.unusedVariables false
set_option linter.unusedSimpArgs false
def vI (i : S42) : Bool := valB i.f0 i.f1 i.f2 i.f3 i.f4
def wI (i : S42) : List Int := appW i.f0 i.f1 i.f2 i.f3 i.f4
def encL (l : List S42) : List Int × Int := if l.all vI then (l.flatMap wI, 0) else ([], 204)
theorem vI_val {i : S42} (h : vI i = true) : Val i.f0 i.f1 i.f2 i.f3 i.f4 := of_decide_eq_true h
theorem wI_len {i : S42} (h : vI i = true) : (wI i).length = if formOf i.f0 = 6 then 3 else 1 := appW_len (vI_val h)
theorem wI_len3 {i : S42} (h : vI i = true) : 1 ≤ (wI i).length ∧ (wI i).length ≤ 3 := by
  rw [wI_len h]
  split <;> omega
theorem wI_u32 {i : S42} (h : vI i = true) : ∀ x ∈ wI i, 0 ≤ x ∧ x < 4294967296 := appW_u32 (vI_val h)
theorem flat_len : ∀ (l : List S42), l.all vI = true → l.length ≤ (l.flatMap wI).length ∧ (l.flatMap wI).length ≤ 3 * l.length
  | [], _ => by simp
  | i :: t, h => by
    simp only [List.all_cons, Bool.and_eq_true] at h
    have := wI_len3 h.1
    have := flat_len t h.2
    simp only [List.flatMap_cons, List.length_append, List.length_cons]
    omega
theorem flat_u32 : ∀ (l : List S42), l.all vI = true → ∀ x ∈ l.flatMap wI, 0 ≤ x ∧ x < 4294967296
  | [], _ => by simp
  | i :: t, h => by
    simp only [List.all_cons, Bool.and_eq_true] at h
    intro x hx
    rw [List.flatMap_cons, List.mem_append] at hx
    rcases hx with hx | hx
    · exact wI_u32 h.1 x hx
    · exact flat_u32 t h.2 x hx
theorem rd42 (l : List S42) (j : Nat) (h : j < l.length) : rd_T42 l (j : Int) = l[j] := by
  unfold rd_T42
  rw [Int.toNat_natCast, List.getD_eq_getElem?_getD, List.getElem?_eq_getElem h]
  rfl
theorem rd_nat (l : List Int) (j : Nat) (h : j < l.length) : rd l (j : Int) = l[j] := by
  unfold rd
  rw [Int.toNat_natCast, List.getD_eq_getElem?_getD, List.getElem?_eq_getElem h]
  rfl
theorem wrap_succ (j : Nat) (h : j < 9223372036854775807) : wrap64 ((j : Int) + 1) = ((j + 1 : Nat) : Int) := by
  unfold wrap64
  omega
theorem enc_loop (l : List S42) (hl : 3 * l.length < 35184372088830) : ∀ (d j : Nat) (acc : List Int), l.length - j = d → j ≤ l.length → acc.length ≤ 3 * j →
    Ev (fun k => encoding_Encode.l0 k acc l (l.length : Int) (j : Int)) (if (l.drop j).all vI then (acc ++ (l.drop j).flatMap wI, 0) else ([], 204))
  | 0, j, acc, hd, hj, ha => by
    obtain rfl : j = l.length := by omega
    refine Ev.step (f := fun _ => some (acc, 0)) (fun k => ?_) ?_
    · simp only [encoding_Encode.l0]
      rw [if_neg (by omega)]
    · rw [List.drop_length]
      simp only [List.all_nil, if_true, List.flatMap_nil, List.append_nil]
      exact Ev.now _
  | d + 1, j, acc, hd, hj, ha => by
    have hlt : j < l.length := by omega
    have e : l.drop j = l[j] :: l.drop (j + 1) := List.drop_eq_getElem_cons hlt
    by_cases hv : vI l[j] = true
    · have ih := enc_loop l hl d (j + 1) (acc ++ wI l[j]) (by omega) (by omega) (by have := wI_len3 hv; rw [List.length_append]; omega)
      rw [e]
      simp only [List.all_cons, hv, Bool.true_and, List.flatMap_cons]
      rw [← List.append_assoc]
      refine Ev.step (f := fun k => encoding_Encode.l0 k (acc ++ wI l[j]) l (l.length : Int) ((j + 1 : Nat) : Int)) (fun k => ?_) ih
      simp only [encoding_Encode.l0]
      rw [if_pos (by omega), if_pos (by omega), if_pos (by omega), rd42 l j hlt]
      have h1 : machine_Valid.f l[j].f0 l[j].f1 l[j].f2 l[j].f3 l[j].f4 = some true := congrArg some hv
      have h2 : encoding_appendInstr.f acc l[j].f0 l[j].f1 l[j].f2 l[j].f3 l[j].f4 = some (acc ++ wI l[j]) := if_pos (by omega)
      rw [h1, Option.bind_some, if_pos rfl, h2, Option.bind_some, wrap_succ j (by omega)]
    · rw [e]
      have hv' : vI l[j] = false := by simpa using hv
      simp only [List.all_cons, hv', Bool.false_and, Bool.false_eq_true, if_false]
      refine Ev.step (f := fun _ => some ([], 204)) (fun k => ?_) (Ev.now _)
      simp only [encoding_Encode.l0]
      rw [if_pos (by omega), if_pos (by omega), if_pos (by omega), rd42 l j hlt]
      have h1 : machine_Valid.f l[j].f0 l[j].f1 l[j].f2 l[j].f3 l[j].f4 = some false := congrArg some hv'
      rw [h1, Option.bind_some, if_neg (by decide)]
theorem enc_ev (l : List S42) (hl : 3 * l.length < 35184372088830) : Ev (fun k => encoding_Encode.f k l) (encL l) := by
  have h := enc_loop l hl l.length 0 [] (by omega) (by omega) (by simp)
  simp only [List.drop_zero, List.nil_append] at h
  exact h
end Go.Proofs.YtcjidibdidijaaaDoor
namespace Go.Proofs.YtcjidibdidijaaaDoor
open Go.RowKit Go.Proofs.YtcjidibdidijaaaDoor.PCod Go.Proofs.YtcjidibdidijaaaDoorW.PrintWords Go.Proofs.YtcjidibdidijaaaDoorW.PrintMore
set_option linter.unusedVariables false
set_option linter.unusedSimpArgs false
def cfOn (i : S42) : Bool := vI i && (i.f0 != 2) && (i.f0 != 4) && (i.f0 != 5)
def cfJump (i : S42) : Bool := vI i && (i.f0 == 5 || i.f0 == 7 || i.f0 == 8)
set_option maxRecDepth 100000 in
set_option maxHeartbeats 2000000 in
theorem rcf_any (i : S42) (w : World) : Calls Tryd.prog 56 #[.agg #[.int .i64 i.f0, .int .i64 i.f1, .int .i64 i.f2, .int .i64 i.f3, .int .i64 i.f4]] w fun e w' => e = .returned (.tuple #[.bool (cfOn i), .bool (cfJump i)]) ∧ Below w.heap.size w w' := by
  obtain ⟨op, A, B, C, X⟩ := i
  obtain ⟨v, hv⟩ : ∃ v, vI ⟨op, A, B, C, X⟩ = v := ⟨_, rfl⟩
  have HV := Lib.hid hv
  have hon : cfOn ⟨op, A, B, C, X⟩ = (v && (op != 2) && (op != 4) && (op != 5)) := by rw [← hv]; rfl
  have hju : cfJump ⟨op, A, B, C, X⟩ = (v && (op == 5 || op == 7 || op == 8)) := by rw [← hv]; rfl
  rw [hon, hju]
  clear hon hju hv
  go_enter Tryd.func56, Tryd.ntmps56
  go_wp2_with fail
  refine (rvalid_calls op A B C X v _ (congrArg some HV.out)).mono ?_
  rintro e w1 ⟨rfl, hb⟩
  have B0 := blk_below (blk_new w (.cells #[.int .i64 op, .int .i64 A, .int .i64 B, .int .i64 C, .int .i64 X] 42 (0, 0))) hb
  have HB := Aside0.mk (below_step (below_alloc (Below.refl _ _) _) hb : Below w.heap.size w w1)
  clear hb
  have c0 : w1.cell? ⟨w.heap.size, 0, none⟩ = some (.int .i64 op) := (blk_cell B0 0).trans rfl
  clear B0
  cases v with
  | false =>
    go_wp2_with fail
    go_ret2
    exact ⟨rfl, HB.out⟩
  | true =>
    by_cases h2 : op = 2
    · subst h2
      go_wp2_with fail
      go_still (by kernel_rfl)
      go_wp2_with fail
      go_ret2
      exact ⟨rfl, below_drew HB.out⟩
    · by_cases h4 : op = 4
      · subst h4
        go_wp2_with fail
        go_still (by kernel_rfl)
        go_wp2_with fail
        go_ret2
        exact ⟨rfl, below_drew HB.out⟩
      · by_cases h5 : op = 5
        · subst h5
          go_wp2_with fail
          go_still (by kernel_rfl)
          go_wp2_with fail
          go_ret2
          exact ⟨rfl, below_drew HB.out⟩
        · by_cases h7 : op = 7
          · subst h7
            go_wp2_with fail
            go_still (by kernel_rfl)
            go_wp2_with fail
            go_ret2
            exact ⟨rfl, below_drew HB.out⟩
          · by_cases h8 : op = 8
            · subst h8
              go_wp2_with fail
              go_still (by kernel_rfl)
              go_wp2_with fail
              go_ret2
              exact ⟨rfl, below_drew HB.out⟩
            · have n2 : (op != 2) = true := bne_iff_ne.2 h2
              have n4 : (op != 4) = true := bne_iff_ne.2 h4
              have n5 : (op != 5) = true := bne_iff_ne.2 h5
              have e5 : (op == 5) = false := beq_eq_false_iff_ne.2 h5
              have e7 : (op == 7) = false := beq_eq_false_iff_ne.2 h7
              have e8 : (op == 8) = false := beq_eq_false_iff_ne.2 h8
              go_wp2_with fail
              go_still (by kernel_rfl)
              go_wp2_with fail
              go_ret2
              exact ⟨by simp [n2, n4, n5, e5, e7, e8], below_drew HB.out⟩
end Go.Proofs.YtcjidibdidijaaaDoor
namespace Go.Proofs.YtcjidibdidijaaaDoor
open Go.RowKit Go.Proofs.YtcjidibdidijaaaDoor.PCod Go.Proofs.YtcjidibdidijaaaDoorW.PrintWords Go.Proofs.YtcjidibdidijaaaDoorW.PrintMore
set_option linter.unusedVariables false
set_option linter.unusedSimpArgs false
set_option maxRecDepth 100000 in
set_option maxHeartbeats 2000000 in
theorem pcf_any (i : S42) (w : World) (HT : Aside0 (TabOK w)) : Calls Tryd.prog 76 #[.agg #[.int .i64 i.f0, .int .i64 i.f1, .int .i64 i.f2, .int .i64 i.f3, .int .i64 i.f4]] w fun e w' => e = .returned (.tuple #[.bool (cfOn i), .bool (cfJump i)]) ∧ Below w.heap.size w w' := by
  obtain ⟨op, A, B, C, X⟩ := i
  obtain ⟨v, hv⟩ : ∃ v, vI ⟨op, A, B, C, X⟩ = v := ⟨_, rfl⟩
  have HV := Lib.hid hv
  have hon : cfOn ⟨op, A, B, C, X⟩ = (v && (op != 2) && (op != 4) && (op != 5)) := by rw [← hv]; rfl
  have hju : cfJump ⟨op, A, B, C, X⟩ = (v && (op == 5 || op == 7 || op == 8)) := by rw [← hv]; rfl
  rw [hon, hju]
  clear hon hju hv
  go_enter Tryd.func76, Tryd.ntmps76
  go_wp2_with fail
  refine (valid_calls op A B C X v _ (congrArg some HV.out) (TabOK.aside HT.out (below_alloc (Below.refl _ _) _))).mono ?_
  rintro e w1 ⟨rfl, hb⟩
  have B0 := blk_below (blk_new w (.cells #[.int .i64 op, .int .i64 A, .int .i64 B, .int .i64 C, .int .i64 X] 42 (0, 0))) hb
  have HB := Aside0.mk (below_step (below_alloc (Below.refl _ _) _) hb : Below w.heap.size w w1)
  clear hb
  have c0 : w1.cell? ⟨w.heap.size, 0, none⟩ = some (.int .i64 op) := (blk_cell B0 0).trans rfl
  clear B0
  cases v with
  | false =>
    go_wp2_with fail
    go_ret2
    exact ⟨rfl, HB.out⟩
  | true =>
    by_cases h2 : op = 2
    · subst h2
      go_wp2_with fail
      try (go_still (by kernel_rfl))
      go_wp2_with fail
      go_ret2
      exact ⟨rfl, (by first | exact HB.out | exact below_drew HB.out)⟩
    · by_cases h4 : op = 4
      · subst h4
        go_wp2_with fail
        try (go_still (by kernel_rfl))
        go_wp2_with fail
        go_ret2
        exact ⟨rfl, (by first | exact HB.out | exact below_drew HB.out)⟩
      · by_cases h5 : op = 5
        · subst h5
          go_wp2_with fail
          try (go_still (by kernel_rfl))
          go_wp2_with fail
          go_ret2
          exact ⟨rfl, (by first | exact HB.out | exact below_drew HB.out)⟩
        · by_cases h7 : op = 7
          · subst h7
            go_wp2_with fail
            try (go_still (by kernel_rfl))
            go_wp2_with fail
            go_ret2
            exact ⟨rfl, (by first | exact HB.out | exact below_drew HB.out)⟩
          · by_cases h8 : op = 8
            · subst h8
              go_wp2_with fail
              try (go_still (by kernel_rfl))
              go_wp2_with fail
              go_ret2
              exact ⟨rfl, (by first | exact HB.out | exact below_drew HB.out)⟩
            · have n2 : (op != 2) = true := bne_iff_ne.2 h2
              have n4 : (op != 4) = true := bne_iff_ne.2 h4
              have n5 : (op != 5) = true := bne_iff_ne.2 h5
              have e5 : (op == 5) = false := beq_eq_false_iff_ne.2 h5
              have e7 : (op == 7) = false := beq_eq_false_iff_ne.2 h7
              have e8 : (op == 8) = false := beq_eq_false_iff_ne.2 h8
              go_wp2_with fail
              try (go_still (by kernel_rfl))
              go_wp2_with fail
              go_ret2
              exact ⟨by simp [n2, n4, n5, e5, e7, e8], (by first | exact HB.out | exact below_drew HB.out)⟩
end Go.Proofs.YtcjidibdidijaaaDoor
