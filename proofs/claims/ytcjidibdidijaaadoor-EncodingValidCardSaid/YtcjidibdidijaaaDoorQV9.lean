/- Parts of this proof in one text: CDec. -/
import Derived.Test.YtcjidibdidijaaaDoorQV2
import Derived.Test.YtcjidibdidijaaaDoorQV8
namespace Go.Proofs.YtcjidibdidijaaaDoor.PCod
open Go.RowKit Go.Proofs.YtcjidibdidijaaaDoorW.PrintWords Go.Proofs.YtcjidibdidijaaaDoorW.PrintLast Go.Proofs.YtcjidibdidijaaaDoorW.PrintMore
attribute [local go_sem] max2_int min2_int max_two min_two max_three min_three max_four min_four
set_option linter.unusedVariables false
set_option linter.unusedSimpArgs false
mutual
def encoding_Decode.j0 : Nat → List Int → Int → Bool → Option (Int × Int × Int × Int × Int × Int × Int)
  | 0, _, _, _ => none
  | k + 1, x0, x1, x24 => if x24 = true then (some (0, 0, 0, 0, 0, 0, 204)) else (if 0 ≤ x1 then (if x1 < (x0.length : Int) then ((machine_Info.f (wrap64 (Go.bits .and .u32 (rd x0 x1) 63))).bind fun bt110 => (if bt110.2.2.2.2.2.2.2 = true then (encoding_Decode.j1 k x0 x1 (rd x0 x1) (decide ((wrap64 ((x0.length : Int) - x1)) < bt110.2.2.2.2.2.2.1)) (wrap64 (Go.bits .and .u32 (rd x0 x1) 63)) 0 0 0 0 bt110.1 bt110.2.1 bt110.2.2.1 bt110.2.2.2.1 bt110.2.2.2.2.1 bt110.2.2.2.2.2.1 bt110.2.2.2.2.2.2.1) else (encoding_Decode.j1 k x0 x1 (rd x0 x1) true (wrap64 (Go.bits .and .u32 (rd x0 x1) 63)) 0 0 0 0 bt110.1 bt110.2.1 bt110.2.2.1 bt110.2.2.2.1 bt110.2.2.2.2.1 bt110.2.2.2.2.2.1 bt110.2.2.2.2.2.2.1))) else (none)) else (none))
def encoding_Decode.j1 : Nat → List Int → Int → Int → Bool → Int → Int → Int → Int → Int → ByteArray → Int → Bool → Bool → Bool → Bool → Int → Option (Int × Int × Int × Int × Int × Int × Int)
  | 0, _, _, _, _, _, _, _, _, _, _, _, _, _, _, _, _ => none
  | k + 1, x0, x1, x7, x50, x110000, x110001, x110002, x110003, x110004, x119000, x119001, x119002, x119003, x119004, x119005, x119006 => if x50 = true then (some (0, 0, 0, 0, 0, 0, 204)) else ((encoding_shift.f x119001).bind fun t119 => (if 0 ≤ t119 then (if x119001 = 2 then (encoding_Decode.j2 k x0 x1 x110000 (wrap64 (Go.bits .and .u32 (x7 / 64) 7)) x110002 x110003 x110004 x119000 x119001 x119002 x119003 x119004 x119005 x119006) else (if x119001 = 3 then (encoding_Decode.j2 k x0 x1 x110000 (wrap64 (Go.bits .and .u32 (x7 / 64) 7)) (wrap64 (Go.bits .and .u32 (x7 / 512) 7)) x110003 x110004 x119000 x119001 x119002 x119003 x119004 x119005 x119006) else (if x119001 = 4 then (encoding_Decode.j2 k x0 x1 x110000 (wrap64 (Go.bits .and .u32 (x7 / 64) 7)) (wrap64 (Go.bits .and .u32 (x7 / 512) 7)) (wrap64 (Go.bits .and .u32 (x7 / 4096) 7)) x110004 x119000 x119001 x119002 x119003 x119004 x119005 x119006) else (if x119001 = 5 then (encoding_Decode.j2 k x0 x1 x110000 (wrap64 (Go.bits .and .u32 (x7 / 64) 7)) x110002 x110003 (wrap64 (shr .i32 (wrap32 (x7)) t119)) x119000 x119001 x119002 x119003 x119004 x119005 x119006) else (if x119001 = 6 then (if 0 ≤ (wrap64 (x1 + 1)) then (if (wrap64 (x1 + 1)) < (x0.length : Int) then (if 0 ≤ (wrap64 (x1 + 2)) then (if (wrap64 (x1 + 2)) < (x0.length : Int) then (encoding_Decode.j2 k x0 x1 x110000 (wrap64 (Go.bits .and .u32 (x7 / 64) 7)) x110002 x110003 (wrap64 (Go.bits .or .u64 (IntKind.u64.wrap (rd x0 (wrap64 (x1 + 1)))) (IntKind.u64.wrap ((IntKind.u64.wrap (rd x0 (wrap64 (x1 + 2)))) * 4294967296)))) x119000 x119001 x119002 x119003 x119004 x119005 x119006) else (none)) else (none)) else (none)) else (none)) else (if x119001 = 7 then (encoding_Decode.j2 k x0 x1 x110000 (wrap64 (Go.bits .and .u32 (x7 / 64) 7)) (wrap64 (Go.bits .and .u32 (x7 / 512) 7)) x110003 (wrap64 (shr .i32 (wrap32 (x7)) t119)) x119000 x119001 x119002 x119003 x119004 x119005 x119006) else (if x119001 = 8 then (encoding_Decode.j2 k x0 x1 x110000 x110001 x110002 x110003 (wrap64 (shr .i32 (wrap32 (x7)) t119)) x119000 x119001 x119002 x119003 x119004 x119005 x119006) else (encoding_Decode.j2 k x0 x1 x110000 x110001 x110002 x110003 x110004 x119000 x119001 x119002 x119003 x119004 x119005 x119006)))))))) else (none)))
def encoding_Decode.j2 : Nat → List Int → Int → Int → Int → Int → Int → Int → ByteArray → Int → Bool → Bool → Bool → Bool → Int → Option (Int × Int × Int × Int × Int × Int × Int)
  | 0, _, _, _, _, _, _, _, _, _, _, _, _, _, _ => none
  | k + 1, x0, x1, x110000, x110001, x110002, x110003, x110004, x119000, x119001, x119002, x119003, x119004, x119005, x119006 => (machine_Valid.f x110000 x110001 x110002 x110003 x110004).bind fun t122 => (if t122 = true then ((encoding_appendInstr.f ([] : List Int) x110000 x110001 x110002 x110003 x110004).bind fun t123 => (encoding_Decode.l0 k x0 x1 t123 (t123.length : Int) 0 x110000 x110001 x110002 x110003 x110004 x119000 x119001 x119002 x119003 x119004 x119005 x119006)) else (some (0, 0, 0, 0, 0, 0, 204)))
def encoding_Decode.l0 : Nat → List Int → Int → List Int → Int → Int → Int → Int → Int → Int → Int → ByteArray → Int → Bool → Bool → Bool → Bool → Int → Option (Int × Int × Int × Int × Int × Int × Int)
  | 0, _, _, _, _, _, _, _, _, _, _, _, _, _, _, _, _, _ => none
  | k + 1, x0, x1, x134, x135, x136, x110000, x110001, x110002, x110003, x110004, x119000, x119001, x119002, x119003, x119004, x119005, x119006 => if x136 < x135 then (if 0 ≤ x136 then (if x136 < (x134.length : Int) then (if 0 ≤ (wrap64 (x1 + x136)) then (if (wrap64 (x1 + x136)) < (x0.length : Int) then (if (rd x0 (wrap64 (x1 + x136))) = (rd x134 x136) then (encoding_Decode.l0 k x0 x1 x134 x135 (wrap64 (x136 + 1)) x110000 x110001 x110002 x110003 x110004 x119000 x119001 x119002 x119003 x119004 x119005 x119006) else (some (0, 0, 0, 0, 0, 0, 204))) else (none)) else (none)) else (none)) else (none)) else (some (x110000, x110001, x110002, x110003, x110004, x119006, 0))
end
def encoding_Decode.f (k : Nat) (l0 : List Int) (a1 : Int) : Option (Int × Int × Int × Int × Int × Int × Int) := if a1 < 0 then (encoding_Decode.j0 k l0 a1 true) else (encoding_Decode.j0 k l0 a1 (decide (a1 ≥ (l0.length : Int))))
theorem encoding_Decode.mono_l : ∀ k, (∀ y0 y1 y2, LeO (encoding_Decode.j0 k y0 y1 y2) (encoding_Decode.j0 (k + 1) y0 y1 y2)) ∧ (∀ y0 y1 y2 y3 y4 y5 y6 y7 y8 y9 y10 y11 y12 y13 y14 y15, LeO (encoding_Decode.j1 k y0 y1 y2 y3 y4 y5 y6 y7 y8 y9 y10 y11 y12 y13 y14 y15) (encoding_Decode.j1 (k + 1) y0 y1 y2 y3 y4 y5 y6 y7 y8 y9 y10 y11 y12 y13 y14 y15)) ∧ (∀ y0 y1 y2 y3 y4 y5 y6 y7 y8 y9 y10 y11 y12 y13, LeO (encoding_Decode.j2 k y0 y1 y2 y3 y4 y5 y6 y7 y8 y9 y10 y11 y12 y13) (encoding_Decode.j2 (k + 1) y0 y1 y2 y3 y4 y5 y6 y7 y8 y9 y10 y11 y12 y13)) ∧ (∀ y0 y1 y2 y3 y4 y5 y6 y7 y8 y9 y10 y11 y12 y13 y14 y15 y16, LeO (encoding_Decode.l0 k y0 y1 y2 y3 y4 y5 y6 y7 y8 y9 y10 y11 y12 y13 y14 y15 y16) (encoding_Decode.l0 (k + 1) y0 y1 y2 y3 y4 y5 y6 y7 y8 y9 y10 y11 y12 y13 y14 y15 y16))
  | 0 => ⟨fun _ _ _ r h => by simp [encoding_Decode.j0] at h, fun _ _ _ _ _ _ _ _ _ _ _ _ _ _ _ _ r h => by simp [encoding_Decode.j1] at h, fun _ _ _ _ _ _ _ _ _ _ _ _ _ _ r h => by simp [encoding_Decode.j2] at h, fun _ _ _ _ _ _ _ _ _ _ _ _ _ _ _ _ _ r h => by simp [encoding_Decode.l0] at h⟩
  | k + 1 => by
    obtain ⟨ih0, ih1, ih2, ih3⟩ := encoding_Decode.mono_l k
    refine ⟨?_, ?_, ?_, ?_⟩
    · intro y0 y1 y2
      unfold encoding_Decode.j0
      repeat' first
      | (with_reducible exact ih0 _ _ _)
      | (with_reducible exact ih1 _ _ _ _ _ _ _ _ _ _ _ _ _ _ _ _)
      | (with_reducible exact ih2 _ _ _ _ _ _ _ _ _ _ _ _ _ _)
      | (with_reducible exact ih3 _ _ _ _ _ _ _ _ _ _ _ _ _ _ _ _ _)
      | (with_reducible exact LeO.refl _)
      | (with_reducible exact LeO.none _)
      | (with_reducible refine LeO.ite ?_ ?_)
      | (with_reducible refine LeO.bind ?_ (fun _ => ?_))
      | exact ih0 _ _ _
      | exact ih1 _ _ _ _ _ _ _ _ _ _ _ _ _ _ _ _
      | exact ih2 _ _ _ _ _ _ _ _ _ _ _ _ _ _
      | exact ih3 _ _ _ _ _ _ _ _ _ _ _ _ _ _ _ _ _
      | exact LeO.none _
      | refine LeO.ite ?_ ?_
      | refine LeO.bind ?_ (fun _ => ?_)
    · intro y0 y1 y2 y3 y4 y5 y6 y7 y8 y9 y10 y11 y12 y13 y14 y15
      unfold encoding_Decode.j1
      repeat' first
      | (with_reducible exact ih0 _ _ _)
      | (with_reducible exact ih1 _ _ _ _ _ _ _ _ _ _ _ _ _ _ _ _)
      | (with_reducible exact ih2 _ _ _ _ _ _ _ _ _ _ _ _ _ _)
      | (with_reducible exact ih3 _ _ _ _ _ _ _ _ _ _ _ _ _ _ _ _ _)
      | (with_reducible exact LeO.refl _)
      | (with_reducible exact LeO.none _)
      | (with_reducible refine LeO.ite ?_ ?_)
      | (with_reducible refine LeO.bind ?_ (fun _ => ?_))
      | exact ih0 _ _ _
      | exact ih1 _ _ _ _ _ _ _ _ _ _ _ _ _ _ _ _
      | exact ih2 _ _ _ _ _ _ _ _ _ _ _ _ _ _
      | exact ih3 _ _ _ _ _ _ _ _ _ _ _ _ _ _ _ _ _
      | exact LeO.none _
      | refine LeO.ite ?_ ?_
      | refine LeO.bind ?_ (fun _ => ?_)
    · intro y0 y1 y2 y3 y4 y5 y6 y7 y8 y9 y10 y11 y12 y13
      unfold encoding_Decode.j2
      repeat' first
      | (with_reducible exact ih0 _ _ _)
      | (with_reducible exact ih1 _ _ _ _ _ _ _ _ _ _ _ _ _ _ _ _)
      | (with_reducible exact ih2 _ _ _ _ _ _ _ _ _ _ _ _ _ _)
      | (with_reducible exact ih3 _ _ _ _ _ _ _ _ _ _ _ _ _ _ _ _ _)
      | (with_reducible exact LeO.refl _)
      | (with_reducible exact LeO.none _)
      | (with_reducible refine LeO.ite ?_ ?_)
      | (with_reducible refine LeO.bind ?_ (fun _ => ?_))
      | exact ih0 _ _ _
      | exact ih1 _ _ _ _ _ _ _ _ _ _ _ _ _ _ _ _
      | exact ih2 _ _ _ _ _ _ _ _ _ _ _ _ _ _
      | exact ih3 _ _ _ _ _ _ _ _ _ _ _ _ _ _ _ _ _
      | exact LeO.none _
      | refine LeO.ite ?_ ?_
      | refine LeO.bind ?_ (fun _ => ?_)
    · intro y0 y1 y2 y3 y4 y5 y6 y7 y8 y9 y10 y11 y12 y13 y14 y15 y16
      unfold encoding_Decode.l0
      repeat' first
      | (with_reducible exact ih0 _ _ _)
      | (with_reducible exact ih1 _ _ _ _ _ _ _ _ _ _ _ _ _ _ _ _)
      | (with_reducible exact ih2 _ _ _ _ _ _ _ _ _ _ _ _ _ _)
      | (with_reducible exact ih3 _ _ _ _ _ _ _ _ _ _ _ _ _ _ _ _ _)
      | (with_reducible exact LeO.refl _)
      | (with_reducible exact LeO.none _)
      | (with_reducible refine LeO.ite ?_ ?_)
      | (with_reducible refine LeO.bind ?_ (fun _ => ?_))
      | exact ih0 _ _ _
      | exact ih1 _ _ _ _ _ _ _ _ _ _ _ _ _ _ _ _
      | exact ih2 _ _ _ _ _ _ _ _ _ _ _ _ _ _
      | exact ih3 _ _ _ _ _ _ _ _ _ _ _ _ _ _ _ _ _
      | exact LeO.none _
      | refine LeO.ite ?_ ?_
      | refine LeO.bind ?_ (fun _ => ?_)
theorem encoding_Decode.mono : ∀ a0 a1 k, LeO (encoding_Decode.f k a0 a1) (encoding_Decode.f (k + 1) a0 a1) := by
  intro a0 a1 k
  obtain ⟨ih0, ih1, ih2, ih3⟩ := encoding_Decode.mono_l k
  unfold encoding_Decode.f
  repeat' first
      | (with_reducible exact ih0 _ _ _)
      | (with_reducible exact ih1 _ _ _ _ _ _ _ _ _ _ _ _ _ _ _ _)
      | (with_reducible exact ih2 _ _ _ _ _ _ _ _ _ _ _ _ _ _)
      | (with_reducible exact ih3 _ _ _ _ _ _ _ _ _ _ _ _ _ _ _ _ _)
      | (with_reducible exact LeO.refl _)
      | (with_reducible exact LeO.none _)
      | (with_reducible refine LeO.ite ?_ ?_)
      | (with_reducible refine LeO.bind ?_ (fun _ => ?_))
      | exact ih0 _ _ _
      | exact ih1 _ _ _ _ _ _ _ _ _ _ _ _ _ _ _ _
      | exact ih2 _ _ _ _ _ _ _ _ _ _ _ _ _ _
      | exact ih3 _ _ _ _ _ _ _ _ _ _ _ _ _ _ _ _ _
      | exact LeO.none _
      | refine LeO.ite ?_ ?_
      | refine LeO.bind ?_ (fun _ => ?_)
def encoding_Decode.T20 : Bool × List (List Nat × List Nat) := (true, [([], []), ([], []), ([], []), ([2], [2]), ([1, 3], [1, 3]), ([4], [4]), ([5], [5]), ([], []), ([], []), ([8], [8]), ([7, 9], [7, 9]), ([10], [10]), ([11], [11]), ([12], [12]), ([6, 13], [6, 13]), ([14], [14]), ([0], []), ([16, 0, 0], [0, 16]), ([0, 1, 2, 3, 4, 5, 6, 7, 8, 9, 10, 11, 12, 13, 14, 15, 16, 17], []), ([18, 15, 17, 0, 1, 2, 3, 4, 5, 6, 7, 8, 9, 10, 11, 12, 13, 14, 15, 16, 17], [15, 18])])
def encoding_Decode.B20 : List Nat := [0, 0, 0, 4, 14, 30, 62, 0, 0, 256, 896, 1920, 3968, 8064, 16382, 32766, 1, 65537, 262143, 524287]
theorem encoding_Decode.tab20 : rtab .any (opsOf Tryd.f34 20) = encoding_Decode.T20 := by kernel_rfl
theorem encoding_Decode.bits20 : waitsOk encoding_Decode.T20.2 encoding_Decode.B20 = true := by kernel_rfl
set_option maxHeartbeats 8000000 in
set_option maxRecDepth 100000 in
theorem encoding_Decode.calls (k : Nat) (A0 : Option Addr) (c0 : Nat) (l0 : List Int) (a1 : Int) (r1 : Int) (r2 : Int) (r3 : Int) (r4 : Int) (r5 : Int) (r6 : Int) (r7 : Int) (w : World) (hr0 : Kd.C (Kd.int .u32) w A0 l0.length l0) (hc0 : l0.length ≤ c0) (h : encoding_Decode.f k l0 a1 = some (r1, r2, r3, r4, r5, r6, r7)) (HT : Aside0 (TabOK w)) :
    Calls Tryd.prog 34 #[.slice A0 l0.length c0, .int .i64 a1] w fun e w' => e = .returned (.tuple #[.agg #[.int .i64 r1, .int .i64 r2, .int .i64 r3, .int .i64 r4, .int .i64 r5], .int .i64 r6, .int .i64 r7]) ∧ Below w.heap.size w w' := by
  have hu42 := Tryd.underlying42
  have hu87 := Tryd.underlying87
  have HR0 := Aside0.mk hr0
  have HC0 := Aside0.mk hc0
  clear hr0 hc0
  have HB := Aside0.mk (Below.refl w.heap.size w)
  have H : (if a1 < 0 then (encoding_Decode.j0 k l0 a1 true) else (encoding_Decode.j0 k l0 a1 (decide (a1 ≥ (l0.length : Int))))) = some (r1, r2, r3, r4, r5, r6, r7) := h
  clear h
  have HC3 := Aside0.mk H
  clear H
  go_enter Tryd.func34, Tryd.ntmps34
  go_upto_region 1 with (first | ((with_reducible refine gate_dst (N := 4) rfl ?_); (try (refine gate_guard (by rfl) ?_; dsimp only)); refine box_event ?hg (N := 4) ?hd (cs := #[.int .i64 0, .int .i64 0, .int .i64 0, .int .i64 0, .int .i64 0]) (t := 42) ?hr ?_; (case hd => rfl); (case hg => rfl); (case hr => first | (go_simp; done) | (go_simp; rfl)); intro gb107 hg w4 hbox hb; have n0_ := Aside0.mk (below_step (by repeat (first | (with_reducible first | exact HB.out | apply below_alloc | apply pw_below_drewN | apply below_drew1) | exact HB.out)) hb); have n1_ := Aside0.mk (hbox); have n2_ := Aside0.mk ((by rw [hg]; exact (below_size (by repeat (first | (with_reducible first | exact HB.out | apply below_alloc | apply pw_below_drewN | apply below_drew1) | exact HB.out))) : w.heap.size ≤ gb107)); have n3_ := Aside0.mk ((by rw [hg]; exact (below_size (by repeat (first | (with_reducible first | exact HB.out | apply below_alloc | apply pw_below_drewN | apply below_drew1) | exact HB.out))) : w.heap.size ≤ gb107)); clear HB; have HB := n0_; have BK107 := n1_; have GW107 := n2_; have GE107 := n3_; clear n0_ n1_ n2_ n3_; clear hb hbox hg))
  (try simp only [Act.put, List.setIfInBounds_toArray, List.set_cons_zero, List.set_cons_succ])
  go_cut [24] (fun v24 wc => ∃ (kq : Nat) (x24_2 : Bool), v24 = .bool x24_2 ∧ Aside0 (encoding_Decode.j0 kq l0 a1 x24_2 = some (r1, r2, r3, r4, r5, r6, r7)) ∧ Aside0 (kq ≤ k) ∧ Aside0 (wc.heap[gb107]? = some (.cells #[.int .i64 0, .int .i64 0, .int .i64 0, .int .i64 0, .int .i64 0] 42 (0, 0))) ∧ Aside0 (Below w.heap.size w wc))
  case first =>
    have H := HC3.out
    clear HC3
    by_cases c5 : a1 < 0
    · rw [if_pos c5] at H
      have c5b0 : decide (a1 < 0) = true := decide_eq_true c5
      clear c5
      (first | rw [c5b0] | (simp only [i64_w, i32_w]; rw [c5b0]) | skip)
      have H' := Aside0.mk H
      clear H
      go_wp2
      go_meet
      case rel => exact ⟨_, (true), (by first | rfl | (simp; done) | (simp [*]; done)), H', ⟨by first | omega | exact Nat.le_refl _⟩, ⟨by (with_reducible repeat (first | refine blk_drewN ?_ _ | refine blk_drew ?_ | refine blk_alloc ?_ _)); exact BK107.out⟩, ⟨by repeat (first | (with_reducible first | exact HB.out | apply below_alloc | apply pw_below_drewN | apply below_drew1 | refine below_set ?_ GE107.out) | exact HB.out)⟩⟩
    · rw [if_neg c5] at H
      have c5b0 : decide (a1 < 0) = false := decide_eq_false c5
      clear c5
      (first | rw [c5b0] | (simp only [i64_w, i32_w]; rw [c5b0]) | skip)
      have H' := Aside0.mk H
      clear H
      go_wp2
      go_meet
      case rel => exact ⟨_, (decide (a1 ≥ (l0.length : Int))), (by first | rfl | (simp; done) | (simp [*]; done)), H', ⟨by first | omega | exact Nat.le_refl _⟩, ⟨by (with_reducible repeat (first | refine blk_drewN ?_ _ | refine blk_drew ?_ | refine blk_alloc ?_ _)); exact BK107.out⟩, ⟨by repeat (first | (with_reducible first | exact HB.out | apply below_alloc | apply pw_below_drewN | apply below_drew1 | refine below_set ?_ GE107.out) | exact HB.out)⟩⟩
  case rest =>
    clear HC3
    try clear p2
    try clear c3
    try clear c5
    try clear c5b0
    obtain ⟨kq, x24_2, rfl, HA, HJ2, BK107, HB⟩ := hcut
    cases kq with
    | zero => exact absurd HA.out (by simp [encoding_Decode.j0])
    | succ kj2 =>
      have H := HA.out
      clear HA
      simp only [encoding_Decode.j0] at H
      by_cases c6 : x24_2 = true
      · subst c6
        have H1 : (some (0, 0, 0, 0, 0, 0, 204)) = some (r1, r2, r3, r4, r5, r6, r7) := by rw [if_pos rfl] at H; exact H
        clear H
        have H := H1
        clear H1
        simp only [Option.some.injEq, Prod.mk.injEq] at H
        obtain ⟨rfl, rfl, rfl, rfl, rfl, rfl, rfl⟩ := H
        have hcz7_0 : wc.cell? ⟨gb107, 0, none⟩ = some (.int .i64 0) := (blk_cell BK107.out 0).trans rfl
        have hcz7_1 : wc.cell? ⟨gb107, 1, none⟩ = some (.int .i64 0) := (blk_cell BK107.out 1).trans rfl
        have hcz7_2 : wc.cell? ⟨gb107, 2, none⟩ = some (.int .i64 0) := (blk_cell BK107.out 2).trans rfl
        have hcz7_3 : wc.cell? ⟨gb107, 3, none⟩ = some (.int .i64 0) := (blk_cell BK107.out 3).trans rfl
        have hcz7_4 : wc.cell? ⟨gb107, 4, none⟩ = some (.int .i64 0) := (blk_cell BK107.out 4).trans rfl
        have hfz7_0 := blk_frozen BK107.out 0
        have hfz7_1 := blk_frozen BK107.out 1
        have hfz7_2 := blk_frozen BK107.out 2
        have hfz7_3 := blk_frozen BK107.out 3
        have hfz7_4 := blk_frozen BK107.out 4
        go_wp2
        refine bodyPost_ret (results_ctt rfl _ _ gb107 42 #[.int .i64 0, .int .i64 0, .int .i64 0, .int .i64 0, .int .i64 0] (0, 0) _ rfl (by (with_reducible repeat (first | refine blk_drewN ?_ _ | refine blk_drew ?_ | refine blk_alloc ?_ _)); refine blk_put (cs := #[.int .i64 0, .int .i64 0, .int .i64 0, .int .i64 0, .int .i64 0]) ?_ 4 _ rfl; (with_reducible repeat (first | refine blk_drewN ?_ _ | refine blk_drew ?_ | refine blk_alloc ?_ _)); refine blk_put (cs := #[.int .i64 0, .int .i64 0, .int .i64 0, .int .i64 0, .int .i64 0]) ?_ 3 _ rfl; (with_reducible repeat (first | refine blk_drewN ?_ _ | refine blk_drew ?_ | refine blk_alloc ?_ _)); refine blk_put (cs := #[.int .i64 0, .int .i64 0, .int .i64 0, .int .i64 0, .int .i64 0]) ?_ 2 _ rfl; (with_reducible repeat (first | refine blk_drewN ?_ _ | refine blk_drew ?_ | refine blk_alloc ?_ _)); refine blk_put (cs := #[.int .i64 0, .int .i64 0, .int .i64 0, .int .i64 0, .int .i64 0]) ?_ 1 _ rfl; (with_reducible repeat (first | refine blk_drewN ?_ _ | refine blk_drew ?_ | refine blk_alloc ?_ _)); refine blk_put (cs := #[.int .i64 0, .int .i64 0, .int .i64 0, .int .i64 0, .int .i64 0]) ?_ 0 _ rfl; (with_reducible repeat (first | refine blk_drewN ?_ _ | refine blk_drew ?_ | refine blk_alloc ?_ _)); exact BK107.out) Tryd.underlying42 rfl (by kernel_rfl)) rfl ?_
        exact ⟨by first | rfl | (simp [errW_none, errW_some] <;> rfl) | (simp [*, errW_none, errW_some] <;> rfl), by repeat (first | (with_reducible first | exact HB.out | apply below_alloc | apply pw_below_drewN | apply below_drew1 | refine below_set ?_ GE107.out) | exact HB.out)⟩
      · replace c6 := Bool.eq_false_iff.mpr c6
        subst c6
        have H1 : (if 0 ≤ a1 then (if a1 < (l0.length : Int) then ((machine_Info.f (wrap64 (Go.bits .and .u32 (rd l0 a1) 63))).bind fun bt110 => (if bt110.2.2.2.2.2.2.2 = true then (encoding_Decode.j1 kj2 l0 a1 (rd l0 a1) (decide ((wrap64 ((l0.length : Int) - a1)) < bt110.2.2.2.2.2.2.1)) (wrap64 (Go.bits .and .u32 (rd l0 a1) 63)) 0 0 0 0 bt110.1 bt110.2.1 bt110.2.2.1 bt110.2.2.2.1 bt110.2.2.2.2.1 bt110.2.2.2.2.2.1 bt110.2.2.2.2.2.2.1) else (encoding_Decode.j1 kj2 l0 a1 (rd l0 a1) true (wrap64 (Go.bits .and .u32 (rd l0 a1) 63)) 0 0 0 0 bt110.1 bt110.2.1 bt110.2.2.1 bt110.2.2.2.1 bt110.2.2.2.2.1 bt110.2.2.2.2.2.1 bt110.2.2.2.2.2.2.1))) else (none)) else (none)) = some (r1, r2, r3, r4, r5, r6, r7) := by rw [if_neg (show ¬ (false = true) by decide)] at H; exact H
        clear H
        have H := H1
        clear H1
        by_cases c8 : 0 ≤ a1
        · rw [if_pos c8] at H
          have c8b0 : decide (0 ≤ a1) = true := decide_eq_true c8
          clear c8
          by_cases c9 : a1 < (l0.length : Int)
          · rw [if_pos c9] at H
            have c9b0 : decide (a1 < (l0.length : Int)) = true := decide_eq_true c9
            clear c9
            replace H := Option.bind_eq_some_iff.mp H
            obtain ⟨⟨t110, t111, t112, t113, t114, t115, t116, t117⟩, A100, H⟩ := H
            replace H : (if t117 = true then (encoding_Decode.j1 kj2 l0 a1 (rd l0 a1) (decide ((wrap64 ((l0.length : Int) - a1)) < t116)) (wrap64 (Go.bits .and .u32 (rd l0 a1) 63)) 0 0 0 0 t110 t111 t112 t113 t114 t115 t116) else (encoding_Decode.j1 kj2 l0 a1 (rd l0 a1) true (wrap64 (Go.bits .and .u32 (rd l0 a1) 63)) 0 0 0 0 t110 t111 t112 t113 t114 t115 t116)) = some (r1, r2, r3, r4, r5, r6, r7) := H
            have A10 := Aside0.mk A100
            clear A100
            have HC11 := Aside0.mk H
            clear H
            have p108 : 0 ≤ (a1 : Int) := of_decide_eq_true (by first | (with_reducible assumption) | assumption)
            have q108 : a1 < (l0.length : Int) := of_decide_eq_true (by first | (with_reducible assumption) | assumption)
            obtain ⟨ad108, e108, hx108_0⟩ := Kd.at_int HR0.out a1 p108 q108
            cases e108
            replace hx108_0 := (HB.out.cell (World.block_lt_of_cell? w _ hx108_0)).trans hx108_0
            replace p108 := eq_true p108
            replace q108 := eq_true q108
            go_upto_region 6 with (first | ((with_reducible refine gate_dst (N := 8) rfl ?_); (try (refine gate_guard (by rfl) ?_; dsimp only)); refine box_event ?hg (N := 8) ?hd (cs := #[.int .i64 0, .int .i64 0, .int .i64 0, .int .i64 0, .int .i64 0]) (t := 42) ?hr ?_; (case hd => rfl); (case hg => rfl); (case hr => first | (go_simp; done) | (go_simp; rfl)); intro gb109 hg w12 hbox hb; have n0_ := Aside0.mk (blk_below (g := gb107) (o := .cells #[.int .i64 0, .int .i64 0, .int .i64 0, .int .i64 0, .int .i64 0] 42 (0, 0)) (by (with_reducible repeat (first | refine blk_drewN ?_ _ | refine blk_drew ?_ | refine blk_alloc ?_ _)); exact BK107.out) hb); have n1_ := Aside0.mk (below_step (by repeat (first | (with_reducible first | exact HB.out | apply below_alloc | apply pw_below_drewN | apply below_drew1 | refine below_set ?_ GE107.out) | exact HB.out)) hb); have n2_ := Aside0.mk (hbox); have n3_ := Aside0.mk ((by rw [hg]; exact (below_size (by repeat (first | (with_reducible first | exact HB.out | apply below_alloc | apply pw_below_drewN | apply below_drew1 | refine below_set ?_ GE107.out) | exact HB.out))) : w.heap.size ≤ gb109)); have n4_ := Aside0.mk ((by rw [hg]; exact (below_size (by repeat (first | (with_reducible first | exact HB.out | apply below_alloc | apply pw_below_drewN | apply below_drew1 | refine below_set ?_ GE107.out) | exact HB.out))) : w.heap.size ≤ gb109)); have n5_ := Aside0.mk ((by rw [hg]; exact Nat.ne_of_lt (blk_lt (g := gb107) (o := .cells #[.int .i64 0, .int .i64 0, .int .i64 0, .int .i64 0, .int .i64 0] 42 (0, 0)) (by (with_reducible repeat (first | refine blk_drewN ?_ _ | refine blk_drew ?_ | refine blk_alloc ?_ _)); exact BK107.out)) : gb107 ≠ gb109)); have n6_ := Aside0.mk ((by rw [hg]; exact Nat.ne_of_gt (blk_lt (g := gb107) (o := .cells #[.int .i64 0, .int .i64 0, .int .i64 0, .int .i64 0, .int .i64 0] 42 (0, 0)) (by (with_reducible repeat (first | refine blk_drewN ?_ _ | refine blk_drew ?_ | refine blk_alloc ?_ _)); exact BK107.out)) : gb109 ≠ gb107)); clear BK107; clear HB; have BK107 := n0_; have HB := n1_; have BK109 := n2_; have GW109 := n3_; have GE109 := n4_; have NB107_109 := n5_; have NB109_107 := n6_; clear n0_ n1_ n2_ n3_ n4_ n5_ n6_; clear hb hbox hg; have hnb13 := NB109_107.out; have hnc13 := NB107_109.out; have hcz14_0 : w12.cell? ⟨gb109, 0, none⟩ = some (.int .i64 0) := (blk_cell BK109.out 0).trans rfl; have hcz14_1 : w12.cell? ⟨gb109, 1, none⟩ = some (.int .i64 0) := (blk_cell BK109.out 1).trans rfl; have hcz14_2 : w12.cell? ⟨gb109, 2, none⟩ = some (.int .i64 0) := (blk_cell BK109.out 2).trans rfl; have hcz14_3 : w12.cell? ⟨gb109, 3, none⟩ = some (.int .i64 0) := (blk_cell BK109.out 3).trans rfl; have hcz14_4 : w12.cell? ⟨gb109, 4, none⟩ = some (.int .i64 0) := (blk_cell BK109.out 4).trans rfl; have hfz14_0 := blk_frozen BK109.out 0; have hfz14_1 := blk_frozen BK109.out 1; have hfz14_2 := blk_frozen BK109.out 2; have hfz14_3 := blk_frozen BK109.out 3; have hfz14_4 := blk_frozen BK109.out 4) | ((with_reducible refine gate_callee (f := 59) rfl ?_); refine goesL_ (some 37) rfl rfl Tryd.func59 (by kernel_rfl) rfl #[.int .i64 (wrap64 (Go.bits .and .u32 (rd l0 a1) 63))] rfl (by (try simp only [List.map_toArray, List.map_cons, List.map_nil]); first | done | rfl | (simp only [List.length_drop, List.length_take]; rfl)) ?_; (with_reducible refine (machine_Info.calls (wrap64 (Go.bits .and .u32 (rd l0 a1) 63)) t110 t111 t112 t113 t114 t115 t116 t117 _ A10.out ?side1).mono ?_); (case side1 => exact TabOK.aside HT.out (by repeat (first | (with_reducible first | exact HB.out | apply below_alloc | apply pw_below_drewN | apply below_drew1 | refine below_set ?_ GE107.out | refine below_set ?_ GE109.out) | exact HB.out))); rintro e w15 ⟨rfl, hb⟩; refine ⟨_, rfl, ?_⟩; have n0_ := Aside0.mk (blk_below (g := gb107) (o := .cells #[.int .i64 0, .int .i64 0, .int .i64 0, .int .i64 0, .int .i64 0] 42 (0, 0)) (by (with_reducible repeat (first | refine blk_drewN ?_ _ | refine blk_drew ?_ | refine blk_alloc ?_ _)); refine blk_far ?_ NB107_109.out _; (with_reducible repeat (first | refine blk_drewN ?_ _ | refine blk_drew ?_ | refine blk_alloc ?_ _)); refine blk_far ?_ NB107_109.out _; (with_reducible repeat (first | refine blk_drewN ?_ _ | refine blk_drew ?_ | refine blk_alloc ?_ _)); refine blk_far ?_ NB107_109.out _; (with_reducible repeat (first | refine blk_drewN ?_ _ | refine blk_drew ?_ | refine blk_alloc ?_ _)); refine blk_far ?_ NB107_109.out _; (with_reducible repeat (first | refine blk_drewN ?_ _ | refine blk_drew ?_ | refine blk_alloc ?_ _)); refine blk_far ?_ NB107_109.out _; (with_reducible repeat (first | refine blk_drewN ?_ _ | refine blk_drew ?_ | refine blk_alloc ?_ _)); exact BK107.out) hb); have n1_ := Aside0.mk (blk_below (g := gb109) (o := .cells #[.int .i64 (wrap64 (Go.bits .and .u32 (rd l0 a1) 63)), .int .i64 0, .int .i64 0, .int .i64 0, .int .i64 0] 42 (0, 0)) (by (with_reducible repeat (first | refine blk_drewN ?_ _ | refine blk_drew ?_ | refine blk_alloc ?_ _)); refine blk_put (cs := #[.int .i64 (wrap64 (Go.bits .and .u32 (rd l0 a1) 63)), .int .i64 0, .int .i64 0, .int .i64 0, .int .i64 0]) ?_ 4 _ rfl; (with_reducible repeat (first | refine blk_drewN ?_ _ | refine blk_drew ?_ | refine blk_alloc ?_ _)); refine blk_put (cs := #[.int .i64 (wrap64 (Go.bits .and .u32 (rd l0 a1) 63)), .int .i64 0, .int .i64 0, .int .i64 0, .int .i64 0]) ?_ 3 _ rfl; (with_reducible repeat (first | refine blk_drewN ?_ _ | refine blk_drew ?_ | refine blk_alloc ?_ _)); refine blk_put (cs := #[.int .i64 (wrap64 (Go.bits .and .u32 (rd l0 a1) 63)), .int .i64 0, .int .i64 0, .int .i64 0, .int .i64 0]) ?_ 2 _ rfl; (with_reducible repeat (first | refine blk_drewN ?_ _ | refine blk_drew ?_ | refine blk_alloc ?_ _)); refine blk_put (cs := #[.int .i64 (wrap64 (Go.bits .and .u32 (rd l0 a1) 63)), .int .i64 0, .int .i64 0, .int .i64 0, .int .i64 0]) ?_ 1 _ rfl; (with_reducible repeat (first | refine blk_drewN ?_ _ | refine blk_drew ?_ | refine blk_alloc ?_ _)); refine blk_put (cs := #[.int .i64 0, .int .i64 0, .int .i64 0, .int .i64 0, .int .i64 0]) ?_ 0 _ rfl; (with_reducible repeat (first | refine blk_drewN ?_ _ | refine blk_drew ?_ | refine blk_alloc ?_ _)); exact BK109.out) hb); have n2_ := Aside0.mk (below_step (by repeat (first | (with_reducible first | exact HB.out | apply below_alloc | apply pw_below_drewN | apply below_drew1 | refine below_set ?_ GE107.out | refine below_set ?_ GE109.out) | exact HB.out)) hb); clear BK107; clear BK109; clear HB; have BK107 := n0_; have BK109 := n1_; have HB := n2_; clear n0_ n1_ n2_; (try clear hb); (try clear hb2); (try clear hk); (try clear hi)) | ((with_reducible refine gate_dst (N := 9) rfl ?_); (try (refine gate_guard (by rfl) ?_; dsimp only)); refine box_event ?hg (N := 9) ?hd (cs := #[.string (⟨#[]⟩ : ByteArray), .int .i64 0, .bool false, .bool false, .bool false, .bool false, .int .i64 0]) (t := 87) ?hr ?_; (case hd => rfl); (case hg => rfl); (case hr => first | (go_simp; done) | (go_simp; rfl)); intro gb118 hg w16 hbox hb; have n0_ := Aside0.mk (blk_below (g := gb107) (o := .cells #[.int .i64 0, .int .i64 0, .int .i64 0, .int .i64 0, .int .i64 0] 42 (0, 0)) (by (with_reducible repeat (first | refine blk_drewN ?_ _ | refine blk_drew ?_ | refine blk_alloc ?_ _)); exact BK107.out) hb); have n1_ := Aside0.mk (blk_below (g := gb109) (o := .cells #[.int .i64 (wrap64 (Go.bits .and .u32 (rd l0 a1) 63)), .int .i64 0, .int .i64 0, .int .i64 0, .int .i64 0] 42 (0, 0)) (by (with_reducible repeat (first | refine blk_drewN ?_ _ | refine blk_drew ?_ | refine blk_alloc ?_ _)); exact BK109.out) hb); have n2_ := Aside0.mk (below_step (by repeat (first | (with_reducible first | exact HB.out | apply below_alloc | apply pw_below_drewN | apply below_drew1 | refine below_set ?_ GE107.out | refine below_set ?_ GE109.out) | exact HB.out)) hb); have n3_ := Aside0.mk (hbox); have n4_ := Aside0.mk ((by rw [hg]; exact (below_size (by repeat (first | (with_reducible first | exact HB.out | apply below_alloc | apply pw_below_drewN | apply below_drew1 | refine below_set ?_ GE107.out | refine below_set ?_ GE109.out) | exact HB.out))) : w.heap.size ≤ gb118)); have n5_ := Aside0.mk ((by rw [hg]; exact (below_size (by repeat (first | (with_reducible first | exact HB.out | apply below_alloc | apply pw_below_drewN | apply below_drew1 | refine below_set ?_ GE107.out | refine below_set ?_ GE109.out) | exact HB.out))) : w.heap.size ≤ gb118)); have n6_ := Aside0.mk ((by rw [hg]; exact Nat.ne_of_lt (blk_lt (g := gb107) (o := .cells #[.int .i64 0, .int .i64 0, .int .i64 0, .int .i64 0, .int .i64 0] 42 (0, 0)) (by (with_reducible repeat (first | refine blk_drewN ?_ _ | refine blk_drew ?_ | refine blk_alloc ?_ _)); exact BK107.out)) : gb107 ≠ gb118)); have n7_ := Aside0.mk ((by rw [hg]; exact Nat.ne_of_gt (blk_lt (g := gb107) (o := .cells #[.int .i64 0, .int .i64 0, .int .i64 0, .int .i64 0, .int .i64 0] 42 (0, 0)) (by (with_reducible repeat (first | refine blk_drewN ?_ _ | refine blk_drew ?_ | refine blk_alloc ?_ _)); exact BK107.out)) : gb118 ≠ gb107)); have n8_ := Aside0.mk ((by rw [hg]; exact Nat.ne_of_lt (blk_lt (g := gb109) (o := .cells #[.int .i64 (wrap64 (Go.bits .and .u32 (rd l0 a1) 63)), .int .i64 0, .int .i64 0, .int .i64 0, .int .i64 0] 42 (0, 0)) (by (with_reducible repeat (first | refine blk_drewN ?_ _ | refine blk_drew ?_ | refine blk_alloc ?_ _)); exact BK109.out)) : gb109 ≠ gb118)); have n9_ := Aside0.mk ((by rw [hg]; exact Nat.ne_of_gt (blk_lt (g := gb109) (o := .cells #[.int .i64 (wrap64 (Go.bits .and .u32 (rd l0 a1) 63)), .int .i64 0, .int .i64 0, .int .i64 0, .int .i64 0] 42 (0, 0)) (by (with_reducible repeat (first | refine blk_drewN ?_ _ | refine blk_drew ?_ | refine blk_alloc ?_ _)); exact BK109.out)) : gb118 ≠ gb109)); clear BK107; clear BK109; clear HB; have BK107 := n0_; have BK109 := n1_; have HB := n2_; have BK118 := n3_; have GW118 := n4_; have GE118 := n5_; have NB107_118 := n6_; have NB118_107 := n7_; have NB109_118 := n8_; have NB118_109 := n9_; clear n0_ n1_ n2_ n3_ n4_ n5_ n6_ n7_ n8_ n9_; clear hb hbox hg; have hnb17 := NB118_107.out; have hnc17 := NB107_118.out; have hnb18 := NB118_109.out; have hnc18 := NB109_118.out; have hcz19_0 : w16.cell? ⟨gb118, 0, none⟩ = some (.string (⟨#[]⟩ : ByteArray)) := (blk_cell BK118.out 0).trans rfl; have hcz19_1 : w16.cell? ⟨gb118, 1, none⟩ = some (.int .i64 0) := (blk_cell BK118.out 1).trans rfl; have hcz19_2 : w16.cell? ⟨gb118, 2, none⟩ = some (.bool false) := (blk_cell BK118.out 2).trans rfl; have hcz19_3 : w16.cell? ⟨gb118, 3, none⟩ = some (.bool false) := (blk_cell BK118.out 3).trans rfl; have hcz19_4 : w16.cell? ⟨gb118, 4, none⟩ = some (.bool false) := (blk_cell BK118.out 4).trans rfl; have hcz19_5 : w16.cell? ⟨gb118, 5, none⟩ = some (.bool false) := (blk_cell BK118.out 5).trans rfl; have hcz19_6 : w16.cell? ⟨gb118, 6, none⟩ = some (.int .i64 0) := (blk_cell BK118.out 6).trans rfl; have hfz19_0 := blk_frozen BK118.out 0; have hfz19_1 := blk_frozen BK118.out 1; have hfz19_2 := blk_frozen BK118.out 2; have hfz19_3 := blk_frozen BK118.out 3; have hfz19_4 := blk_frozen BK118.out 4; have hfz19_5 := blk_frozen BK118.out 5; have hfz19_6 := blk_frozen BK118.out 6))
            (try simp only [Act.put, List.setIfInBounds_toArray, List.set_cons_zero, List.set_cons_succ])
            go_cut [50] (fun v50 wc => ∃ (kq : Nat) (x50_10 : Bool), v50 = .bool x50_10 ∧ Aside0 (encoding_Decode.j1 kq l0 a1 (rd l0 a1) x50_10 (wrap64 (Go.bits .and .u32 (rd l0 a1) 63)) 0 0 0 0 t110 t111 t112 t113 t114 t115 t116 = some (r1, r2, r3, r4, r5, r6, r7)) ∧ Aside0 (kq ≤ kj2) ∧ Aside0 (wc.heap[gb107]? = some (.cells #[.int .i64 0, .int .i64 0, .int .i64 0, .int .i64 0, .int .i64 0] 42 (0, 0))) ∧ Aside0 (wc.heap[gb109]? = some (.cells #[.int .i64 (wrap64 (Go.bits .and .u32 (rd l0 a1) 63)), .int .i64 0, .int .i64 0, .int .i64 0, .int .i64 0] 42 (0, 0))) ∧ Aside0 (wc.heap[gb118]? = some (.cells #[.string t110, .int .i64 t111, .bool t112, .bool t113, .bool t114, .bool t115, .int .i64 t116] 87 (0, 0))) ∧ Aside0 (Below w.heap.size w wc))
            case first =>
              have H := HC11.out
              clear HC11
              by_cases c20 : t117 = true
              · subst c20
                have H1 : (encoding_Decode.j1 kj2 l0 a1 (rd l0 a1) (decide ((wrap64 ((l0.length : Int) - a1)) < t116)) (wrap64 (Go.bits .and .u32 (rd l0 a1) 63)) 0 0 0 0 t110 t111 t112 t113 t114 t115 t116) = some (r1, r2, r3, r4, r5, r6, r7) := by rw [if_pos rfl] at H; exact H
                clear H
                have H := H1
                clear H1
                have H' := Aside0.mk H
                clear H
                have hnb21 := NB118_107.out
                have hnc21 := NB107_118.out
                have hnb22 := NB118_109.out
                have hnc22 := NB109_118.out
                have hcz23_0 : w16.cell? ⟨gb118, 0, none⟩ = some (.string (⟨#[]⟩ : ByteArray)) := (blk_cell BK118.out 0).trans rfl
                have hcz23_1 : w16.cell? ⟨gb118, 1, none⟩ = some (.int .i64 0) := (blk_cell BK118.out 1).trans rfl
                have hcz23_2 : w16.cell? ⟨gb118, 2, none⟩ = some (.bool false) := (blk_cell BK118.out 2).trans rfl
                have hcz23_3 : w16.cell? ⟨gb118, 3, none⟩ = some (.bool false) := (blk_cell BK118.out 3).trans rfl
                have hcz23_4 : w16.cell? ⟨gb118, 4, none⟩ = some (.bool false) := (blk_cell BK118.out 4).trans rfl
                have hcz23_5 : w16.cell? ⟨gb118, 5, none⟩ = some (.bool false) := (blk_cell BK118.out 5).trans rfl
                have hcz23_6 : w16.cell? ⟨gb118, 6, none⟩ = some (.int .i64 0) := (blk_cell BK118.out 6).trans rfl
                have hfz23_0 := blk_frozen BK118.out 0
                have hfz23_1 := blk_frozen BK118.out 1
                have hfz23_2 := blk_frozen BK118.out 2
                have hfz23_3 := blk_frozen BK118.out 3
                have hfz23_4 := blk_frozen BK118.out 4
                have hfz23_5 := blk_frozen BK118.out 5
                have hfz23_6 := blk_frozen BK118.out 6
                go_wp2
                go_meet
                case rel => exact ⟨_, (decide ((wrap64 ((l0.length : Int) - a1)) < t116)), (by first | rfl | (simp; done) | (simp [*]; done)), H', ⟨by have := HJ2.out; first | omega | exact Nat.le_refl _⟩, ⟨by (with_reducible repeat (first | refine blk_drewN ?_ _ | refine blk_drew ?_ | refine blk_alloc ?_ _)); refine blk_far ?_ NB107_118.out _; (with_reducible repeat (first | refine blk_drewN ?_ _ | refine blk_drew ?_ | refine blk_alloc ?_ _)); refine blk_far ?_ NB107_118.out _; (with_reducible repeat (first | refine blk_drewN ?_ _ | refine blk_drew ?_ | refine blk_alloc ?_ _)); refine blk_far ?_ NB107_118.out _; (with_reducible repeat (first | refine blk_drewN ?_ _ | refine blk_drew ?_ | refine blk_alloc ?_ _)); refine blk_far ?_ NB107_118.out _; (with_reducible repeat (first | refine blk_drewN ?_ _ | refine blk_drew ?_ | refine blk_alloc ?_ _)); refine blk_far ?_ NB107_118.out _; (with_reducible repeat (first | refine blk_drewN ?_ _ | refine blk_drew ?_ | refine blk_alloc ?_ _)); refine blk_far ?_ NB107_118.out _; (with_reducible repeat (first | refine blk_drewN ?_ _ | refine blk_drew ?_ | refine blk_alloc ?_ _)); refine blk_far ?_ NB107_118.out _; (with_reducible repeat (first | refine blk_drewN ?_ _ | refine blk_drew ?_ | refine blk_alloc ?_ _)); exact BK107.out⟩, ⟨by (with_reducible repeat (first | refine blk_drewN ?_ _ | refine blk_drew ?_ | refine blk_alloc ?_ _)); refine blk_far ?_ NB109_118.out _; (with_reducible repeat (first | refine blk_drewN ?_ _ | refine blk_drew ?_ | refine blk_alloc ?_ _)); refine blk_far ?_ NB109_118.out _; (with_reducible repeat (first | refine blk_drewN ?_ _ | refine blk_drew ?_ | refine blk_alloc ?_ _)); refine blk_far ?_ NB109_118.out _; (with_reducible repeat (first | refine blk_drewN ?_ _ | refine blk_drew ?_ | refine blk_alloc ?_ _)); refine blk_far ?_ NB109_118.out _; (with_reducible repeat (first | refine blk_drewN ?_ _ | refine blk_drew ?_ | refine blk_alloc ?_ _)); refine blk_far ?_ NB109_118.out _; (with_reducible repeat (first | refine blk_drewN ?_ _ | refine blk_drew ?_ | refine blk_alloc ?_ _)); refine blk_far ?_ NB109_118.out _; (with_reducible repeat (first | refine blk_drewN ?_ _ | refine blk_drew ?_ | refine blk_alloc ?_ _)); refine blk_far ?_ NB109_118.out _; (with_reducible repeat (first | refine blk_drewN ?_ _ | refine blk_drew ?_ | refine blk_alloc ?_ _)); exact BK109.out⟩, ⟨by (with_reducible repeat (first | refine blk_drewN ?_ _ | refine blk_drew ?_ | refine blk_alloc ?_ _)); refine blk_put (cs := #[.string t110, .int .i64 t111, .bool t112, .bool t113, .bool t114, .bool t115, .int .i64 0]) ?_ 6 _ rfl; (with_reducible repeat (first | refine blk_drewN ?_ _ | refine blk_drew ?_ | refine blk_alloc ?_ _)); refine blk_put (cs := #[.string t110, .int .i64 t111, .bool t112, .bool t113, .bool t114, .bool false, .int .i64 0]) ?_ 5 _ rfl; (with_reducible repeat (first | refine blk_drewN ?_ _ | refine blk_drew ?_ | refine blk_alloc ?_ _)); refine blk_put (cs := #[.string t110, .int .i64 t111, .bool t112, .bool t113, .bool false, .bool false, .int .i64 0]) ?_ 4 _ rfl; (with_reducible repeat (first | refine blk_drewN ?_ _ | refine blk_drew ?_ | refine blk_alloc ?_ _)); refine blk_put (cs := #[.string t110, .int .i64 t111, .bool t112, .bool false, .bool false, .bool false, .int .i64 0]) ?_ 3 _ rfl; (with_reducible repeat (first | refine blk_drewN ?_ _ | refine blk_drew ?_ | refine blk_alloc ?_ _)); refine blk_put (cs := #[.string t110, .int .i64 t111, .bool false, .bool false, .bool false, .bool false, .int .i64 0]) ?_ 2 _ rfl; (with_reducible repeat (first | refine blk_drewN ?_ _ | refine blk_drew ?_ | refine blk_alloc ?_ _)); refine blk_put (cs := #[.string t110, .int .i64 0, .bool false, .bool false, .bool false, .bool false, .int .i64 0]) ?_ 1 _ rfl; (with_reducible repeat (first | refine blk_drewN ?_ _ | refine blk_drew ?_ | refine blk_alloc ?_ _)); refine blk_put (cs := #[.string (⟨#[]⟩ : ByteArray), .int .i64 0, .bool false, .bool false, .bool false, .bool false, .int .i64 0]) ?_ 0 _ rfl; (with_reducible repeat (first | refine blk_drewN ?_ _ | refine blk_drew ?_ | refine blk_alloc ?_ _)); exact BK118.out⟩, ⟨by repeat (first | (with_reducible first | exact HB.out | apply below_alloc | apply pw_below_drewN | apply below_drew1 | refine below_set ?_ GE107.out | refine below_set ?_ GE109.out | refine below_set ?_ GE118.out) | exact HB.out)⟩⟩
              · replace c20 := Bool.eq_false_iff.mpr c20
                subst c20
                have H1 : (encoding_Decode.j1 kj2 l0 a1 (rd l0 a1) true (wrap64 (Go.bits .and .u32 (rd l0 a1) 63)) 0 0 0 0 t110 t111 t112 t113 t114 t115 t116) = some (r1, r2, r3, r4, r5, r6, r7) := by rw [if_neg (show ¬ (false = true) by decide)] at H; exact H
                clear H
                have H := H1
                clear H1
                have H' := Aside0.mk H
                clear H
                go_wp2
                go_meet
                case rel => exact ⟨_, (true), (by first | rfl | (simp; done) | (simp [*]; done)), H', ⟨by have := HJ2.out; first | omega | exact Nat.le_refl _⟩, ⟨by (with_reducible repeat (first | refine blk_drewN ?_ _ | refine blk_drew ?_ | refine blk_alloc ?_ _)); refine blk_far ?_ NB107_118.out _; (with_reducible repeat (first | refine blk_drewN ?_ _ | refine blk_drew ?_ | refine blk_alloc ?_ _)); refine blk_far ?_ NB107_118.out _; (with_reducible repeat (first | refine blk_drewN ?_ _ | refine blk_drew ?_ | refine blk_alloc ?_ _)); refine blk_far ?_ NB107_118.out _; (with_reducible repeat (first | refine blk_drewN ?_ _ | refine blk_drew ?_ | refine blk_alloc ?_ _)); refine blk_far ?_ NB107_118.out _; (with_reducible repeat (first | refine blk_drewN ?_ _ | refine blk_drew ?_ | refine blk_alloc ?_ _)); refine blk_far ?_ NB107_118.out _; (with_reducible repeat (first | refine blk_drewN ?_ _ | refine blk_drew ?_ | refine blk_alloc ?_ _)); refine blk_far ?_ NB107_118.out _; (with_reducible repeat (first | refine blk_drewN ?_ _ | refine blk_drew ?_ | refine blk_alloc ?_ _)); refine blk_far ?_ NB107_118.out _; (with_reducible repeat (first | refine blk_drewN ?_ _ | refine blk_drew ?_ | refine blk_alloc ?_ _)); exact BK107.out⟩, ⟨by (with_reducible repeat (first | refine blk_drewN ?_ _ | refine blk_drew ?_ | refine blk_alloc ?_ _)); refine blk_far ?_ NB109_118.out _; (with_reducible repeat (first | refine blk_drewN ?_ _ | refine blk_drew ?_ | refine blk_alloc ?_ _)); refine blk_far ?_ NB109_118.out _; (with_reducible repeat (first | refine blk_drewN ?_ _ | refine blk_drew ?_ | refine blk_alloc ?_ _)); refine blk_far ?_ NB109_118.out _; (with_reducible repeat (first | refine blk_drewN ?_ _ | refine blk_drew ?_ | refine blk_alloc ?_ _)); refine blk_far ?_ NB109_118.out _; (with_reducible repeat (first | refine blk_drewN ?_ _ | refine blk_drew ?_ | refine blk_alloc ?_ _)); refine blk_far ?_ NB109_118.out _; (with_reducible repeat (first | refine blk_drewN ?_ _ | refine blk_drew ?_ | refine blk_alloc ?_ _)); refine blk_far ?_ NB109_118.out _; (with_reducible repeat (first | refine blk_drewN ?_ _ | refine blk_drew ?_ | refine blk_alloc ?_ _)); refine blk_far ?_ NB109_118.out _; (with_reducible repeat (first | refine blk_drewN ?_ _ | refine blk_drew ?_ | refine blk_alloc ?_ _)); exact BK109.out⟩, ⟨by (with_reducible repeat (first | refine blk_drewN ?_ _ | refine blk_drew ?_ | refine blk_alloc ?_ _)); refine blk_put (cs := #[.string t110, .int .i64 t111, .bool t112, .bool t113, .bool t114, .bool t115, .int .i64 0]) ?_ 6 _ rfl; (with_reducible repeat (first | refine blk_drewN ?_ _ | refine blk_drew ?_ | refine blk_alloc ?_ _)); refine blk_put (cs := #[.string t110, .int .i64 t111, .bool t112, .bool t113, .bool t114, .bool false, .int .i64 0]) ?_ 5 _ rfl; (with_reducible repeat (first | refine blk_drewN ?_ _ | refine blk_drew ?_ | refine blk_alloc ?_ _)); refine blk_put (cs := #[.string t110, .int .i64 t111, .bool t112, .bool t113, .bool false, .bool false, .int .i64 0]) ?_ 4 _ rfl; (with_reducible repeat (first | refine blk_drewN ?_ _ | refine blk_drew ?_ | refine blk_alloc ?_ _)); refine blk_put (cs := #[.string t110, .int .i64 t111, .bool t112, .bool false, .bool false, .bool false, .int .i64 0]) ?_ 3 _ rfl; (with_reducible repeat (first | refine blk_drewN ?_ _ | refine blk_drew ?_ | refine blk_alloc ?_ _)); refine blk_put (cs := #[.string t110, .int .i64 t111, .bool false, .bool false, .bool false, .bool false, .int .i64 0]) ?_ 2 _ rfl; (with_reducible repeat (first | refine blk_drewN ?_ _ | refine blk_drew ?_ | refine blk_alloc ?_ _)); refine blk_put (cs := #[.string t110, .int .i64 0, .bool false, .bool false, .bool false, .bool false, .int .i64 0]) ?_ 1 _ rfl; (with_reducible repeat (first | refine blk_drewN ?_ _ | refine blk_drew ?_ | refine blk_alloc ?_ _)); refine blk_put (cs := #[.string (⟨#[]⟩ : ByteArray), .int .i64 0, .bool false, .bool false, .bool false, .bool false, .int .i64 0]) ?_ 0 _ rfl; (with_reducible repeat (first | refine blk_drewN ?_ _ | refine blk_drew ?_ | refine blk_alloc ?_ _)); exact BK118.out⟩, ⟨by repeat (first | (with_reducible first | exact HB.out | apply below_alloc | apply pw_below_drewN | apply below_drew1 | refine below_set ?_ GE107.out | refine below_set ?_ GE109.out | refine below_set ?_ GE118.out) | exact HB.out)⟩⟩
            case rest =>
              clear HC11
              try clear c1
              try clear p1
              try clear q1
              try clear hx1
              try clear c2
              try clear p2
              try clear c3
              try clear c5
              try clear c5b0
              try clear c6
              try clear p6
              try clear c8
              try clear c8b0
              try clear c9
              try clear c9b0
              try clear p10
              try clear q10
              try clear hx10
              try clear c13
              try clear c17
              try clear c18
              try clear c20
              try clear c21
              try clear c22
              try clear hcz14_0
              try clear hcz14_1
              try clear hcz14_2
              try clear hcz14_3
              try clear hcz14_4
              try clear hcz19_0
              try clear hcz19_1
              try clear hcz19_2
              try clear hcz19_3
              try clear hcz19_4
              try clear hcz19_5
              try clear hcz19_6
              try clear hcz23_0
              try clear hcz23_1
              try clear hcz23_2
              try clear hcz23_3
              try clear hcz23_4
              try clear hcz23_5
              try clear hcz23_6
              try clear hcz7_0
              try clear hcz7_1
              try clear hcz7_2
              try clear hcz7_3
              try clear hcz7_4
              try clear hfz14_0
              try clear hfz14_1
              try clear hfz14_2
              try clear hfz14_3
              try clear hfz14_4
              try clear hfz19_0
              try clear hfz19_1
              try clear hfz19_2
              try clear hfz19_3
              try clear hfz19_4
              try clear hfz19_5
              try clear hfz19_6
              try clear hfz23_0
              try clear hfz23_1
              try clear hfz23_2
              try clear hfz23_3
              try clear hfz23_4
              try clear hfz23_5
              try clear hfz23_6
              try clear hfz7_0
              try clear hfz7_1
              try clear hfz7_2
              try clear hfz7_3
              try clear hfz7_4
              try clear hx108_0
              try clear p108
              try clear p2
              try clear q108
              obtain ⟨kq, x50_10, rfl, HA, HJ10, BK107, BK109, BK118, HB⟩ := hcut
              cases kq with
              | zero => exact absurd HA.out (by simp [encoding_Decode.j1])
              | succ kj10 =>
                have H := HA.out
                clear HA
                simp only [encoding_Decode.j1] at H
                by_cases c24 : x50_10 = true
                · subst c24
                  have H1 : (some (0, 0, 0, 0, 0, 0, 204)) = some (r1, r2, r3, r4, r5, r6, r7) := by rw [if_pos rfl] at H; exact H
                  clear H
                  have H := H1
                  clear H1
                  simp only [Option.some.injEq, Prod.mk.injEq] at H
                  obtain ⟨rfl, rfl, rfl, rfl, rfl, rfl, rfl⟩ := H
                  have hnb25 := NB107_109.out
                  have hnc25 := NB109_107.out
                  have hnb26 := NB107_118.out
                  have hnc26 := NB118_107.out
                  have hcz27_0 : wc.cell? ⟨gb107, 0, none⟩ = some (.int .i64 0) := (blk_cell BK107.out 0).trans rfl
                  have hcz27_1 : wc.cell? ⟨gb107, 1, none⟩ = some (.int .i64 0) := (blk_cell BK107.out 1).trans rfl
                  have hcz27_2 : wc.cell? ⟨gb107, 2, none⟩ = some (.int .i64 0) := (blk_cell BK107.out 2).trans rfl
                  have hcz27_3 : wc.cell? ⟨gb107, 3, none⟩ = some (.int .i64 0) := (blk_cell BK107.out 3).trans rfl
                  have hcz27_4 : wc.cell? ⟨gb107, 4, none⟩ = some (.int .i64 0) := (blk_cell BK107.out 4).trans rfl
                  have hfz27_0 := blk_frozen BK107.out 0
                  have hfz27_1 := blk_frozen BK107.out 1
                  have hfz27_2 := blk_frozen BK107.out 2
                  have hfz27_3 := blk_frozen BK107.out 3
                  have hfz27_4 := blk_frozen BK107.out 4
                  go_wp2
                  refine bodyPost_ret (results_ctt rfl _ _ gb107 42 #[.int .i64 0, .int .i64 0, .int .i64 0, .int .i64 0, .int .i64 0] (0, 0) _ rfl (by (with_reducible repeat (first | refine blk_drewN ?_ _ | refine blk_drew ?_ | refine blk_alloc ?_ _)); refine blk_put (cs := #[.int .i64 0, .int .i64 0, .int .i64 0, .int .i64 0, .int .i64 0]) ?_ 4 _ rfl; (with_reducible repeat (first | refine blk_drewN ?_ _ | refine blk_drew ?_ | refine blk_alloc ?_ _)); refine blk_put (cs := #[.int .i64 0, .int .i64 0, .int .i64 0, .int .i64 0, .int .i64 0]) ?_ 3 _ rfl; (with_reducible repeat (first | refine blk_drewN ?_ _ | refine blk_drew ?_ | refine blk_alloc ?_ _)); refine blk_put (cs := #[.int .i64 0, .int .i64 0, .int .i64 0, .int .i64 0, .int .i64 0]) ?_ 2 _ rfl; (with_reducible repeat (first | refine blk_drewN ?_ _ | refine blk_drew ?_ | refine blk_alloc ?_ _)); refine blk_put (cs := #[.int .i64 0, .int .i64 0, .int .i64 0, .int .i64 0, .int .i64 0]) ?_ 1 _ rfl; (with_reducible repeat (first | refine blk_drewN ?_ _ | refine blk_drew ?_ | refine blk_alloc ?_ _)); refine blk_put (cs := #[.int .i64 0, .int .i64 0, .int .i64 0, .int .i64 0, .int .i64 0]) ?_ 0 _ rfl; (with_reducible repeat (first | refine blk_drewN ?_ _ | refine blk_drew ?_ | refine blk_alloc ?_ _)); exact BK107.out) Tryd.underlying42 rfl (by kernel_rfl)) rfl ?_
                  exact ⟨by first | rfl | (simp [errW_none, errW_some] <;> rfl) | (simp [*, errW_none, errW_some] <;> rfl), by repeat (first | (with_reducible first | exact HB.out | apply below_alloc | apply pw_below_drewN | apply below_drew1 | refine below_set ?_ GE107.out | refine below_set ?_ GE109.out | refine below_set ?_ GE118.out) | exact HB.out)⟩
                · replace c24 := Bool.eq_false_iff.mpr c24
                  subst c24
                  have H1 : ((encoding_shift.f t111).bind fun t119 => (if 0 ≤ t119 then (if t111 = 2 then (encoding_Decode.j2 kj10 l0 a1 (wrap64 (Go.bits .and .u32 (rd l0 a1) 63)) (wrap64 (Go.bits .and .u32 ((rd l0 a1) / 64) 7)) 0 0 0 t110 t111 t112 t113 t114 t115 t116) else (if t111 = 3 then (encoding_Decode.j2 kj10 l0 a1 (wrap64 (Go.bits .and .u32 (rd l0 a1) 63)) (wrap64 (Go.bits .and .u32 ((rd l0 a1) / 64) 7)) (wrap64 (Go.bits .and .u32 ((rd l0 a1) / 512) 7)) 0 0 t110 t111 t112 t113 t114 t115 t116) else (if t111 = 4 then (encoding_Decode.j2 kj10 l0 a1 (wrap64 (Go.bits .and .u32 (rd l0 a1) 63)) (wrap64 (Go.bits .and .u32 ((rd l0 a1) / 64) 7)) (wrap64 (Go.bits .and .u32 ((rd l0 a1) / 512) 7)) (wrap64 (Go.bits .and .u32 ((rd l0 a1) / 4096) 7)) 0 t110 t111 t112 t113 t114 t115 t116) else (if t111 = 5 then (encoding_Decode.j2 kj10 l0 a1 (wrap64 (Go.bits .and .u32 (rd l0 a1) 63)) (wrap64 (Go.bits .and .u32 ((rd l0 a1) / 64) 7)) 0 0 (wrap64 (shr .i32 (wrap32 ((rd l0 a1))) t119)) t110 t111 t112 t113 t114 t115 t116) else (if t111 = 6 then (if 0 ≤ (wrap64 (a1 + 1)) then (if (wrap64 (a1 + 1)) < (l0.length : Int) then (if 0 ≤ (wrap64 (a1 + 2)) then (if (wrap64 (a1 + 2)) < (l0.length : Int) then (encoding_Decode.j2 kj10 l0 a1 (wrap64 (Go.bits .and .u32 (rd l0 a1) 63)) (wrap64 (Go.bits .and .u32 ((rd l0 a1) / 64) 7)) 0 0 (wrap64 (Go.bits .or .u64 (IntKind.u64.wrap (rd l0 (wrap64 (a1 + 1)))) (IntKind.u64.wrap ((IntKind.u64.wrap (rd l0 (wrap64 (a1 + 2)))) * 4294967296)))) t110 t111 t112 t113 t114 t115 t116) else (none)) else (none)) else (none)) else (none)) else (if t111 = 7 then (encoding_Decode.j2 kj10 l0 a1 (wrap64 (Go.bits .and .u32 (rd l0 a1) 63)) (wrap64 (Go.bits .and .u32 ((rd l0 a1) / 64) 7)) (wrap64 (Go.bits .and .u32 ((rd l0 a1) / 512) 7)) 0 (wrap64 (shr .i32 (wrap32 ((rd l0 a1))) t119)) t110 t111 t112 t113 t114 t115 t116) else (if t111 = 8 then (encoding_Decode.j2 kj10 l0 a1 (wrap64 (Go.bits .and .u32 (rd l0 a1) 63)) 0 0 0 (wrap64 (shr .i32 (wrap32 ((rd l0 a1))) t119)) t110 t111 t112 t113 t114 t115 t116) else (encoding_Decode.j2 kj10 l0 a1 (wrap64 (Go.bits .and .u32 (rd l0 a1) 63)) 0 0 0 0 t110 t111 t112 t113 t114 t115 t116)))))))) else (none))) = some (r1, r2, r3, r4, r5, r6, r7) := by rw [if_neg (show ¬ (false = true) by decide)] at H; exact H
                  clear H
                  have H := H1
                  clear H1
                  replace H := Option.bind_eq_some_iff.mp H
                  obtain ⟨t119, A280, H⟩ := H
                  replace H : (if 0 ≤ t119 then (if t111 = 2 then (encoding_Decode.j2 kj10 l0 a1 (wrap64 (Go.bits .and .u32 (rd l0 a1) 63)) (wrap64 (Go.bits .and .u32 ((rd l0 a1) / 64) 7)) 0 0 0 t110 t111 t112 t113 t114 t115 t116) else (if t111 = 3 then (encoding_Decode.j2 kj10 l0 a1 (wrap64 (Go.bits .and .u32 (rd l0 a1) 63)) (wrap64 (Go.bits .and .u32 ((rd l0 a1) / 64) 7)) (wrap64 (Go.bits .and .u32 ((rd l0 a1) / 512) 7)) 0 0 t110 t111 t112 t113 t114 t115 t116) else (if t111 = 4 then (encoding_Decode.j2 kj10 l0 a1 (wrap64 (Go.bits .and .u32 (rd l0 a1) 63)) (wrap64 (Go.bits .and .u32 ((rd l0 a1) / 64) 7)) (wrap64 (Go.bits .and .u32 ((rd l0 a1) / 512) 7)) (wrap64 (Go.bits .and .u32 ((rd l0 a1) / 4096) 7)) 0 t110 t111 t112 t113 t114 t115 t116) else (if t111 = 5 then (encoding_Decode.j2 kj10 l0 a1 (wrap64 (Go.bits .and .u32 (rd l0 a1) 63)) (wrap64 (Go.bits .and .u32 ((rd l0 a1) / 64) 7)) 0 0 (wrap64 (shr .i32 (wrap32 ((rd l0 a1))) t119)) t110 t111 t112 t113 t114 t115 t116) else (if t111 = 6 then (if 0 ≤ (wrap64 (a1 + 1)) then (if (wrap64 (a1 + 1)) < (l0.length : Int) then (if 0 ≤ (wrap64 (a1 + 2)) then (if (wrap64 (a1 + 2)) < (l0.length : Int) then (encoding_Decode.j2 kj10 l0 a1 (wrap64 (Go.bits .and .u32 (rd l0 a1) 63)) (wrap64 (Go.bits .and .u32 ((rd l0 a1) / 64) 7)) 0 0 (wrap64 (Go.bits .or .u64 (IntKind.u64.wrap (rd l0 (wrap64 (a1 + 1)))) (IntKind.u64.wrap ((IntKind.u64.wrap (rd l0 (wrap64 (a1 + 2)))) * 4294967296)))) t110 t111 t112 t113 t114 t115 t116) else (none)) else (none)) else (none)) else (none)) else (if t111 = 7 then (encoding_Decode.j2 kj10 l0 a1 (wrap64 (Go.bits .and .u32 (rd l0 a1) 63)) (wrap64 (Go.bits .and .u32 ((rd l0 a1) / 64) 7)) (wrap64 (Go.bits .and .u32 ((rd l0 a1) / 512) 7)) 0 (wrap64 (shr .i32 (wrap32 ((rd l0 a1))) t119)) t110 t111 t112 t113 t114 t115 t116) else (if t111 = 8 then (encoding_Decode.j2 kj10 l0 a1 (wrap64 (Go.bits .and .u32 (rd l0 a1) 63)) 0 0 0 (wrap64 (shr .i32 (wrap32 ((rd l0 a1))) t119)) t110 t111 t112 t113 t114 t115 t116) else (encoding_Decode.j2 kj10 l0 a1 (wrap64 (Go.bits .and .u32 (rd l0 a1) 63)) 0 0 0 0 t110 t111 t112 t113 t114 t115 t116)))))))) else (none)) = some (r1, r2, r3, r4, r5, r6, r7) := H
                  have A28 := Aside0.mk A280
                  clear A280
                  by_cases c29 : 0 ≤ t119
                  · rw [if_pos c29] at H
                    have c29b0 := eq_true c29
                    have c29b1 : decide (0 ≤ t119) = true := decide_eq_true c29
                    clear c29
                    obtain ⟨ji30, hji30⟩ : ∃ j_ : Int, (shr .i32 (wrap32 ((rd l0 a1))) t119) = j_ := ⟨_, rfl⟩
                    replace H : (if t111 = 2 then (encoding_Decode.j2 kj10 l0 a1 (wrap64 (Go.bits .and .u32 (rd l0 a1) 63)) (wrap64 (Go.bits .and .u32 ((rd l0 a1) / 64) 7)) 0 0 0 t110 t111 t112 t113 t114 t115 t116) else (if t111 = 3 then (encoding_Decode.j2 kj10 l0 a1 (wrap64 (Go.bits .and .u32 (rd l0 a1) 63)) (wrap64 (Go.bits .and .u32 ((rd l0 a1) / 64) 7)) (wrap64 (Go.bits .and .u32 ((rd l0 a1) / 512) 7)) 0 0 t110 t111 t112 t113 t114 t115 t116) else (if t111 = 4 then (encoding_Decode.j2 kj10 l0 a1 (wrap64 (Go.bits .and .u32 (rd l0 a1) 63)) (wrap64 (Go.bits .and .u32 ((rd l0 a1) / 64) 7)) (wrap64 (Go.bits .and .u32 ((rd l0 a1) / 512) 7)) (wrap64 (Go.bits .and .u32 ((rd l0 a1) / 4096) 7)) 0 t110 t111 t112 t113 t114 t115 t116) else (if t111 = 5 then (encoding_Decode.j2 kj10 l0 a1 (wrap64 (Go.bits .and .u32 (rd l0 a1) 63)) (wrap64 (Go.bits .and .u32 ((rd l0 a1) / 64) 7)) 0 0 (wrap64 (ji30)) t110 t111 t112 t113 t114 t115 t116) else (if t111 = 6 then (if 0 ≤ (wrap64 (a1 + 1)) then (if (wrap64 (a1 + 1)) < (l0.length : Int) then (if 0 ≤ (wrap64 (a1 + 2)) then (if (wrap64 (a1 + 2)) < (l0.length : Int) then (encoding_Decode.j2 kj10 l0 a1 (wrap64 (Go.bits .and .u32 (rd l0 a1) 63)) (wrap64 (Go.bits .and .u32 ((rd l0 a1) / 64) 7)) 0 0 (wrap64 (Go.bits .or .u64 (IntKind.u64.wrap (rd l0 (wrap64 (a1 + 1)))) (IntKind.u64.wrap ((IntKind.u64.wrap (rd l0 (wrap64 (a1 + 2)))) * 4294967296)))) t110 t111 t112 t113 t114 t115 t116) else (none)) else (none)) else (none)) else (none)) else (if t111 = 7 then (encoding_Decode.j2 kj10 l0 a1 (wrap64 (Go.bits .and .u32 (rd l0 a1) 63)) (wrap64 (Go.bits .and .u32 ((rd l0 a1) / 64) 7)) (wrap64 (Go.bits .and .u32 ((rd l0 a1) / 512) 7)) 0 (wrap64 (ji30)) t110 t111 t112 t113 t114 t115 t116) else (if t111 = 8 then (encoding_Decode.j2 kj10 l0 a1 (wrap64 (Go.bits .and .u32 (rd l0 a1) 63)) 0 0 0 (wrap64 (ji30)) t110 t111 t112 t113 t114 t115 t116) else (encoding_Decode.j2 kj10 l0 a1 (wrap64 (Go.bits .and .u32 (rd l0 a1) 63)) 0 0 0 0 t110 t111 t112 t113 t114 t115 t116)))))))) = some (r1, r2, r3, r4, r5, r6, r7) := by first | (rw [hji30] at H; exact H) | (simp only [hji30] at H ⊢; exact H)
                    (try rw [hji30] at A28)
                    have hji30_ : ((wrap32 ((rd l0 a1))) / 2 ^ min t119.toNat 32) = ji30 := hji30
                    have hji30z : t119 ≤ 32 → ((wrap32 ((rd l0 a1))) / 2 ^ t119.toNat) = ji30 := shr_small hji30
                    have HC31 := Aside0.mk H
                    clear H
                    have hnb32 := NB118_107.out
                    have hnc32 := NB107_118.out
                    have hnb33 := NB118_109.out
                    have hnc33 := NB109_118.out
                    have hcz34_0 : wc.cell? ⟨gb118, 0, none⟩ = some (.string t110) := (blk_cell BK118.out 0).trans rfl
                    have hcz34_1 : wc.cell? ⟨gb118, 1, none⟩ = some (.int .i64 t111) := (blk_cell BK118.out 1).trans rfl
                    have hcz34_2 : wc.cell? ⟨gb118, 2, none⟩ = some (.bool t112) := (blk_cell BK118.out 2).trans rfl
                    have hcz34_3 : wc.cell? ⟨gb118, 3, none⟩ = some (.bool t113) := (blk_cell BK118.out 3).trans rfl
                    have hcz34_4 : wc.cell? ⟨gb118, 4, none⟩ = some (.bool t114) := (blk_cell BK118.out 4).trans rfl
                    have hcz34_5 : wc.cell? ⟨gb118, 5, none⟩ = some (.bool t115) := (blk_cell BK118.out 5).trans rfl
                    have hcz34_6 : wc.cell? ⟨gb118, 6, none⟩ = some (.int .i64 t116) := (blk_cell BK118.out 6).trans rfl
                    have hfz34_0 := blk_frozen BK118.out 0
                    have hfz34_1 := blk_frozen BK118.out 1
                    have hfz34_2 := blk_frozen BK118.out 2
                    have hfz34_3 := blk_frozen BK118.out 3
                    have hfz34_4 := blk_frozen BK118.out 4
                    have hfz34_5 := blk_frozen BK118.out 5
                    have hfz34_6 := blk_frozen BK118.out 6
                    go_upto_block 0 with (first | ((with_reducible refine gate_callee (f := 71) rfl ?_); refine goesL_ (some 68) rfl rfl Tryd.func71 (by kernel_rfl) rfl #[.int .i64 t111] rfl (by (try simp only [List.map_toArray, List.map_cons, List.map_nil]); first | done | rfl | (simp only [List.length_drop, List.length_take]; rfl)) ?_; (with_reducible refine (encoding_shift.calls t111 t119 _ A28.out).mono ?_); rintro e w' ⟨rfl, ⟨nd, rfl⟩⟩; refine ⟨_, rfl, ?_⟩))
                    (try simp only [Act.put, List.setIfInBounds_toArray, List.set_cons_zero, List.set_cons_succ])
                    go_cut [] (fun wc => ∃ (kq : Nat) (x110001_30 : Int) (x110002_30 : Int) (x110003_30 : Int) (x110004_30 : Int), Aside0 (encoding_Decode.j2 kq l0 a1 (wrap64 (Go.bits .and .u32 (rd l0 a1) 63)) x110001_30 x110002_30 x110003_30 x110004_30 t110 t111 t112 t113 t114 t115 t116 = some (r1, r2, r3, r4, r5, r6, r7)) ∧ Aside0 (kq ≤ kj10) ∧ Aside0 (wc.heap[gb107]? = some (.cells #[.int .i64 0, .int .i64 0, .int .i64 0, .int .i64 0, .int .i64 0] 42 (0, 0))) ∧ Aside0 (wc.heap[gb109]? = some (.cells #[.int .i64 (wrap64 (Go.bits .and .u32 (rd l0 a1) 63)), .int .i64 x110001_30, .int .i64 x110002_30, .int .i64 x110003_30, .int .i64 x110004_30] 42 (0, 0))) ∧ Aside0 (wc.heap[gb118]? = some (.cells #[.string t110, .int .i64 t111, .bool t112, .bool t113, .bool t114, .bool t115, .int .i64 t116] 87 (0, 0))) ∧ Aside0 (Below w.heap.size w wc))
                    case first =>
                      have H := HC31.out
                      clear HC31
                      by_cases c35 : t111 = 2
                      · rw [if_pos c35] at H
                        have c35b0 : (t111 == 2) = true := beq_iff_eq.mpr c35
                        have c35b1 : (t111 != 2) = false := bne_eq_false_iff_eq.mpr c35
                        clear c35
                        (first | rw [c35b0] | (simp only [i64_w, i32_w]; rw [c35b0]) | skip)
                        have H' := Aside0.mk H
                        clear H
                        have hnb36 := NB109_107.out
                        have hnc36 := NB107_109.out
                        have hnb37 := NB109_118.out
                        have hnc37 := NB118_109.out
                        have hcz38_0 : wc.cell? ⟨gb109, 0, none⟩ = some (.int .i64 (wrap64 (Go.bits .and .u32 (rd l0 a1) 63))) := (blk_cell BK109.out 0).trans rfl
                        have hcz38_1 : wc.cell? ⟨gb109, 1, none⟩ = some (.int .i64 0) := (blk_cell BK109.out 1).trans rfl
                        have hcz38_2 : wc.cell? ⟨gb109, 2, none⟩ = some (.int .i64 0) := (blk_cell BK109.out 2).trans rfl
                        have hcz38_3 : wc.cell? ⟨gb109, 3, none⟩ = some (.int .i64 0) := (blk_cell BK109.out 3).trans rfl
                        have hcz38_4 : wc.cell? ⟨gb109, 4, none⟩ = some (.int .i64 0) := (blk_cell BK109.out 4).trans rfl
                        have hfz38_0 := blk_frozen BK109.out 0
                        have hfz38_1 := blk_frozen BK109.out 1
                        have hfz38_2 := blk_frozen BK109.out 2
                        have hfz38_3 := blk_frozen BK109.out 3
                        have hfz38_4 := blk_frozen BK109.out 4
                        go_wp2
                        go_meet
                        case rel => exact ⟨_, (wrap64 (Go.bits .and .u32 ((rd l0 a1) / 64) 7)), (0), (0), (0), H', ⟨by have := HJ2.out; have := HJ10.out; first | omega | exact Nat.le_refl _⟩, ⟨by (with_reducible repeat (first | refine blk_drewN ?_ _ | refine blk_drew ?_ | refine blk_alloc ?_ _)); refine blk_far ?_ NB107_109.out _; (with_reducible repeat (first | refine blk_drewN ?_ _ | refine blk_drew ?_ | refine blk_alloc ?_ _)); exact BK107.out⟩, ⟨by (with_reducible repeat (first | refine blk_drewN ?_ _ | refine blk_drew ?_ | refine blk_alloc ?_ _)); refine blk_put (cs := #[.int .i64 (wrap64 (Go.bits .and .u32 (rd l0 a1) 63)), .int .i64 0, .int .i64 0, .int .i64 0, .int .i64 0]) ?_ 1 _ rfl; (with_reducible repeat (first | refine blk_drewN ?_ _ | refine blk_drew ?_ | refine blk_alloc ?_ _)); exact BK109.out⟩, ⟨by (with_reducible repeat (first | refine blk_drewN ?_ _ | refine blk_drew ?_ | refine blk_alloc ?_ _)); refine blk_far ?_ NB118_109.out _; (with_reducible repeat (first | refine blk_drewN ?_ _ | refine blk_drew ?_ | refine blk_alloc ?_ _)); exact BK118.out⟩, ⟨by repeat (first | (with_reducible first | exact HB.out | apply below_alloc | apply pw_below_drewN | apply below_drew1 | refine below_set ?_ GE107.out | refine below_set ?_ GE109.out | refine below_set ?_ GE118.out) | exact HB.out)⟩⟩
                      · rw [if_neg c35] at H
                        have c35b0 : (t111 == 2) = false := beq_eq_false_iff_ne.mpr c35
                        have c35b1 : (t111 != 2) = true := bne_iff_ne.mpr c35
                        (first | rw [c35b0] | (simp only [i64_w, i32_w]; rw [c35b0]) | skip)
                        by_cases c39 : t111 = 3
                        · rw [if_pos c39] at H
                          have c39b0 : (t111 == 3) = true := beq_iff_eq.mpr c39
                          have c39b1 : (t111 != 3) = false := bne_eq_false_iff_eq.mpr c39
                          clear c39
                          have H' := Aside0.mk H
                          clear H
                          have hnb40 := NB109_107.out
                          have hnc40 := NB107_109.out
                          have hnb41 := NB109_118.out
                          have hnc41 := NB118_109.out
                          have hcz42_0 : wc.cell? ⟨gb109, 0, none⟩ = some (.int .i64 (wrap64 (Go.bits .and .u32 (rd l0 a1) 63))) := (blk_cell BK109.out 0).trans rfl
                          have hcz42_1 : wc.cell? ⟨gb109, 1, none⟩ = some (.int .i64 0) := (blk_cell BK109.out 1).trans rfl
                          have hcz42_2 : wc.cell? ⟨gb109, 2, none⟩ = some (.int .i64 0) := (blk_cell BK109.out 2).trans rfl
                          have hcz42_3 : wc.cell? ⟨gb109, 3, none⟩ = some (.int .i64 0) := (blk_cell BK109.out 3).trans rfl
                          have hcz42_4 : wc.cell? ⟨gb109, 4, none⟩ = some (.int .i64 0) := (blk_cell BK109.out 4).trans rfl
                          have hfz42_0 := blk_frozen BK109.out 0
                          have hfz42_1 := blk_frozen BK109.out 1
                          have hfz42_2 := blk_frozen BK109.out 2
                          have hfz42_3 := blk_frozen BK109.out 3
                          have hfz42_4 := blk_frozen BK109.out 4
                          go_wp2
                          go_meet
                          case rel => exact ⟨_, (wrap64 (Go.bits .and .u32 ((rd l0 a1) / 64) 7)), (wrap64 (Go.bits .and .u32 ((rd l0 a1) / 512) 7)), (0), (0), H', ⟨by have := HJ2.out; have := HJ10.out; first | omega | exact Nat.le_refl _⟩, ⟨by (with_reducible repeat (first | refine blk_drewN ?_ _ | refine blk_drew ?_ | refine blk_alloc ?_ _)); refine blk_far ?_ NB107_109.out _; (with_reducible repeat (first | refine blk_drewN ?_ _ | refine blk_drew ?_ | refine blk_alloc ?_ _)); refine blk_far ?_ NB107_109.out _; (with_reducible repeat (first | refine blk_drewN ?_ _ | refine blk_drew ?_ | refine blk_alloc ?_ _)); exact BK107.out⟩, ⟨by (with_reducible repeat (first | refine blk_drewN ?_ _ | refine blk_drew ?_ | refine blk_alloc ?_ _)); refine blk_put (cs := #[.int .i64 (wrap64 (Go.bits .and .u32 (rd l0 a1) 63)), .int .i64 (wrap64 (Go.bits .and .u32 ((rd l0 a1) / 64) 7)), .int .i64 0, .int .i64 0, .int .i64 0]) ?_ 2 _ rfl; (with_reducible repeat (first | refine blk_drewN ?_ _ | refine blk_drew ?_ | refine blk_alloc ?_ _)); refine blk_put (cs := #[.int .i64 (wrap64 (Go.bits .and .u32 (rd l0 a1) 63)), .int .i64 0, .int .i64 0, .int .i64 0, .int .i64 0]) ?_ 1 _ rfl; (with_reducible repeat (first | refine blk_drewN ?_ _ | refine blk_drew ?_ | refine blk_alloc ?_ _)); exact BK109.out⟩, ⟨by (with_reducible repeat (first | refine blk_drewN ?_ _ | refine blk_drew ?_ | refine blk_alloc ?_ _)); refine blk_far ?_ NB118_109.out _; (with_reducible repeat (first | refine blk_drewN ?_ _ | refine blk_drew ?_ | refine blk_alloc ?_ _)); refine blk_far ?_ NB118_109.out _; (with_reducible repeat (first | refine blk_drewN ?_ _ | refine blk_drew ?_ | refine blk_alloc ?_ _)); exact BK118.out⟩, ⟨by repeat (first | (with_reducible first | exact HB.out | apply below_alloc | apply pw_below_drewN | apply below_drew1 | refine below_set ?_ GE107.out | refine below_set ?_ GE109.out | refine below_set ?_ GE118.out) | exact HB.out)⟩⟩
                        · rw [if_neg c39] at H
                          have c39b0 : (t111 == 3) = false := beq_eq_false_iff_ne.mpr c39
                          have c39b1 : (t111 != 3) = true := bne_iff_ne.mpr c39
                          by_cases c43 : t111 = 4
                          · rw [if_pos c43] at H
                            have c43b0 : (t111 == 4) = true := beq_iff_eq.mpr c43
                            have c43b1 : (t111 != 4) = false := bne_eq_false_iff_eq.mpr c43
                            clear c43
                            have H' := Aside0.mk H
                            clear H
                            have hnb44 := NB109_107.out
                            have hnc44 := NB107_109.out
                            have hnb45 := NB109_118.out
                            have hnc45 := NB118_109.out
                            have hcz46_0 : wc.cell? ⟨gb109, 0, none⟩ = some (.int .i64 (wrap64 (Go.bits .and .u32 (rd l0 a1) 63))) := (blk_cell BK109.out 0).trans rfl
                            have hcz46_1 : wc.cell? ⟨gb109, 1, none⟩ = some (.int .i64 0) := (blk_cell BK109.out 1).trans rfl
                            have hcz46_2 : wc.cell? ⟨gb109, 2, none⟩ = some (.int .i64 0) := (blk_cell BK109.out 2).trans rfl
                            have hcz46_3 : wc.cell? ⟨gb109, 3, none⟩ = some (.int .i64 0) := (blk_cell BK109.out 3).trans rfl
                            have hcz46_4 : wc.cell? ⟨gb109, 4, none⟩ = some (.int .i64 0) := (blk_cell BK109.out 4).trans rfl
                            have hfz46_0 := blk_frozen BK109.out 0
                            have hfz46_1 := blk_frozen BK109.out 1
                            have hfz46_2 := blk_frozen BK109.out 2
                            have hfz46_3 := blk_frozen BK109.out 3
                            have hfz46_4 := blk_frozen BK109.out 4
                            go_wp2
                            go_meet
                            case rel => exact ⟨_, (wrap64 (Go.bits .and .u32 ((rd l0 a1) / 64) 7)), (wrap64 (Go.bits .and .u32 ((rd l0 a1) / 512) 7)), (wrap64 (Go.bits .and .u32 ((rd l0 a1) / 4096) 7)), (0), H', ⟨by have := HJ2.out; have := HJ10.out; first | omega | exact Nat.le_refl _⟩, ⟨by (with_reducible repeat (first | refine blk_drewN ?_ _ | refine blk_drew ?_ | refine blk_alloc ?_ _)); refine blk_far ?_ NB107_109.out _; (with_reducible repeat (first | refine blk_drewN ?_ _ | refine blk_drew ?_ | refine blk_alloc ?_ _)); refine blk_far ?_ NB107_109.out _; (with_reducible repeat (first | refine blk_drewN ?_ _ | refine blk_drew ?_ | refine blk_alloc ?_ _)); refine blk_far ?_ NB107_109.out _; (with_reducible repeat (first | refine blk_drewN ?_ _ | refine blk_drew ?_ | refine blk_alloc ?_ _)); exact BK107.out⟩, ⟨by (with_reducible repeat (first | refine blk_drewN ?_ _ | refine blk_drew ?_ | refine blk_alloc ?_ _)); refine blk_put (cs := #[.int .i64 (wrap64 (Go.bits .and .u32 (rd l0 a1) 63)), .int .i64 (wrap64 (Go.bits .and .u32 ((rd l0 a1) / 64) 7)), .int .i64 (wrap64 (Go.bits .and .u32 ((rd l0 a1) / 512) 7)), .int .i64 0, .int .i64 0]) ?_ 3 _ rfl; (with_reducible repeat (first | refine blk_drewN ?_ _ | refine blk_drew ?_ | refine blk_alloc ?_ _)); refine blk_put (cs := #[.int .i64 (wrap64 (Go.bits .and .u32 (rd l0 a1) 63)), .int .i64 (wrap64 (Go.bits .and .u32 ((rd l0 a1) / 64) 7)), .int .i64 0, .int .i64 0, .int .i64 0]) ?_ 2 _ rfl; (with_reducible repeat (first | refine blk_drewN ?_ _ | refine blk_drew ?_ | refine blk_alloc ?_ _)); refine blk_put (cs := #[.int .i64 (wrap64 (Go.bits .and .u32 (rd l0 a1) 63)), .int .i64 0, .int .i64 0, .int .i64 0, .int .i64 0]) ?_ 1 _ rfl; (with_reducible repeat (first | refine blk_drewN ?_ _ | refine blk_drew ?_ | refine blk_alloc ?_ _)); exact BK109.out⟩, ⟨by (with_reducible repeat (first | refine blk_drewN ?_ _ | refine blk_drew ?_ | refine blk_alloc ?_ _)); refine blk_far ?_ NB118_109.out _; (with_reducible repeat (first | refine blk_drewN ?_ _ | refine blk_drew ?_ | refine blk_alloc ?_ _)); refine blk_far ?_ NB118_109.out _; (with_reducible repeat (first | refine blk_drewN ?_ _ | refine blk_drew ?_ | refine blk_alloc ?_ _)); refine blk_far ?_ NB118_109.out _; (with_reducible repeat (first | refine blk_drewN ?_ _ | refine blk_drew ?_ | refine blk_alloc ?_ _)); exact BK118.out⟩, ⟨by repeat (first | (with_reducible first | exact HB.out | apply below_alloc | apply pw_below_drewN | apply below_drew1 | refine below_set ?_ GE107.out | refine below_set ?_ GE109.out | refine below_set ?_ GE118.out) | exact HB.out)⟩⟩
                          · rw [if_neg c43] at H
                            have c43b0 : (t111 == 4) = false := beq_eq_false_iff_ne.mpr c43
                            have c43b1 : (t111 != 4) = true := bne_iff_ne.mpr c43
                            by_cases c47 : t111 = 5
                            · rw [if_pos c47] at H
                              have c47b0 : (t111 == 5) = true := beq_iff_eq.mpr c47
                              have c47b1 : (t111 != 5) = false := bne_eq_false_iff_eq.mpr c47
                              clear c47
                              have H' := Aside0.mk H
                              clear H
                              have hnb48 := NB109_107.out
                              have hnc48 := NB107_109.out
                              have hnb49 := NB109_118.out
                              have hnc49 := NB118_109.out
                              have hcz50_0 : wc.cell? ⟨gb109, 0, none⟩ = some (.int .i64 (wrap64 (Go.bits .and .u32 (rd l0 a1) 63))) := (blk_cell BK109.out 0).trans rfl
                              have hcz50_1 : wc.cell? ⟨gb109, 1, none⟩ = some (.int .i64 0) := (blk_cell BK109.out 1).trans rfl
                              have hcz50_2 : wc.cell? ⟨gb109, 2, none⟩ = some (.int .i64 0) := (blk_cell BK109.out 2).trans rfl
                              have hcz50_3 : wc.cell? ⟨gb109, 3, none⟩ = some (.int .i64 0) := (blk_cell BK109.out 3).trans rfl
                              have hcz50_4 : wc.cell? ⟨gb109, 4, none⟩ = some (.int .i64 0) := (blk_cell BK109.out 4).trans rfl
                              have hfz50_0 := blk_frozen BK109.out 0
                              have hfz50_1 := blk_frozen BK109.out 1
                              have hfz50_2 := blk_frozen BK109.out 2
                              have hfz50_3 := blk_frozen BK109.out 3
                              have hfz50_4 := blk_frozen BK109.out 4
                              go_wp2
                              go_meet
                              case rel => exact ⟨_, (wrap64 (Go.bits .and .u32 ((rd l0 a1) / 64) 7)), (0), (0), (wrap64 (ji30)), H', ⟨by have := HJ2.out; have := HJ10.out; first | omega | exact Nat.le_refl _⟩, ⟨by (with_reducible repeat (first | refine blk_drewN ?_ _ | refine blk_drew ?_ | refine blk_alloc ?_ _)); refine blk_far ?_ NB107_109.out _; (with_reducible repeat (first | refine blk_drewN ?_ _ | refine blk_drew ?_ | refine blk_alloc ?_ _)); refine blk_far ?_ NB107_109.out _; (with_reducible repeat (first | refine blk_drewN ?_ _ | refine blk_drew ?_ | refine blk_alloc ?_ _)); exact BK107.out⟩, ⟨by (with_reducible repeat (first | refine blk_drewN ?_ _ | refine blk_drew ?_ | refine blk_alloc ?_ _)); refine blk_put (cs := #[.int .i64 (wrap64 (Go.bits .and .u32 (rd l0 a1) 63)), .int .i64 (wrap64 (Go.bits .and .u32 ((rd l0 a1) / 64) 7)), .int .i64 0, .int .i64 0, .int .i64 0]) ?_ 4 _ rfl; (with_reducible repeat (first | refine blk_drewN ?_ _ | refine blk_drew ?_ | refine blk_alloc ?_ _)); refine blk_put (cs := #[.int .i64 (wrap64 (Go.bits .and .u32 (rd l0 a1) 63)), .int .i64 0, .int .i64 0, .int .i64 0, .int .i64 0]) ?_ 1 _ rfl; (with_reducible repeat (first | refine blk_drewN ?_ _ | refine blk_drew ?_ | refine blk_alloc ?_ _)); exact BK109.out⟩, ⟨by (with_reducible repeat (first | refine blk_drewN ?_ _ | refine blk_drew ?_ | refine blk_alloc ?_ _)); refine blk_far ?_ NB118_109.out _; (with_reducible repeat (first | refine blk_drewN ?_ _ | refine blk_drew ?_ | refine blk_alloc ?_ _)); refine blk_far ?_ NB118_109.out _; (with_reducible repeat (first | refine blk_drewN ?_ _ | refine blk_drew ?_ | refine blk_alloc ?_ _)); exact BK118.out⟩, ⟨by repeat (first | (with_reducible first | exact HB.out | apply below_alloc | apply pw_below_drewN | apply below_drew1 | refine below_set ?_ GE107.out | refine below_set ?_ GE109.out | refine below_set ?_ GE118.out) | exact HB.out)⟩⟩
                            · rw [if_neg c47] at H
                              have c47b0 : (t111 == 5) = false := beq_eq_false_iff_ne.mpr c47
                              have c47b1 : (t111 != 5) = true := bne_iff_ne.mpr c47
                              by_cases c51 : t111 = 6
                              · rw [if_pos c51] at H
                                have c51b0 : (t111 == 6) = true := beq_iff_eq.mpr c51
                                have c51b1 : (t111 != 6) = false := bne_eq_false_iff_eq.mpr c51
                                clear c51
                                obtain ⟨ji52, hji52⟩ : ∃ j_ : Int, (wrap64 (a1 + 1)) = j_ := ⟨_, rfl⟩
                                replace H : (if 0 ≤ (ji52) then (if (ji52) < (l0.length : Int) then (if 0 ≤ (wrap64 (a1 + 2)) then (if (wrap64 (a1 + 2)) < (l0.length : Int) then (encoding_Decode.j2 kj10 l0 a1 (wrap64 (Go.bits .and .u32 (rd l0 a1) 63)) (wrap64 (Go.bits .and .u32 ((rd l0 a1) / 64) 7)) 0 0 (wrap64 (Go.bits .or .u64 (IntKind.u64.wrap (rd l0 (ji52))) (IntKind.u64.wrap ((IntKind.u64.wrap (rd l0 (wrap64 (a1 + 2)))) * 4294967296)))) t110 t111 t112 t113 t114 t115 t116) else (none)) else (none)) else (none)) else (none)) = some (r1, r2, r3, r4, r5, r6, r7) := by first | (rw [hji52] at H; exact H) | (simp only [hji52] at H ⊢; exact H)
                                have hji52w : (IntKind.i64.wrap (a1 + 1)) = ji52 := (i64_w _).trans hji52
                                by_cases c53 : 0 ≤ (ji52)
                                · rw [if_pos c53] at H
                                  have c53b0 : decide (0 ≤ (ji52)) = true := decide_eq_true c53
                                  clear c53
                                  by_cases c54 : (ji52) < (l0.length : Int)
                                  · rw [if_pos c54] at H
                                    have c54b0 : decide ((ji52) < (l0.length : Int)) = true := decide_eq_true c54
                                    clear c54
                                    obtain ⟨ji55, hji55⟩ : ∃ j_ : Int, (wrap64 (a1 + 2)) = j_ := ⟨_, rfl⟩
                                    replace H : (if 0 ≤ (ji55) then (if (ji55) < (l0.length : Int) then (encoding_Decode.j2 kj10 l0 a1 (wrap64 (Go.bits .and .u32 (rd l0 a1) 63)) (wrap64 (Go.bits .and .u32 ((rd l0 a1) / 64) 7)) 0 0 (wrap64 (Go.bits .or .u64 (IntKind.u64.wrap (rd l0 (ji52))) (IntKind.u64.wrap ((IntKind.u64.wrap (rd l0 (ji55))) * 4294967296)))) t110 t111 t112 t113 t114 t115 t116) else (none)) else (none)) = some (r1, r2, r3, r4, r5, r6, r7) := by first | (rw [hji55] at H; exact H) | (simp only [hji55] at H ⊢; exact H)
                                    have hji55w : (IntKind.i64.wrap (a1 + 2)) = ji55 := (i64_w _).trans hji55
                                    by_cases c56 : 0 ≤ (ji55)
                                    · rw [if_pos c56] at H
                                      have c56b0 : decide (0 ≤ (ji55)) = true := decide_eq_true c56
                                      clear c56
                                      by_cases c57 : (ji55) < (l0.length : Int)
                                      · rw [if_pos c57] at H
                                        have c57b0 : decide ((ji55) < (l0.length : Int)) = true := decide_eq_true c57
                                        clear c57
                                        have H' := Aside0.mk H
                                        clear H
                                        try go_wp2
                                        have n0_ := Aside0.mk (blk_drew BK107.out)
                                        have n1_ := Aside0.mk (blk_drew BK109.out)
                                        have n2_ := Aside0.mk (blk_drew BK118.out)
                                        have n3_ := Aside0.mk (below_drew1 HB.out)
                                        clear BK107
                                        clear BK109
                                        clear BK118
                                        clear HB
                                        have BK107 := n0_
                                        have BK109 := n1_
                                        have BK118 := n2_
                                        have HB := n3_
                                        clear n0_ n1_ n2_ n3_
                                        have p120 : 0 ≤ ((ji52) : Int) := of_decide_eq_true (by first | (with_reducible assumption) | assumption)
                                        have q120 : (ji52) < (l0.length : Int) := of_decide_eq_true (by first | (with_reducible assumption) | assumption)
                                        obtain ⟨ad120, e120, hx120_0⟩ := Kd.at_int HR0.out (ji52) p120 q120
                                        have hw120_0 := hx120_0
                                        obtain rfl : ad108 = ad120 := (by injection e120)
                                        replace hx120_0 := (HB.out.cell (World.block_lt_of_cell? w _ hx120_0)).trans hx120_0
                                        replace p120 := eq_true p120
                                        replace q120 := eq_true q120
                                        have p121 : 0 ≤ ((ji55) : Int) := of_decide_eq_true (by first | (with_reducible assumption) | assumption)
                                        have q121 : (ji55) < (l0.length : Int) := of_decide_eq_true (by first | (with_reducible assumption) | assumption)
                                        obtain ⟨ad121, e121, hx121_0⟩ := Kd.at_int HR0.out (ji55) p121 q121
                                        have hw121_0 := hx121_0
                                        obtain rfl : ad108 = ad121 := (by injection e121)
                                        replace hx121_0 := (HB.out.cell (World.block_lt_of_cell? w _ hx121_0)).trans hx121_0
                                        replace p121 := eq_true p121
                                        replace q121 := eq_true q121
                                        refine start_ (n := 20) (S := fun w' => w'.cell? (ad108.add ((ji52)).toNat) = some (.int .u32 (rd l0 (ji52))) ∧ w'.cell? (ad108.add ((ji55)).toNat) = some (.int .u32 (rd l0 (ji55)))) (ds := []) #[false, false, false, false, false, false, false, false, false, false, false, false, false, false, false, false, false, false, false, false] (by kernel_rfl) rfl rfl ⟨((HB.out.cell (World.block_lt_of_cell? w _ hw120_0)).trans hw120_0), ((HB.out.cell (World.block_lt_of_cell? w _ hw121_0)).trans hw121_0)⟩ (fun hHeld => ?_); refine with_tabW encoding_Decode.tab20 encoding_Decode.bits20 (fun HT_ HW_ => ?_)
                                        replace BK107 : Aside0 ((wc.drewN nd).drew.heap[_]? = _) := BK107
                                        replace BK109 : Aside0 ((wc.drewN nd).drew.heap[_]? = _) := BK109
                                        replace BK118 : Aside0 ((wc.drewN nd).drew.heap[_]? = _) := BK118
                                        replace HB : Aside0 (Below w.heap.size w (wc.drewN nd).drew) := ⟨⟨HB.out.1, HB.out.2, HB.out.3, HB.out.4, HB.out.5⟩⟩
                                        replace hx120_0 : (wc.drewN nd).drew.cell? _ = _ := hx120_0
                                        replace hx121_0 : (wc.drewN nd).drew.cell? _ = _ := hx121_0
                                        generalize (wc.drewN nd).drew = w58 at BK107 BK109 BK118 HB hx120_0 hx121_0 hHeld ⊢
                                        refine pure_ (i := 0) (N := some 99) (v := ?_) (a' := ?_) #[true, false, false, false, false, false, false, false, false, false, false, false, false, false, false, false, false, false, false, false] rfl rfl (any_of HT_.out (by kernel_rfl)) (fun _ _ _ h => h) (Or.inl ⟨by rfl, ?_⟩) ?_ ?_
                                        rotate_left
                                        · intro w'
                                          go_simp
                                          with_reducible rfl
                                        rotate_left
                                        · simp only [Act.put, List.setIfInBounds_toArray, List.set_cons_zero, List.set_cons_succ, i64_w, i32_w]
                                          rfl
                                        refine pure_ (i := 1) (N := some 100) (v := ?_) (a' := ?_) #[true, true, false, false, false, false, false, false, false, false, false, false, false, false, false, false, false, false, false, false] rfl rfl (any_of HT_.out (by kernel_rfl)) (fun _ _ _ h => h) (Or.inl ⟨by rfl, ?_⟩) ?_ ?_
                                        rotate_left
                                        · intro w'
                                          go_simp
                                          with_reducible rfl
                                        rotate_left
                                        · simp only [Act.put, List.setIfInBounds_toArray, List.set_cons_zero, List.set_cons_succ, i64_w, i32_w]
                                          rfl
                                        refine pure_ (i := 2) (N := some 101) (v := ?_) (a' := ?_) #[true, true, true, false, false, false, false, false, false, false, false, false, false, false, false, false, false, false, false, false] rfl rfl (any_of HT_.out (by kernel_rfl)) (fun _ _ _ h => h) (Or.inl ⟨by rfl, ?_⟩) ?_ ?_
                                        rotate_left
                                        · intro w'
                                          go_simp
                                          with_reducible rfl
                                        rotate_left
                                        · simp only [Act.put, List.setIfInBounds_toArray, List.set_cons_zero, List.set_cons_succ, i64_w, i32_w]
                                          rfl
                                        refine pure_ (i := 3) (N := some 102) (v := ?_) (a' := ?_) #[true, true, true, true, false, false, false, false, false, false, false, false, false, false, false, false, false, false, false, false] rfl rfl (any_of HT_.out (by kernel_rfl)) (fun _ _ _ h => h) (Or.inl ⟨by rfl, ?_⟩) ?_ ?_
                                        rotate_left
                                        · intro w'
                                          go_simp
                                          with_reducible rfl
                                        rotate_left
                                        · simp only [Act.put, List.setIfInBounds_toArray, List.set_cons_zero, List.set_cons_succ, i64_w, i32_w]
                                          rfl
                                        refine pure_ (i := 4) (N := some 103) (v := ?_) (a' := ?_) #[true, true, true, true, true, false, false, false, false, false, false, false, false, false, false, false, false, false, false, false] rfl rfl (any_of HT_.out (by kernel_rfl)) (fun _ _ _ h => h) (Or.inl ⟨by rfl, ?_⟩) ?_ ?_
                                        rotate_left
                                        · intro w'
                                          go_simp
                                          with_reducible rfl
                                        rotate_left
                                        · simp only [Act.put, List.setIfInBounds_toArray, List.set_cons_zero, List.set_cons_succ, i64_w, i32_w]
                                          rfl
                                        refine pure_ (i := 7) (N := some 106) (v := ?_) (a' := ?_) #[true, true, true, true, true, false, false, true, false, false, false, false, false, false, false, false, false, false, false, false] rfl rfl (any_of HT_.out (by kernel_rfl)) (fun _ _ _ h => h) (Or.inl ⟨by rfl, ?_⟩) ?_ ?_
                                        rotate_left
                                        · intro w'
                                          go_simp
                                          with_reducible rfl
                                        rotate_left
                                        · simp only [Act.put, List.setIfInBounds_toArray, List.set_cons_zero, List.set_cons_succ, i64_w, i32_w]
                                          rfl
                                        refine pure_ (i := 8) (N := some 107) (v := ?_) (a' := ?_) #[true, true, true, true, true, false, false, true, true, false, false, false, false, false, false, false, false, false, false, false] rfl rfl (any_of HT_.out (by kernel_rfl)) (fun _ _ _ h => h) (Or.inl ⟨by rfl, ?_⟩) ?_ ?_
                                        rotate_left
                                        · intro w'
                                          go_simp
                                          with_reducible rfl
                                        rotate_left
                                        · simp only [Act.put, List.setIfInBounds_toArray, List.set_cons_zero, List.set_cons_succ, i64_w, i32_w]
                                          rfl
                                        refine pure_ (i := 9) (N := some 108) (v := ?_) (a' := ?_) #[true, true, true, true, true, false, false, true, true, true, false, false, false, false, false, false, false, false, false, false] rfl rfl (any_of HT_.out (by kernel_rfl)) (fun _ _ _ h => h) (Or.inl ⟨by rfl, ?_⟩) ?_ ?_
                                        rotate_left
                                        · intro w'
                                          go_simp
                                          with_reducible rfl
                                        rotate_left
                                        · simp only [Act.put, List.setIfInBounds_toArray, List.set_cons_zero, List.set_cons_succ, i64_w, i32_w]
                                          rfl
                                        refine pure_ (i := 10) (N := some 109) (v := ?_) (a' := ?_) #[true, true, true, true, true, false, false, true, true, true, true, false, false, false, false, false, false, false, false, false] rfl rfl (any_of HT_.out (by kernel_rfl)) (fun _ _ _ h => h) (Or.inl ⟨by rfl, ?_⟩) ?_ ?_
                                        rotate_left
                                        · intro w'
                                          go_simp
                                          with_reducible rfl
                                        rotate_left
                                        · simp only [Act.put, List.setIfInBounds_toArray, List.set_cons_zero, List.set_cons_succ, i64_w, i32_w]
                                          rfl
                                        refine pure_ (i := 16) (N := some 115) (v := ?_) (a' := ?_) #[true, true, true, true, true, false, false, true, true, true, true, false, false, false, false, false, true, false, false, false] rfl rfl (any_of HT_.out (by kernel_rfl)) (fun _ _ _ h => h) (Or.inl ⟨by rfl, ?_⟩) ?_ ?_
                                        rotate_left
                                        · intro w'
                                          go_simp
                                          with_reducible rfl
                                        rotate_left
                                        · simp only [Act.put, List.setIfInBounds_toArray, List.set_cons_zero, List.set_cons_succ, i64_w, i32_w]
                                          rfl
                                        refine take_ (i := 5) (N := some 104) (v := ?_) (a' := ?_) #[true, true, true, true, true, true, false, true, true, true, true, false, false, false, false, false, true, false, false, false] rfl rfl (take_ofW HT_.out HW_.out (by kernel_rfl)) (fun _ _ _ h => h) (Or.inl ⟨by rfl, ?_⟩) hHeld ?_ ?_
                                        rotate_left
                                        · rintro w' ⟨s0, s1⟩
                                          go_simp
                                          with_reducible rfl
                                        rotate_left
                                        · simp only [Act.put, List.setIfInBounds_toArray, List.set_cons_zero, List.set_cons_succ, i64_w, i32_w]
                                          rfl
                                        refine pure_ (i := 6) (N := some 105) (v := ?_) (a' := ?_) #[true, true, true, true, true, true, true, true, true, true, true, false, false, false, false, false, true, false, false, false] rfl rfl (any_of HT_.out (by kernel_rfl)) (fun _ _ _ h => h) (Or.inl ⟨by rfl, ?_⟩) ?_ ?_
                                        rotate_left
                                        · intro w'
                                          go_simp
                                          with_reducible rfl
                                        rotate_left
                                        · simp only [Act.put, List.setIfInBounds_toArray, List.set_cons_zero, List.set_cons_succ, i64_w, i32_w]
                                          rfl
                                        refine take_ (i := 11) (N := some 110) (v := ?_) (a' := ?_) #[true, true, true, true, true, true, true, true, true, true, true, true, false, false, false, false, true, false, false, false] rfl rfl (take_ofW HT_.out HW_.out (by kernel_rfl)) (fun _ _ _ h => h) (Or.inl ⟨by rfl, ?_⟩) hHeld ?_ ?_
                                        rotate_left
                                        · rintro w' ⟨s0, s1⟩
                                          go_simp
                                          with_reducible rfl
                                        rotate_left
                                        · simp only [Act.put, List.setIfInBounds_toArray, List.set_cons_zero, List.set_cons_succ, i64_w, i32_w]
                                          rfl
                                        refine pure_ (i := 12) (N := some 111) (v := ?_) (a' := ?_) #[true, true, true, true, true, true, true, true, true, true, true, true, true, false, false, false, true, false, false, false] rfl rfl (any_of HT_.out (by kernel_rfl)) (fun _ _ _ h => h) (Or.inl ⟨by rfl, ?_⟩) ?_ ?_
                                        rotate_left
                                        · intro w'
                                          go_simp
                                          with_reducible rfl
                                        rotate_left
                                        · simp only [Act.put, List.setIfInBounds_toArray, List.set_cons_zero, List.set_cons_succ, i64_w, i32_w]
                                          rfl
                                        refine pure_ (i := 13) (N := some 112) (v := ?_) (a' := ?_) #[true, true, true, true, true, true, true, true, true, true, true, true, true, true, false, false, true, false, false, false] rfl rfl (any_of HT_.out (by kernel_rfl)) (fun _ _ _ h => h) (Or.inl ⟨by rfl, ?_⟩) ?_ ?_
                                        rotate_left
                                        · intro w'
                                          go_simp
                                          with_reducible rfl
                                        rotate_left
                                        · simp only [Act.put, List.setIfInBounds_toArray, List.set_cons_zero, List.set_cons_succ, i64_w, i32_w]
                                          rfl
                                        refine pure_ (i := 14) (N := some 113) (v := ?_) (a' := ?_) #[true, true, true, true, true, true, true, true, true, true, true, true, true, true, true, false, true, false, false, false] rfl rfl (any_of HT_.out (by kernel_rfl)) (fun _ _ _ h => h) (Or.inl ⟨by rfl, ?_⟩) ?_ ?_
                                        rotate_left
                                        · intro w'
                                          go_simp
                                          with_reducible rfl
                                        rotate_left
                                        · simp only [Act.put, List.setIfInBounds_toArray, List.set_cons_zero, List.set_cons_succ, i64_w, i32_w]
                                          rfl
                                        refine pure_ (i := 15) (N := some 114) (v := ?_) (a' := ?_) #[true, true, true, true, true, true, true, true, true, true, true, true, true, true, true, true, true, false, false, false] rfl rfl (any_of HT_.out (by kernel_rfl)) (fun _ _ _ h => h) (Or.inl ⟨by rfl, ?_⟩) ?_ ?_
                                        rotate_left
                                        · intro w'
                                          go_simp
                                          with_reducible rfl
                                        rotate_left
                                        · simp only [Act.put, List.setIfInBounds_toArray, List.set_cons_zero, List.set_cons_succ, i64_w, i32_w]
                                          rfl
                                        refine one_ (i := 17) (N := none) #[true, true, true, true, true, true, true, true, true, true, true, true, true, true, true, true, true, true, false, false] rfl rfl (one_of HT_.out (by kernel_rfl)) (by decide) (fun K hK => ?_)
                                        have hs59 : w58.cell? ⟨gb109, 1, none⟩ = some (.int .i64 0) := (blk_cell BK109.out 1).trans rfl
                                        have hfs59 := blk_frozen BK109.out 1
                                        have hns59_0 := NB107_109.out
                                        have hns59_2 := NB118_109.out
                                        have hms59_0 := NB109_107.out
                                        have hms59_2 := NB109_118.out
                                        refine skip_ (w1 := ?_) (by rfl) rfl ?_ ?_
                                        rotate_left
                                        · go_simp
                                          rfl
                                        refine hK.out _ _ ⟨((cell_far (p := ⟨gb109, _, none⟩) (by first | exact Nat.ne_of_lt (Nat.lt_of_lt_of_le (by have := World.block_lt_of_cell? _ _ hw120_0; first | rwa [add_block] at this | exact this) GW109.out) | (rw [add_block]; exact Nat.ne_of_lt (Nat.lt_of_lt_of_le (by have := World.block_lt_of_cell? _ _ hw120_0; first | rwa [add_block] at this | exact this) GW109.out)) | (show (Addr.add _ _).block ≠ _; rw [add_block]; exact Nat.ne_of_lt (Nat.lt_of_lt_of_le (by have := World.block_lt_of_cell? _ _ hw120_0; first | rwa [add_block] at this | exact this) GW109.out)) | (dsimp only; exact Nat.ne_of_lt (Nat.lt_of_lt_of_le (by have := World.block_lt_of_cell? _ _ hw120_0; first | rwa [add_block] at this | exact this) GW109.out))) _).trans (hHeld.1)), ((cell_far (p := ⟨gb109, _, none⟩) (by first | exact Nat.ne_of_lt (Nat.lt_of_lt_of_le (by have := World.block_lt_of_cell? _ _ hw121_0; first | rwa [add_block] at this | exact this) GW109.out) | (rw [add_block]; exact Nat.ne_of_lt (Nat.lt_of_lt_of_le (by have := World.block_lt_of_cell? _ _ hw121_0; first | rwa [add_block] at this | exact this) GW109.out)) | (show (Addr.add _ _).block ≠ _; rw [add_block]; exact Nat.ne_of_lt (Nat.lt_of_lt_of_le (by have := World.block_lt_of_cell? _ _ hw121_0; first | rwa [add_block] at this | exact this) GW109.out)) | (dsimp only; exact Nat.ne_of_lt (Nat.lt_of_lt_of_le (by have := World.block_lt_of_cell? _ _ hw121_0; first | rwa [add_block] at this | exact this) GW109.out))) _).trans (hHeld.2))⟩ (fun hHeld => ?_)
                                        clear hK K
                                        refine pure_ (i := 18) (N := some 116) (v := ?_) (a' := ?_) #[true, true, true, true, true, true, true, true, true, true, true, true, true, true, true, true, true, true, true, false] rfl rfl (any_of HT_.out (by kernel_rfl)) (fun _ _ _ h => h) (Or.inl ⟨by rfl, ?_⟩) ?_ ?_
                                        rotate_left
                                        · intro w'
                                          go_simp
                                          with_reducible rfl
                                        rotate_left
                                        · simp only [Act.put, List.setIfInBounds_toArray, List.set_cons_zero, List.set_cons_succ, i64_w, i32_w]
                                          rfl
                                        refine one_ (i := 19) (N := none) #[true, true, true, true, true, true, true, true, true, true, true, true, true, true, true, true, true, true, true, true] rfl rfl (one_of HT_.out (by kernel_rfl)) (by decide) (fun K hK => ?_)
                                        have hs60 : w58.cell? ⟨gb109, 4, none⟩ = some (.int .i64 0) := (blk_cell BK109.out 4).trans rfl
                                        have hfs60 := blk_frozen BK109.out 4
                                        have hns60_0 := NB107_109.out
                                        have hns60_2 := NB118_109.out
                                        have hms60_0 := NB109_107.out
                                        have hms60_2 := NB109_118.out
                                        refine skip_ (w1 := ?_) (by rfl) rfl ?_ ?_
                                        rotate_left
                                        · go_simp
                                          rfl
                                        refine hK.out _ _ ⟨((cell_far (p := ⟨gb109, _, none⟩) (by first | exact Nat.ne_of_lt (Nat.lt_of_lt_of_le (by have := World.block_lt_of_cell? _ _ hw120_0; first | rwa [add_block] at this | exact this) GW109.out) | (rw [add_block]; exact Nat.ne_of_lt (Nat.lt_of_lt_of_le (by have := World.block_lt_of_cell? _ _ hw120_0; first | rwa [add_block] at this | exact this) GW109.out)) | (show (Addr.add _ _).block ≠ _; rw [add_block]; exact Nat.ne_of_lt (Nat.lt_of_lt_of_le (by have := World.block_lt_of_cell? _ _ hw120_0; first | rwa [add_block] at this | exact this) GW109.out)) | (dsimp only; exact Nat.ne_of_lt (Nat.lt_of_lt_of_le (by have := World.block_lt_of_cell? _ _ hw120_0; first | rwa [add_block] at this | exact this) GW109.out))) _).trans (hHeld.1)), ((cell_far (p := ⟨gb109, _, none⟩) (by first | exact Nat.ne_of_lt (Nat.lt_of_lt_of_le (by have := World.block_lt_of_cell? _ _ hw121_0; first | rwa [add_block] at this | exact this) GW109.out) | (rw [add_block]; exact Nat.ne_of_lt (Nat.lt_of_lt_of_le (by have := World.block_lt_of_cell? _ _ hw121_0; first | rwa [add_block] at this | exact this) GW109.out)) | (show (Addr.add _ _).block ≠ _; rw [add_block]; exact Nat.ne_of_lt (Nat.lt_of_lt_of_le (by have := World.block_lt_of_cell? _ _ hw121_0; first | rwa [add_block] at this | exact this) GW109.out)) | (dsimp only; exact Nat.ne_of_lt (Nat.lt_of_lt_of_le (by have := World.block_lt_of_cell? _ _ hw121_0; first | rwa [add_block] at this | exact this) GW109.out))) _).trans (hHeld.2))⟩ (fun hHeld => ?_)
                                        clear hK K
                                        refine done_ (done_of HT_.out (by kernel_rfl)) ?_
                                        try go_wp2
                                        go_meet
                                        case rel => exact ⟨_, (wrap64 (Go.bits .and .u32 ((rd l0 a1) / 64) 7)), (0), (0), (wrap64 (Go.bits .or .u64 (IntKind.u64.wrap (rd l0 (ji52))) (IntKind.u64.wrap ((IntKind.u64.wrap (rd l0 (ji55))) * 4294967296)))), H', ⟨by have := HJ2.out; have := HJ10.out; first | omega | exact Nat.le_refl _⟩, ⟨by (with_reducible repeat (first | refine blk_drewN ?_ _ | refine blk_drew ?_ | refine blk_alloc ?_ _)); refine blk_far ?_ NB107_109.out _; (with_reducible repeat (first | refine blk_drewN ?_ _ | refine blk_drew ?_ | refine blk_alloc ?_ _)); refine blk_far ?_ NB107_109.out _; (with_reducible repeat (first | refine blk_drewN ?_ _ | refine blk_drew ?_ | refine blk_alloc ?_ _)); exact BK107.out⟩, ⟨by (with_reducible repeat (first | refine blk_drewN ?_ _ | refine blk_drew ?_ | refine blk_alloc ?_ _)); refine blk_put (cs := #[.int .i64 (wrap64 (Go.bits .and .u32 (rd l0 a1) 63)), .int .i64 (wrap64 (Go.bits .and .u32 ((rd l0 a1) / 64) 7)), .int .i64 0, .int .i64 0, .int .i64 0]) ?_ 4 _ rfl; (with_reducible repeat (first | refine blk_drewN ?_ _ | refine blk_drew ?_ | refine blk_alloc ?_ _)); refine blk_put (cs := #[.int .i64 (wrap64 (Go.bits .and .u32 (rd l0 a1) 63)), .int .i64 0, .int .i64 0, .int .i64 0, .int .i64 0]) ?_ 1 _ rfl; (with_reducible repeat (first | refine blk_drewN ?_ _ | refine blk_drew ?_ | refine blk_alloc ?_ _)); exact BK109.out⟩, ⟨by (with_reducible repeat (first | refine blk_drewN ?_ _ | refine blk_drew ?_ | refine blk_alloc ?_ _)); refine blk_far ?_ NB118_109.out _; (with_reducible repeat (first | refine blk_drewN ?_ _ | refine blk_drew ?_ | refine blk_alloc ?_ _)); refine blk_far ?_ NB118_109.out _; (with_reducible repeat (first | refine blk_drewN ?_ _ | refine blk_drew ?_ | refine blk_alloc ?_ _)); exact BK118.out⟩, ⟨by repeat (first | (with_reducible first | exact HB.out | apply below_alloc | apply pw_below_drewN | apply below_drew1 | refine below_set ?_ GE107.out | refine below_set ?_ GE109.out | refine below_set ?_ GE118.out) | exact HB.out)⟩⟩
                                      · rw [if_neg c57] at H
                                        exact absurd H (by simp)
                                    · rw [if_neg c56] at H
                                      exact absurd H (by simp)
                                  · rw [if_neg c54] at H
                                    exact absurd H (by simp)
                                · rw [if_neg c53] at H
                                  exact absurd H (by simp)
                              · rw [if_neg c51] at H
                                have c51b0 : (t111 == 6) = false := beq_eq_false_iff_ne.mpr c51
                                have c51b1 : (t111 != 6) = true := bne_iff_ne.mpr c51
                                by_cases c61 : t111 = 7
                                · rw [if_pos c61] at H
                                  have c61b0 : (t111 == 7) = true := beq_iff_eq.mpr c61
                                  have c61b1 : (t111 != 7) = false := bne_eq_false_iff_eq.mpr c61
                                  clear c61
                                  have H' := Aside0.mk H
                                  clear H
                                  have hnb62 := NB109_107.out
                                  have hnc62 := NB107_109.out
                                  have hnb63 := NB109_118.out
                                  have hnc63 := NB118_109.out
                                  have hcz64_0 : wc.cell? ⟨gb109, 0, none⟩ = some (.int .i64 (wrap64 (Go.bits .and .u32 (rd l0 a1) 63))) := (blk_cell BK109.out 0).trans rfl
                                  have hcz64_1 : wc.cell? ⟨gb109, 1, none⟩ = some (.int .i64 0) := (blk_cell BK109.out 1).trans rfl
                                  have hcz64_2 : wc.cell? ⟨gb109, 2, none⟩ = some (.int .i64 0) := (blk_cell BK109.out 2).trans rfl
                                  have hcz64_3 : wc.cell? ⟨gb109, 3, none⟩ = some (.int .i64 0) := (blk_cell BK109.out 3).trans rfl
                                  have hcz64_4 : wc.cell? ⟨gb109, 4, none⟩ = some (.int .i64 0) := (blk_cell BK109.out 4).trans rfl
                                  have hfz64_0 := blk_frozen BK109.out 0
                                  have hfz64_1 := blk_frozen BK109.out 1
                                  have hfz64_2 := blk_frozen BK109.out 2
                                  have hfz64_3 := blk_frozen BK109.out 3
                                  have hfz64_4 := blk_frozen BK109.out 4
                                  go_wp2
                                  go_meet
                                  case rel => exact ⟨_, (wrap64 (Go.bits .and .u32 ((rd l0 a1) / 64) 7)), (wrap64 (Go.bits .and .u32 ((rd l0 a1) / 512) 7)), (0), (wrap64 (ji30)), H', ⟨by have := HJ2.out; have := HJ10.out; first | omega | exact Nat.le_refl _⟩, ⟨by (with_reducible repeat (first | refine blk_drewN ?_ _ | refine blk_drew ?_ | refine blk_alloc ?_ _)); refine blk_far ?_ NB107_109.out _; (with_reducible repeat (first | refine blk_drewN ?_ _ | refine blk_drew ?_ | refine blk_alloc ?_ _)); refine blk_far ?_ NB107_109.out _; (with_reducible repeat (first | refine blk_drewN ?_ _ | refine blk_drew ?_ | refine blk_alloc ?_ _)); refine blk_far ?_ NB107_109.out _; (with_reducible repeat (first | refine blk_drewN ?_ _ | refine blk_drew ?_ | refine blk_alloc ?_ _)); exact BK107.out⟩, ⟨by (with_reducible repeat (first | refine blk_drewN ?_ _ | refine blk_drew ?_ | refine blk_alloc ?_ _)); refine blk_put (cs := #[.int .i64 (wrap64 (Go.bits .and .u32 (rd l0 a1) 63)), .int .i64 (wrap64 (Go.bits .and .u32 ((rd l0 a1) / 64) 7)), .int .i64 (wrap64 (Go.bits .and .u32 ((rd l0 a1) / 512) 7)), .int .i64 0, .int .i64 0]) ?_ 4 _ rfl; (with_reducible repeat (first | refine blk_drewN ?_ _ | refine blk_drew ?_ | refine blk_alloc ?_ _)); refine blk_put (cs := #[.int .i64 (wrap64 (Go.bits .and .u32 (rd l0 a1) 63)), .int .i64 (wrap64 (Go.bits .and .u32 ((rd l0 a1) / 64) 7)), .int .i64 0, .int .i64 0, .int .i64 0]) ?_ 2 _ rfl; (with_reducible repeat (first | refine blk_drewN ?_ _ | refine blk_drew ?_ | refine blk_alloc ?_ _)); refine blk_put (cs := #[.int .i64 (wrap64 (Go.bits .and .u32 (rd l0 a1) 63)), .int .i64 0, .int .i64 0, .int .i64 0, .int .i64 0]) ?_ 1 _ rfl; (with_reducible repeat (first | refine blk_drewN ?_ _ | refine blk_drew ?_ | refine blk_alloc ?_ _)); exact BK109.out⟩, ⟨by (with_reducible repeat (first | refine blk_drewN ?_ _ | refine blk_drew ?_ | refine blk_alloc ?_ _)); refine blk_far ?_ NB118_109.out _; (with_reducible repeat (first | refine blk_drewN ?_ _ | refine blk_drew ?_ | refine blk_alloc ?_ _)); refine blk_far ?_ NB118_109.out _; (with_reducible repeat (first | refine blk_drewN ?_ _ | refine blk_drew ?_ | refine blk_alloc ?_ _)); refine blk_far ?_ NB118_109.out _; (with_reducible repeat (first | refine blk_drewN ?_ _ | refine blk_drew ?_ | refine blk_alloc ?_ _)); exact BK118.out⟩, ⟨by repeat (first | (with_reducible first | exact HB.out | apply below_alloc | apply pw_below_drewN | apply below_drew1 | refine below_set ?_ GE107.out | refine below_set ?_ GE109.out | refine below_set ?_ GE118.out) | exact HB.out)⟩⟩
                                · rw [if_neg c61] at H
                                  have c61b0 : (t111 == 7) = false := beq_eq_false_iff_ne.mpr c61
                                  have c61b1 : (t111 != 7) = true := bne_iff_ne.mpr c61
                                  by_cases c65 : t111 = 8
                                  · rw [if_pos c65] at H
                                    have c65b0 : (t111 == 8) = true := beq_iff_eq.mpr c65
                                    have c65b1 : (t111 != 8) = false := bne_eq_false_iff_eq.mpr c65
                                    clear c65
                                    have H' := Aside0.mk H
                                    clear H
                                    have hnb66 := NB109_107.out
                                    have hnc66 := NB107_109.out
                                    have hnb67 := NB109_118.out
                                    have hnc67 := NB118_109.out
                                    have hcz68_0 : wc.cell? ⟨gb109, 0, none⟩ = some (.int .i64 (wrap64 (Go.bits .and .u32 (rd l0 a1) 63))) := (blk_cell BK109.out 0).trans rfl
                                    have hcz68_1 : wc.cell? ⟨gb109, 1, none⟩ = some (.int .i64 0) := (blk_cell BK109.out 1).trans rfl
                                    have hcz68_2 : wc.cell? ⟨gb109, 2, none⟩ = some (.int .i64 0) := (blk_cell BK109.out 2).trans rfl
                                    have hcz68_3 : wc.cell? ⟨gb109, 3, none⟩ = some (.int .i64 0) := (blk_cell BK109.out 3).trans rfl
                                    have hcz68_4 : wc.cell? ⟨gb109, 4, none⟩ = some (.int .i64 0) := (blk_cell BK109.out 4).trans rfl
                                    have hfz68_0 := blk_frozen BK109.out 0
                                    have hfz68_1 := blk_frozen BK109.out 1
                                    have hfz68_2 := blk_frozen BK109.out 2
                                    have hfz68_3 := blk_frozen BK109.out 3
                                    have hfz68_4 := blk_frozen BK109.out 4
                                    go_wp2
                                    go_meet
                                    case rel => exact ⟨_, (0), (0), (0), (wrap64 (ji30)), H', ⟨by have := HJ2.out; have := HJ10.out; first | omega | exact Nat.le_refl _⟩, ⟨by (with_reducible repeat (first | refine blk_drewN ?_ _ | refine blk_drew ?_ | refine blk_alloc ?_ _)); refine blk_far ?_ NB107_109.out _; (with_reducible repeat (first | refine blk_drewN ?_ _ | refine blk_drew ?_ | refine blk_alloc ?_ _)); exact BK107.out⟩, ⟨by (with_reducible repeat (first | refine blk_drewN ?_ _ | refine blk_drew ?_ | refine blk_alloc ?_ _)); refine blk_put (cs := #[.int .i64 (wrap64 (Go.bits .and .u32 (rd l0 a1) 63)), .int .i64 0, .int .i64 0, .int .i64 0, .int .i64 0]) ?_ 4 _ rfl; (with_reducible repeat (first | refine blk_drewN ?_ _ | refine blk_drew ?_ | refine blk_alloc ?_ _)); exact BK109.out⟩, ⟨by (with_reducible repeat (first | refine blk_drewN ?_ _ | refine blk_drew ?_ | refine blk_alloc ?_ _)); refine blk_far ?_ NB118_109.out _; (with_reducible repeat (first | refine blk_drewN ?_ _ | refine blk_drew ?_ | refine blk_alloc ?_ _)); exact BK118.out⟩, ⟨by repeat (first | (with_reducible first | exact HB.out | apply below_alloc | apply pw_below_drewN | apply below_drew1 | refine below_set ?_ GE107.out | refine below_set ?_ GE109.out | refine below_set ?_ GE118.out) | exact HB.out)⟩⟩
                                  · rw [if_neg c65] at H
                                    have c65b0 : (t111 == 8) = false := beq_eq_false_iff_ne.mpr c65
                                    have c65b1 : (t111 != 8) = true := bne_iff_ne.mpr c65
                                    have H' := Aside0.mk H
                                    clear H
                                    go_wp2
                                    go_meet
                                    case rel => exact ⟨_, (0), (0), (0), (0), H', ⟨by have := HJ2.out; have := HJ10.out; first | omega | exact Nat.le_refl _⟩, ⟨by (with_reducible repeat (first | refine blk_drewN ?_ _ | refine blk_drew ?_ | refine blk_alloc ?_ _)); exact BK107.out⟩, ⟨by (with_reducible repeat (first | refine blk_drewN ?_ _ | refine blk_drew ?_ | refine blk_alloc ?_ _)); exact BK109.out⟩, ⟨by (with_reducible repeat (first | refine blk_drewN ?_ _ | refine blk_drew ?_ | refine blk_alloc ?_ _)); exact BK118.out⟩, ⟨by repeat (first | (with_reducible first | exact HB.out | apply below_alloc | apply pw_below_drewN | apply below_drew1 | refine below_set ?_ GE107.out | refine below_set ?_ GE109.out | refine below_set ?_ GE118.out) | exact HB.out)⟩⟩
                    case rest =>
                      clear HC31
                      try clear c1
                      try clear p1
                      try clear q1
                      try clear hx1
                      try clear c2
                      try clear p2
                      try clear c3
                      try clear p3
                      try clear c4
                      try clear c5
                      try clear c5b0
                      try clear c6
                      try clear p6
                      try clear c7
                      try clear c8
                      try clear c8b0
                      try clear c9
                      try clear c9b0
                      try clear p10
                      try clear q10
                      try clear hx10
                      try clear p12
                      try clear q12
                      try clear hx12
                      try clear c13
                      try clear c17
                      try clear c18
                      try clear c20
                      try clear c21
                      try clear c22
                      try clear c24
                      try clear c25
                      try clear c26
                      try clear c29
                      try clear c29b0
                      try clear c29b1
                      try clear c32
                      try clear p32
                      try clear c33
                      try clear c35
                      try clear c35b0
                      try clear c35b1
                      try clear c36
                      try clear c37
                      try clear c39
                      try clear c39b0
                      try clear c39b1
                      try clear c40
                      try clear c41
                      try clear c43
                      try clear c43b0
                      try clear c43b1
                      try clear c44
                      try clear c45
                      try clear c47
                      try clear c47b0
                      try clear c47b1
                      try clear c48
                      try clear c49
                      try clear c51
                      try clear c51b0
                      try clear c51b1
                      try clear c53
                      try clear c53b0
                      try clear c54
                      try clear c54b0
                      try clear c56
                      try clear c56b0
                      try clear c57
                      try clear c57b0
                      try clear c61
                      try clear c61b0
                      try clear c61b1
                      try clear c62
                      try clear c63
                      try clear p64
                      try clear c65
                      try clear c65b0
                      try clear c65b1
                      try clear c66
                      try clear c67
                      try clear hcz14_0
                      try clear hcz14_1
                      try clear hcz14_2
                      try clear hcz14_3
                      try clear hcz14_4
                      try clear hcz19_0
                      try clear hcz19_1
                      try clear hcz19_2
                      try clear hcz19_3
                      try clear hcz19_4
                      try clear hcz19_5
                      try clear hcz19_6
                      try clear hcz23_0
                      try clear hcz23_1
                      try clear hcz23_2
                      try clear hcz23_3
                      try clear hcz23_4
                      try clear hcz23_5
                      try clear hcz23_6
                      try clear hcz27_0
                      try clear hcz27_1
                      try clear hcz27_2
                      try clear hcz27_3
                      try clear hcz27_4
                      try clear hcz34_0
                      try clear hcz34_1
                      try clear hcz34_2
                      try clear hcz34_3
                      try clear hcz34_4
                      try clear hcz34_5
                      try clear hcz34_6
                      try clear hcz38_0
                      try clear hcz38_1
                      try clear hcz38_2
                      try clear hcz38_3
                      try clear hcz38_4
                      try clear hcz42_0
                      try clear hcz42_1
                      try clear hcz42_2
                      try clear hcz42_3
                      try clear hcz42_4
                      try clear hcz46_0
                      try clear hcz46_1
                      try clear hcz46_2
                      try clear hcz46_3
                      try clear hcz46_4
                      try clear hcz50_0
                      try clear hcz50_1
                      try clear hcz50_2
                      try clear hcz50_3
                      try clear hcz50_4
                      try clear hcz64_0
                      try clear hcz64_1
                      try clear hcz64_2
                      try clear hcz64_3
                      try clear hcz64_4
                      try clear hcz68_0
                      try clear hcz68_1
                      try clear hcz68_2
                      try clear hcz68_3
                      try clear hcz68_4
                      try clear hcz7_0
                      try clear hcz7_1
                      try clear hcz7_2
                      try clear hcz7_3
                      try clear hcz7_4
                      try clear hfz14_0
                      try clear hfz14_1
                      try clear hfz14_2
                      try clear hfz14_3
                      try clear hfz14_4
                      try clear hfz19_0
                      try clear hfz19_1
                      try clear hfz19_2
                      try clear hfz19_3
                      try clear hfz19_4
                      try clear hfz19_5
                      try clear hfz19_6
                      try clear hfz23_0
                      try clear hfz23_1
                      try clear hfz23_2
                      try clear hfz23_3
                      try clear hfz23_4
                      try clear hfz23_5
                      try clear hfz23_6
                      try clear hfz27_0
                      try clear hfz27_1
                      try clear hfz27_2
                      try clear hfz27_3
                      try clear hfz27_4
                      try clear hfz34_0
                      try clear hfz34_1
                      try clear hfz34_2
                      try clear hfz34_3
                      try clear hfz34_4
                      try clear hfz34_5
                      try clear hfz34_6
                      try clear hfz38_0
                      try clear hfz38_1
                      try clear hfz38_2
                      try clear hfz38_3
                      try clear hfz38_4
                      try clear hfz42_0
                      try clear hfz42_1
                      try clear hfz42_2
                      try clear hfz42_3
                      try clear hfz42_4
                      try clear hfz46_0
                      try clear hfz46_1
                      try clear hfz46_2
                      try clear hfz46_3
                      try clear hfz46_4
                      try clear hfz50_0
                      try clear hfz50_1
                      try clear hfz50_2
                      try clear hfz50_3
                      try clear hfz50_4
                      try clear hfz64_0
                      try clear hfz64_1
                      try clear hfz64_2
                      try clear hfz64_3
                      try clear hfz64_4
                      try clear hfz68_0
                      try clear hfz68_1
                      try clear hfz68_2
                      try clear hfz68_3
                      try clear hfz68_4
                      try clear hfz7_0
                      try clear hfz7_1
                      try clear hfz7_2
                      try clear hfz7_3
                      try clear hfz7_4
                      try clear hx108_0
                      try clear hx120_0
                      try clear hx121_0
                      try clear p1
                      try clear p10
                      try clear p108
                      try clear p120
                      try clear p121
                      try clear p2
                      try clear p6
                      try clear q1
                      try clear q10
                      try clear q108
                      try clear q120
                      try clear q121
                      obtain ⟨kq, x110001_30, x110002_30, x110003_30, x110004_30, HA, HJ30, BK107, BK109, BK118, HB⟩ := hcut
                      cases kq with
                      | zero => exact absurd HA.out (by simp [encoding_Decode.j2])
                      | succ kj30 =>
                        have H := HA.out
                        clear HA
                        simp only [encoding_Decode.j2] at H
                        replace H := Option.bind_eq_some_iff.mp H
                        obtain ⟨t122, A690, H⟩ := H
                        replace H : (if t122 = true then ((encoding_appendInstr.f ([] : List Int) (wrap64 (Go.bits .and .u32 (rd l0 a1) 63)) x110001_30 x110002_30 x110003_30 x110004_30).bind fun t123 => (encoding_Decode.l0 kj30 l0 a1 t123 (t123.length : Int) 0 (wrap64 (Go.bits .and .u32 (rd l0 a1) 63)) x110001_30 x110002_30 x110003_30 x110004_30 t110 t111 t112 t113 t114 t115 t116)) else (some (0, 0, 0, 0, 0, 0, 204))) = some (r1, r2, r3, r4, r5, r6, r7) := H
                        have A69 := Aside0.mk A690
                        clear A690
                        by_cases c70 : t122 = true
                        · subst c70
                          have H1 : ((encoding_appendInstr.f ([] : List Int) (wrap64 (Go.bits .and .u32 (rd l0 a1) 63)) x110001_30 x110002_30 x110003_30 x110004_30).bind fun t123 => (encoding_Decode.l0 kj30 l0 a1 t123 (t123.length : Int) 0 (wrap64 (Go.bits .and .u32 (rd l0 a1) 63)) x110001_30 x110002_30 x110003_30 x110004_30 t110 t111 t112 t113 t114 t115 t116)) = some (r1, r2, r3, r4, r5, r6, r7) := by rw [if_pos rfl] at H; exact H
                          clear H
                          have H := H1
                          clear H1
                          replace H := Option.bind_eq_some_iff.mp H
                          obtain ⟨t123, A710, H⟩ := H
                          replace H : (encoding_Decode.l0 kj30 l0 a1 t123 (t123.length : Int) 0 (wrap64 (Go.bits .and .u32 (rd l0 a1) 63)) x110001_30 x110002_30 x110003_30 x110004_30 t110 t111 t112 t113 t114 t115 t116) = some (r1, r2, r3, r4, r5, r6, r7) := H
                          have A71 := Aside0.mk A710
                          clear A710
                          have H' := Aside0.mk H
                          clear H
                          have hnb72 := NB109_107.out
                          have hnc72 := NB107_109.out
                          have hnb73 := NB109_118.out
                          have hnc73 := NB118_109.out
                          have hcz74_0 : wc.cell? ⟨gb109, 0, none⟩ = some (.int .i64 (wrap64 (Go.bits .and .u32 (rd l0 a1) 63))) := (blk_cell BK109.out 0).trans rfl
                          have hcz74_1 : wc.cell? ⟨gb109, 1, none⟩ = some (.int .i64 x110001_30) := (blk_cell BK109.out 1).trans rfl
                          have hcz74_2 : wc.cell? ⟨gb109, 2, none⟩ = some (.int .i64 x110002_30) := (blk_cell BK109.out 2).trans rfl
                          have hcz74_3 : wc.cell? ⟨gb109, 3, none⟩ = some (.int .i64 x110003_30) := (blk_cell BK109.out 3).trans rfl
                          have hcz74_4 : wc.cell? ⟨gb109, 4, none⟩ = some (.int .i64 x110004_30) := (blk_cell BK109.out 4).trans rfl
                          have hfz74_0 := blk_frozen BK109.out 0
                          have hfz74_1 := blk_frozen BK109.out 1
                          have hfz74_2 := blk_frozen BK109.out 2
                          have hfz74_3 := blk_frozen BK109.out 3
                          have hfz74_4 := blk_frozen BK109.out 4
                          go_wp2_with (first | ((with_reducible refine gate_callee (f := 69) rfl ?_); refine goesL_ (some 130) rfl rfl Tryd.func69 (by kernel_rfl) rfl #[.agg #[.int .i64 (wrap64 (Go.bits .and .u32 (rd l0 a1) 63)), .int .i64 x110001_30, .int .i64 x110002_30, .int .i64 x110003_30, .int .i64 x110004_30]] rfl (by (try simp only [List.map_toArray, List.map_cons, List.map_nil]); first | done | rfl | (simp only [List.length_drop, List.length_take]; rfl)) ?_; (with_reducible refine (machine_Valid.calls (wrap64 (Go.bits .and .u32 (rd l0 a1) 63)) x110001_30 x110002_30 x110003_30 x110004_30 true _ A69.out ?side1).mono ?_); (case side1 => exact TabOK.aside HT.out (by repeat (first | (with_reducible first | exact HB.out | apply below_alloc | apply pw_below_drewN | apply below_drew1 | refine below_set ?_ GE107.out | refine below_set ?_ GE109.out | refine below_set ?_ GE118.out) | exact HB.out))); rintro e w75 ⟨rfl, hb⟩; refine ⟨_, rfl, ?_⟩; have n0_ := Aside0.mk (blk_below (g := gb107) (o := .cells #[.int .i64 0, .int .i64 0, .int .i64 0, .int .i64 0, .int .i64 0] 42 (0, 0)) (by (with_reducible repeat (first | refine blk_drewN ?_ _ | refine blk_drew ?_ | refine blk_alloc ?_ _)); exact BK107.out) hb); have n1_ := Aside0.mk (blk_below (g := gb109) (o := .cells #[.int .i64 (wrap64 (Go.bits .and .u32 (rd l0 a1) 63)), .int .i64 x110001_30, .int .i64 x110002_30, .int .i64 x110003_30, .int .i64 x110004_30] 42 (0, 0)) (by (with_reducible repeat (first | refine blk_drewN ?_ _ | refine blk_drew ?_ | refine blk_alloc ?_ _)); exact BK109.out) hb); have n2_ := Aside0.mk (blk_below (g := gb118) (o := .cells #[.string t110, .int .i64 t111, .bool t112, .bool t113, .bool t114, .bool t115, .int .i64 t116] 87 (0, 0)) (by (with_reducible repeat (first | refine blk_drewN ?_ _ | refine blk_drew ?_ | refine blk_alloc ?_ _)); exact BK118.out) hb); have n3_ := Aside0.mk (below_step (by repeat (first | (with_reducible first | exact HB.out | apply below_alloc | apply pw_below_drewN | apply below_drew1 | refine below_set ?_ GE107.out | refine below_set ?_ GE109.out | refine below_set ?_ GE118.out) | exact HB.out)) hb); clear BK107; clear BK109; clear BK118; clear HB; have BK107 := n0_; have BK109 := n1_; have BK118 := n2_; have HB := n3_; clear n0_ n1_ n2_ n3_; (try clear hb); (try clear hb2); (try clear hk); (try clear hi); have hcz76_0 : w75.cell? ⟨gb109, 0, none⟩ = some (.int .i64 (wrap64 (Go.bits .and .u32 (rd l0 a1) 63))) := (blk_cell BK109.out 0).trans rfl; have hcz76_1 : w75.cell? ⟨gb109, 1, none⟩ = some (.int .i64 x110001_30) := (blk_cell BK109.out 1).trans rfl; have hcz76_2 : w75.cell? ⟨gb109, 2, none⟩ = some (.int .i64 x110002_30) := (blk_cell BK109.out 2).trans rfl; have hcz76_3 : w75.cell? ⟨gb109, 3, none⟩ = some (.int .i64 x110003_30) := (blk_cell BK109.out 3).trans rfl; have hcz76_4 : w75.cell? ⟨gb109, 4, none⟩ = some (.int .i64 x110004_30) := (blk_cell BK109.out 4).trans rfl; have hfz76_0 := blk_frozen BK109.out 0; have hfz76_1 := blk_frozen BK109.out 1; have hfz76_2 := blk_frozen BK109.out 2; have hfz76_3 := blk_frozen BK109.out 3; have hfz76_4 := blk_frozen BK109.out 4) | ((with_reducible refine gate_callee (f := 70) rfl ?_); refine goesL_ (some 134) rfl rfl Tryd.func70 (by kernel_rfl) rfl #[.slice none 0 0, .agg #[.int .i64 (wrap64 (Go.bits .and .u32 (rd l0 a1) 63)), .int .i64 x110001_30, .int .i64 x110002_30, .int .i64 x110003_30, .int .i64 x110004_30]] rfl (by (try simp only [List.map_toArray, List.map_cons, List.map_nil]); first | done | rfl | (simp only [List.length_drop, List.length_take]; rfl)) ?_; (refine (encoding_appendInstr.calls (fun k_ => some k_ = (.slice none 0 0 : Value).ownBlock) (.slice none 0 0) ([] : List Int) (wrap64 (Go.bits .and .u32 (rd l0 a1) 63)) x110001_30 x110002_30 x110003_30 x110004_30 t123 w _ ?side1 ?side2 A71.out HT).mono ?_); (case side1 => repeat (first | (with_reducible first | exact HB.out | apply below_alloc | apply pw_below_drewN | apply below_drew1 | refine below_set ?_ GE107.out | refine below_set ?_ GE109.out | refine below_set ?_ GE118.out) | exact HB.out)); (case side2 => exact Kd.R_nil _ _ _ _ _); rintro e w77 ⟨v124, rfl, ho0, hb, hkp⟩; refine ⟨_, rfl, ?_⟩; have n0_ := Aside0.mk (blk_kept (by (with_reducible repeat (first | refine blk_drewN ?_ _ | refine blk_drew ?_ | refine blk_alloc ?_ _)); exact BK107.out) hkp (fun hs_ => (fun e_ => by simp [Value.ownBlock] at e_) hs_)); have n1_ := Aside0.mk (blk_kept (by (with_reducible repeat (first | refine blk_drewN ?_ _ | refine blk_drew ?_ | refine blk_alloc ?_ _)); exact BK109.out) hkp (fun hs_ => (fun e_ => by simp [Value.ownBlock] at e_) hs_)); have n2_ := Aside0.mk (blk_kept (by (with_reducible repeat (first | refine blk_drewN ?_ _ | refine blk_drew ?_ | refine blk_alloc ?_ _)); exact BK118.out) hkp (fun hs_ => (fun e_ => by simp [Value.ownBlock] at e_) hs_)); have n3_ := Aside0.mk (Kd.R_mono (ok' := fun k_ => True) ho0 (fun k_ hk_ => trivial)); have n4_ := Aside0.mk (hb); clear BK107; clear BK109; clear BK118; clear HB; have BK107 := n0_; have BK109 := n1_; have BK118 := n2_; have HO125 := n3_; have HB := n4_; clear n0_ n1_ n2_ n3_ n4_; (try clear hb); (try clear hkp); (try clear ho0); obtain ⟨Ao78, co78, eo78⟩ := Kd.R_slice HO125.out; subst eo78))
                          go_loopg [136] kj30 (fun kq v136 w' => ∃ (x136_4 : Int) (x108000_4 : Int) (x108001_4 : Int) (x108002_4 : Int) (x108003_4 : Int) (x108004_4 : Int), v136 = .int .i64 x136_4 ∧ Aside0 (encoding_Decode.l0 kq l0 a1 t123 (t123.length : Int) x136_4 (wrap64 (Go.bits .and .u32 (rd l0 a1) 63)) x110001_30 x110002_30 x110003_30 x110004_30 t110 t111 t112 t113 t114 t115 t116 = some (r1, r2, r3, r4, r5, r6, r7)) ∧ Aside0 (kq ≤ kj30) ∧ Aside0 (Kd.R (Kd.int .u32) 53 w' w.heap.size (fun _ => True) (.slice Ao78 t123.length co78) t123) ∧ Aside0 (w'.heap[gb107]? = some (.cells #[.int .i64 x108000_4, .int .i64 x108001_4, .int .i64 x108002_4, .int .i64 x108003_4, .int .i64 x108004_4] 42 (0, 0))) ∧ Aside0 (w'.heap[gb109]? = some (.cells #[.int .i64 (wrap64 (Go.bits .and .u32 (rd l0 a1) 63)), .int .i64 x110001_30, .int .i64 x110002_30, .int .i64 x110003_30, .int .i64 x110004_30] 42 (0, 0))) ∧ Aside0 (w'.heap[gb118]? = some (.cells #[.string t110, .int .i64 t111, .bool t112, .bool t113, .bool t114, .bool t115, .int .i64 t116] 87 (0, 0))) ∧ Aside0 (Below w.heap.size w w'))
                          case atStart => exact ⟨(0), (0), (0), (0), (0), (0), (by first | rfl | (simp; done) | (simp [*]; done)), H', ⟨Nat.le_refl _⟩, ⟨by (with_reducible repeat (first | apply Kd.R_alloc | apply Kd.R_drewN | apply Kd.R_drew)); exact HO125.out⟩, ⟨by (with_reducible repeat (first | refine blk_drewN ?_ _ | refine blk_drew ?_ | refine blk_alloc ?_ _)); exact BK107.out⟩, ⟨by (with_reducible repeat (first | refine blk_drewN ?_ _ | refine blk_drew ?_ | refine blk_alloc ?_ _)); exact BK109.out⟩, ⟨by (with_reducible repeat (first | refine blk_drewN ?_ _ | refine blk_drew ?_ | refine blk_alloc ?_ _)); exact BK118.out⟩, ⟨by repeat (first | (with_reducible first | exact HB.out | apply below_alloc | apply pw_below_drewN | apply below_drew1 | refine below_set ?_ GE107.out | refine below_set ?_ GE109.out | refine below_set ?_ GE118.out) | exact HB.out)⟩⟩
                          case round =>
                            clear H'
                            try clear c1
                            try clear p1
                            try clear q1
                            try clear hx1
                            try clear c2
                            try clear p2
                            try clear c3
                            try clear p3
                            try clear c4
                            try clear c5
                            try clear c5b0
                            try clear c6
                            try clear p6
                            try clear c7
                            try clear c8
                            try clear c8b0
                            try clear c9
                            try clear c9b0
                            try clear p10
                            try clear q10
                            try clear hx10
                            try clear p12
                            try clear q12
                            try clear hx12
                            try clear c13
                            try clear c17
                            try clear c18
                            try clear c20
                            try clear c21
                            try clear c22
                            try clear c24
                            try clear c25
                            try clear c26
                            try clear c29
                            try clear c29b0
                            try clear c29b1
                            try clear c32
                            try clear p32
                            try clear c33
                            try clear c35
                            try clear c35b0
                            try clear c35b1
                            try clear c36
                            try clear c37
                            try clear c39
                            try clear c39b0
                            try clear c39b1
                            try clear c40
                            try clear c41
                            try clear c43
                            try clear c43b0
                            try clear c43b1
                            try clear c44
                            try clear c45
                            try clear c47
                            try clear c47b0
                            try clear c47b1
                            try clear c48
                            try clear c49
                            try clear c51
                            try clear c51b0
                            try clear c51b1
                            try clear c53
                            try clear c53b0
                            try clear c54
                            try clear c54b0
                            try clear c56
                            try clear c56b0
                            try clear c57
                            try clear c57b0
                            try clear c61
                            try clear c61b0
                            try clear c61b1
                            try clear c62
                            try clear c63
                            try clear p64
                            try clear c65
                            try clear c65b0
                            try clear c65b1
                            try clear c66
                            try clear c67
                            try clear c69
                            try clear c70
                            try clear c72
                            try clear c73
                            try clear hcz14_0
                            try clear hcz14_1
                            try clear hcz14_2
                            try clear hcz14_3
                            try clear hcz14_4
                            try clear hcz19_0
                            try clear hcz19_1
                            try clear hcz19_2
                            try clear hcz19_3
                            try clear hcz19_4
                            try clear hcz19_5
                            try clear hcz19_6
                            try clear hcz23_0
                            try clear hcz23_1
                            try clear hcz23_2
                            try clear hcz23_3
                            try clear hcz23_4
                            try clear hcz23_5
                            try clear hcz23_6
                            try clear hcz27_0
                            try clear hcz27_1
                            try clear hcz27_2
                            try clear hcz27_3
                            try clear hcz27_4
                            try clear hcz34_0
                            try clear hcz34_1
                            try clear hcz34_2
                            try clear hcz34_3
                            try clear hcz34_4
                            try clear hcz34_5
                            try clear hcz34_6
                            try clear hcz38_0
                            try clear hcz38_1
                            try clear hcz38_2
                            try clear hcz38_3
                            try clear hcz38_4
                            try clear hcz42_0
                            try clear hcz42_1
                            try clear hcz42_2
                            try clear hcz42_3
                            try clear hcz42_4
                            try clear hcz46_0
                            try clear hcz46_1
                            try clear hcz46_2
                            try clear hcz46_3
                            try clear hcz46_4
                            try clear hcz50_0
                            try clear hcz50_1
                            try clear hcz50_2
                            try clear hcz50_3
                            try clear hcz50_4
                            try clear hcz64_0
                            try clear hcz64_1
                            try clear hcz64_2
                            try clear hcz64_3
                            try clear hcz64_4
                            try clear hcz68_0
                            try clear hcz68_1
                            try clear hcz68_2
                            try clear hcz68_3
                            try clear hcz68_4
                            try clear hcz74_0
                            try clear hcz74_1
                            try clear hcz74_2
                            try clear hcz74_3
                            try clear hcz74_4
                            try clear hcz76_0
                            try clear hcz76_1
                            try clear hcz76_2
                            try clear hcz76_3
                            try clear hcz76_4
                            try clear hcz7_0
                            try clear hcz7_1
                            try clear hcz7_2
                            try clear hcz7_3
                            try clear hcz7_4
                            try clear hfz14_0
                            try clear hfz14_1
                            try clear hfz14_2
                            try clear hfz14_3
                            try clear hfz14_4
                            try clear hfz19_0
                            try clear hfz19_1
                            try clear hfz19_2
                            try clear hfz19_3
                            try clear hfz19_4
                            try clear hfz19_5
                            try clear hfz19_6
                            try clear hfz23_0
                            try clear hfz23_1
                            try clear hfz23_2
                            try clear hfz23_3
                            try clear hfz23_4
                            try clear hfz23_5
                            try clear hfz23_6
                            try clear hfz27_0
                            try clear hfz27_1
                            try clear hfz27_2
                            try clear hfz27_3
                            try clear hfz27_4
                            try clear hfz34_0
                            try clear hfz34_1
                            try clear hfz34_2
                            try clear hfz34_3
                            try clear hfz34_4
                            try clear hfz34_5
                            try clear hfz34_6
                            try clear hfz38_0
                            try clear hfz38_1
                            try clear hfz38_2
                            try clear hfz38_3
                            try clear hfz38_4
                            try clear hfz42_0
                            try clear hfz42_1
                            try clear hfz42_2
                            try clear hfz42_3
                            try clear hfz42_4
                            try clear hfz46_0
                            try clear hfz46_1
                            try clear hfz46_2
                            try clear hfz46_3
                            try clear hfz46_4
                            try clear hfz50_0
                            try clear hfz50_1
                            try clear hfz50_2
                            try clear hfz50_3
                            try clear hfz50_4
                            try clear hfz64_0
                            try clear hfz64_1
                            try clear hfz64_2
                            try clear hfz64_3
                            try clear hfz64_4
                            try clear hfz68_0
                            try clear hfz68_1
                            try clear hfz68_2
                            try clear hfz68_3
                            try clear hfz68_4
                            try clear hfz74_0
                            try clear hfz74_1
                            try clear hfz74_2
                            try clear hfz74_3
                            try clear hfz74_4
                            try clear hfz76_0
                            try clear hfz76_1
                            try clear hfz76_2
                            try clear hfz76_3
                            try clear hfz76_4
                            try clear hfz7_0
                            try clear hfz7_1
                            try clear hfz7_2
                            try clear hfz7_3
                            try clear hfz7_4
                            try clear hx108_0
                            try clear hx120_0
                            try clear hx121_0
                            try clear p1
                            try clear p10
                            try clear p108
                            try clear p12
                            try clear p120
                            try clear p121
                            try clear p2
                            try clear p3
                            try clear p32
                            try clear p6
                            try clear p64
                            try clear q1
                            try clear q10
                            try clear q108
                            try clear q12
                            try clear q120
                            try clear q121
                            obtain ⟨x136_4, x108000_4, x108001_4, x108002_4, x108003_4, x108004_4, rfl, HA, HK4, HO_134, BK107, BK109, BK118, HB⟩ := hrel
                            cases gk with
                            | zero => exact absurd HA.out (by simp [encoding_Decode.l0])
                            | succ k4 =>
                              have H := HA.out
                              clear HA
                              simp only [encoding_Decode.l0] at H
                              by_cases c79 : x136_4 < (t123.length : Int)
                              · rw [if_pos c79] at H
                                have c79b0 : decide (x136_4 < (t123.length : Int)) = true := decide_eq_true c79
                                clear c79
                                by_cases c80 : 0 ≤ x136_4
                                · rw [if_pos c80] at H
                                  have c80b0 : decide (0 ≤ x136_4) = true := decide_eq_true c80
                                  clear c80
                                  by_cases c81 : x136_4 < (t123.length : Int)
                                  · rw [if_pos c81] at H
                                    have c81b0 : decide (x136_4 < (t123.length : Int)) = true := decide_eq_true c81
                                    clear c81
                                    obtain ⟨ji82, hji82⟩ : ∃ j_ : Int, (wrap64 (a1 + x136_4)) = j_ := ⟨_, rfl⟩
                                    replace H : (if 0 ≤ (ji82) then (if (ji82) < (l0.length : Int) then (if (rd l0 (ji82)) = (rd t123 x136_4) then (encoding_Decode.l0 k4 l0 a1 t123 (t123.length : Int) (wrap64 (x136_4 + 1)) (wrap64 (Go.bits .and .u32 (rd l0 a1) 63)) x110001_30 x110002_30 x110003_30 x110004_30 t110 t111 t112 t113 t114 t115 t116) else (some (0, 0, 0, 0, 0, 0, 204))) else (none)) else (none)) = some (r1, r2, r3, r4, r5, r6, r7) := by first | (rw [hji82] at H; exact H) | (simp only [hji82] at H ⊢; exact H)
                                    have hji82w : (IntKind.i64.wrap (a1 + x136_4)) = ji82 := (i64_w _).trans hji82
                                    by_cases c83 : 0 ≤ (ji82)
                                    · rw [if_pos c83] at H
                                      have c83b0 : decide (0 ≤ (ji82)) = true := decide_eq_true c83
                                      clear c83
                                      by_cases c84 : (ji82) < (l0.length : Int)
                                      · rw [if_pos c84] at H
                                        have c84b0 : decide ((ji82) < (l0.length : Int)) = true := decide_eq_true c84
                                        clear c84
                                        by_cases c85 : (rd l0 (ji82)) = (rd t123 x136_4)
                                        · rw [if_pos c85] at H
                                          have c85b0 : ((rd l0 (ji82)) == (rd t123 x136_4)) = true := beq_iff_eq.mpr c85
                                          have c85b1 : ((rd l0 (ji82)) != (rd t123 x136_4)) = false := bne_eq_false_iff_eq.mpr c85
                                          clear c85
                                          have H' := Aside0.mk H
                                          clear H
                                          have p126 : 0 ≤ (x136_4 : Int) := of_decide_eq_true (by first | (with_reducible assumption) | assumption)
                                          have q126 : x136_4 < (t123.length : Int) := of_decide_eq_true (by first | (with_reducible assumption) | assumption)
                                          obtain ⟨ad126, e126, hx126_0⟩ := Kd.at_int (Kd.R_reads' HO_134.out).2.2 x136_4 p126 q126
                                          cases e126
                                          replace p126 := eq_true p126
                                          replace q126 := eq_true q126
                                          have p127 : 0 ≤ ((ji82) : Int) := of_decide_eq_true (by first | (with_reducible assumption) | assumption)
                                          have q127 : (ji82) < (l0.length : Int) := of_decide_eq_true (by first | (with_reducible assumption) | assumption)
                                          obtain ⟨ad127, e127, hx127_0⟩ := Kd.at_int HR0.out (ji82) p127 q127
                                          obtain rfl : ad108 = ad127 := (by injection e127)
                                          replace hx127_0 := (HB.out.cell (World.block_lt_of_cell? w _ hx127_0)).trans hx127_0
                                          replace p127 := eq_true p127
                                          replace q127 := eq_true q127
                                          go_wp2
                                          go_roundg k4
                                          case measure => have := HJ2.out; have := HJ10.out; have := HJ30.out; have := HK4.out; omega
                                          case rel => exact ⟨(wrap64 (x136_4 + 1)), (x108000_4), (x108001_4), (x108002_4), (x108003_4), (x108004_4), (by first | rfl | (simp; done) | (simp [*]; done)), H', ⟨by have := HJ2.out; have := HJ10.out; have := HJ30.out; have := HK4.out; omega⟩, ⟨by (with_reducible repeat (first | apply Kd.R_alloc | apply Kd.R_drewN | apply Kd.R_drew)); exact HO_134.out⟩, ⟨by (with_reducible repeat (first | refine blk_drewN ?_ _ | refine blk_drew ?_ | refine blk_alloc ?_ _)); exact BK107.out⟩, ⟨by (with_reducible repeat (first | refine blk_drewN ?_ _ | refine blk_drew ?_ | refine blk_alloc ?_ _)); exact BK109.out⟩, ⟨by (with_reducible repeat (first | refine blk_drewN ?_ _ | refine blk_drew ?_ | refine blk_alloc ?_ _)); exact BK118.out⟩, ⟨by repeat (first | (with_reducible first | exact HB.out | apply below_alloc | apply pw_below_drewN | apply below_drew1 | refine below_set ?_ GE107.out | refine below_set ?_ GE109.out | refine below_set ?_ GE118.out) | exact HB.out)⟩⟩
                                        · rw [if_neg c85] at H
                                          have c85b0 : ((rd l0 (ji82)) == (rd t123 x136_4)) = false := beq_eq_false_iff_ne.mpr c85
                                          have c85b1 : ((rd l0 (ji82)) != (rd t123 x136_4)) = true := bne_iff_ne.mpr c85
                                          simp only [Option.some.injEq, Prod.mk.injEq] at H
                                          obtain ⟨rfl, rfl, rfl, rfl, rfl, rfl, rfl⟩ := H
                                          have p126 : 0 ≤ (x136_4 : Int) := of_decide_eq_true (by first | (with_reducible assumption) | assumption)
                                          have q126 : x136_4 < (t123.length : Int) := of_decide_eq_true (by first | (with_reducible assumption) | assumption)
                                          obtain ⟨ad126, e126, hx126_0⟩ := Kd.at_int (Kd.R_reads' HO_134.out).2.2 x136_4 p126 q126
                                          cases e126
                                          replace p126 := eq_true p126
                                          replace q126 := eq_true q126
                                          have p127 : 0 ≤ ((ji82) : Int) := of_decide_eq_true (by first | (with_reducible assumption) | assumption)
                                          have q127 : (ji82) < (l0.length : Int) := of_decide_eq_true (by first | (with_reducible assumption) | assumption)
                                          obtain ⟨ad127, e127, hx127_0⟩ := Kd.at_int HR0.out (ji82) p127 q127
                                          obtain rfl : ad108 = ad127 := (by injection e127)
                                          replace hx127_0 := (HB.out.cell (World.block_lt_of_cell? w _ hx127_0)).trans hx127_0
                                          replace p127 := eq_true p127
                                          replace q127 := eq_true q127
                                          have hnb86 := NB107_109.out
                                          have hnc86 := NB109_107.out
                                          have hnb87 := NB107_118.out
                                          have hnc87 := NB118_107.out
                                          have hcz88_0 : wr.cell? ⟨gb107, 0, none⟩ = some (.int .i64 x108000_4) := (blk_cell BK107.out 0).trans rfl
                                          have hcz88_1 : wr.cell? ⟨gb107, 1, none⟩ = some (.int .i64 x108001_4) := (blk_cell BK107.out 1).trans rfl
                                          have hcz88_2 : wr.cell? ⟨gb107, 2, none⟩ = some (.int .i64 x108002_4) := (blk_cell BK107.out 2).trans rfl
                                          have hcz88_3 : wr.cell? ⟨gb107, 3, none⟩ = some (.int .i64 x108003_4) := (blk_cell BK107.out 3).trans rfl
                                          have hcz88_4 : wr.cell? ⟨gb107, 4, none⟩ = some (.int .i64 x108004_4) := (blk_cell BK107.out 4).trans rfl
                                          have hfz88_0 := blk_frozen BK107.out 0
                                          have hfz88_1 := blk_frozen BK107.out 1
                                          have hfz88_2 := blk_frozen BK107.out 2
                                          have hfz88_3 := blk_frozen BK107.out 3
                                          have hfz88_4 := blk_frozen BK107.out 4
                                          go_wp2
                                          refine bodyPost_ret (results_ctt rfl _ _ gb107 42 #[.int .i64 0, .int .i64 0, .int .i64 0, .int .i64 0, .int .i64 0] (0, 0) _ rfl (by (with_reducible repeat (first | refine blk_drewN ?_ _ | refine blk_drew ?_ | refine blk_alloc ?_ _)); refine blk_put (cs := #[.int .i64 0, .int .i64 0, .int .i64 0, .int .i64 0, .int .i64 x108004_4]) ?_ 4 _ rfl; (with_reducible repeat (first | refine blk_drewN ?_ _ | refine blk_drew ?_ | refine blk_alloc ?_ _)); refine blk_put (cs := #[.int .i64 0, .int .i64 0, .int .i64 0, .int .i64 x108003_4, .int .i64 x108004_4]) ?_ 3 _ rfl; (with_reducible repeat (first | refine blk_drewN ?_ _ | refine blk_drew ?_ | refine blk_alloc ?_ _)); refine blk_put (cs := #[.int .i64 0, .int .i64 0, .int .i64 x108002_4, .int .i64 x108003_4, .int .i64 x108004_4]) ?_ 2 _ rfl; (with_reducible repeat (first | refine blk_drewN ?_ _ | refine blk_drew ?_ | refine blk_alloc ?_ _)); refine blk_put (cs := #[.int .i64 0, .int .i64 x108001_4, .int .i64 x108002_4, .int .i64 x108003_4, .int .i64 x108004_4]) ?_ 1 _ rfl; (with_reducible repeat (first | refine blk_drewN ?_ _ | refine blk_drew ?_ | refine blk_alloc ?_ _)); refine blk_put (cs := #[.int .i64 x108000_4, .int .i64 x108001_4, .int .i64 x108002_4, .int .i64 x108003_4, .int .i64 x108004_4]) ?_ 0 _ rfl; (with_reducible repeat (first | refine blk_drewN ?_ _ | refine blk_drew ?_ | refine blk_alloc ?_ _)); exact BK107.out) Tryd.underlying42 rfl (by kernel_rfl)) rfl ?_
                                          exact ⟨by first | rfl | (simp [errW_none, errW_some] <;> rfl) | (simp only [← hji30, ← hji82]; first | rfl | (simp [errW_none, errW_some] <;> rfl)) | (simp [*, errW_none, errW_some] <;> rfl), by repeat (first | (with_reducible first | exact HB.out | apply below_alloc | apply pw_below_drewN | apply below_drew1 | refine below_set ?_ GE107.out | refine below_set ?_ GE109.out | refine below_set ?_ GE118.out) | exact HB.out)⟩
                                      · rw [if_neg c84] at H
                                        exact absurd H (by simp)
                                    · rw [if_neg c83] at H
                                      exact absurd H (by simp)
                                  · rw [if_neg c81] at H
                                    exact absurd H (by simp)
                                · rw [if_neg c80] at H
                                  exact absurd H (by simp)
                              · rw [if_neg c79] at H
                                have c79b0 : decide (x136_4 < (t123.length : Int)) = false := decide_eq_false c79
                                clear c79
                                simp only [Option.some.injEq, Prod.mk.injEq] at H
                                obtain ⟨rfl, rfl, rfl, rfl, rfl, rfl, rfl⟩ := H
                                try go_wp2
                                have n0_ := Aside0.mk (Kd.R_drew HO_134.out)
                                have n1_ := Aside0.mk (blk_drew BK107.out)
                                have n2_ := Aside0.mk (blk_drew BK109.out)
                                have n3_ := Aside0.mk (blk_drew BK118.out)
                                have n4_ := Aside0.mk (below_drew1 HB.out)
                                clear HO_134
                                clear BK107
                                clear BK109
                                clear BK118
                                clear HB
                                have HO_134 := n0_
                                have BK107 := n1_
                                have BK109 := n2_
                                have BK118 := n3_
                                have HB := n4_
                                clear n0_ n1_ n2_ n3_ n4_
                                refine start_ (n := 6) (S := fun w' => w'.cell? ⟨gb109, 0, none⟩ = some (.int .i64 (wrap64 (Go.bits .and .u32 (rd l0 a1) 63))) ∧ w'.cell? ⟨gb109, 1, none⟩ = some (.int .i64 x110001_30) ∧ w'.cell? ⟨gb109, 2, none⟩ = some (.int .i64 x110002_30) ∧ w'.cell? ⟨gb109, 3, none⟩ = some (.int .i64 x110003_30) ∧ w'.cell? ⟨gb109, 4, none⟩ = some (.int .i64 x110004_30) ∧ w'.cell? ⟨gb118, 0, none⟩ = some (.string t110) ∧ w'.cell? ⟨gb118, 1, none⟩ = some (.int .i64 t111) ∧ w'.cell? ⟨gb118, 2, none⟩ = some (.bool t112) ∧ w'.cell? ⟨gb118, 3, none⟩ = some (.bool t113) ∧ w'.cell? ⟨gb118, 4, none⟩ = some (.bool t114) ∧ w'.cell? ⟨gb118, 5, none⟩ = some (.bool t115) ∧ w'.cell? ⟨gb118, 6, none⟩ = some (.int .i64 t116)) (ds := []) #[false, false, false, false, false, false] (by kernel_rfl) rfl rfl ⟨(blk_cell BK109.out 0).trans rfl, (blk_cell BK109.out 1).trans rfl, (blk_cell BK109.out 2).trans rfl, (blk_cell BK109.out 3).trans rfl, (blk_cell BK109.out 4).trans rfl, (blk_cell BK118.out 0).trans rfl, (blk_cell BK118.out 1).trans rfl, (blk_cell BK118.out 2).trans rfl, (blk_cell BK118.out 3).trans rfl, (blk_cell BK118.out 4).trans rfl, (blk_cell BK118.out 5).trans rfl, (blk_cell BK118.out 6).trans rfl⟩ (fun hHeld => ?_)
                                generalize wr.drew = w89 at HO_134 BK107 BK109 BK118 HB hHeld ⊢
                                refine pure_ (i := 1) (N := some 152) (v := ?_) (a' := ?_) #[false, true, false, false, false, false] rfl rfl (by kernel_rfl) (fun _ _ _ h => h) (Or.inl ⟨by rfl, ?_⟩) ?_ ?_
                                rotate_left
                                · intro w'
                                  go_simp
                                  with_reducible rfl
                                rotate_left
                                · simp only [Act.put, List.setIfInBounds_toArray, List.set_cons_zero, List.set_cons_succ, i64_w, i32_w]
                                  rfl
                                refine take_ (i := 0) (N := some 151) (v := ?_) (a' := ?_) #[true, true, false, false, false, false] rfl rfl (by kernel_rfl) (fun _ _ _ h => h) (Or.inl ⟨by rfl, ?_⟩) hHeld ?_ ?_
                                rotate_left
                                · rintro w' ⟨s0, s1, s2, s3, s4, s5, s6, s7, s8, s9, s10, s11⟩
                                  go_simp
                                  with_reducible rfl
                                rotate_left
                                · simp only [Act.put, List.setIfInBounds_toArray, List.set_cons_zero, List.set_cons_succ, i64_w, i32_w]
                                  rfl
                                refine take_ (i := 2) (N := some 153) (v := ?_) (a' := ?_) #[true, true, true, false, false, false] rfl rfl (by kernel_rfl) (fun _ _ _ h => h) (Or.inl ⟨by rfl, ?_⟩) hHeld ?_ ?_
                                rotate_left
                                · rintro w' ⟨s0, s1, s2, s3, s4, s5, s6, s7, s8, s9, s10, s11⟩
                                  go_simp
                                  with_reducible rfl
                                rotate_left
                                · simp only [Act.put, List.setIfInBounds_toArray, List.set_cons_zero, List.set_cons_succ, i64_w, i32_w]
                                  rfl
                                refine one_ (i := 3) (N := none) #[true, true, true, true, false, false] rfl rfl (by kernel_rfl) (by decide) (fun K hK => ?_)
                                have hs90 : w89.cell? ⟨gb107, 0, none⟩ = some (.int .i64 x108000_4) := (blk_cell BK107.out 0).trans rfl
                                have hfs90 := blk_frozen BK107.out 0
                                have hns90_1 := NB109_107.out
                                have hns90_2 := NB118_107.out
                                have hms90_1 := NB107_109.out
                                have hms90_2 := NB107_118.out
                                have hs91 : w89.cell? ⟨gb107, 1, none⟩ = some (.int .i64 x108001_4) := (blk_cell BK107.out 1).trans rfl
                                have hfs91 := blk_frozen BK107.out 1
                                have hns91_1 := NB109_107.out
                                have hns91_2 := NB118_107.out
                                have hms91_1 := NB107_109.out
                                have hms91_2 := NB107_118.out
                                have hs92 : w89.cell? ⟨gb107, 2, none⟩ = some (.int .i64 x108002_4) := (blk_cell BK107.out 2).trans rfl
                                have hfs92 := blk_frozen BK107.out 2
                                have hns92_1 := NB109_107.out
                                have hns92_2 := NB118_107.out
                                have hms92_1 := NB107_109.out
                                have hms92_2 := NB107_118.out
                                have hs93 : w89.cell? ⟨gb107, 3, none⟩ = some (.int .i64 x108003_4) := (blk_cell BK107.out 3).trans rfl
                                have hfs93 := blk_frozen BK107.out 3
                                have hns93_1 := NB109_107.out
                                have hns93_2 := NB118_107.out
                                have hms93_1 := NB107_109.out
                                have hms93_2 := NB107_118.out
                                have hs94 : w89.cell? ⟨gb107, 4, none⟩ = some (.int .i64 x108004_4) := (blk_cell BK107.out 4).trans rfl
                                have hfs94 := blk_frozen BK107.out 4
                                have hns94_1 := NB109_107.out
                                have hns94_2 := NB118_107.out
                                have hms94_1 := NB107_109.out
                                have hms94_2 := NB107_118.out
                                refine skip_ (w1 := ?_) (by rfl) rfl ?_ ?_
                                rotate_left
                                · go_simp
                                  rfl
                                refine hK.out _ _ ⟨((cell_far (p := ⟨gb107, _, none⟩) NB109_107.out _).trans (((cell_far (p := ⟨gb107, _, none⟩) NB109_107.out _).trans (((cell_far (p := ⟨gb107, _, none⟩) NB109_107.out _).trans (((cell_far (p := ⟨gb107, _, none⟩) NB109_107.out _).trans (((cell_far (p := ⟨gb107, _, none⟩) NB109_107.out _).trans (hHeld.1)))))))))), ((cell_far (p := ⟨gb107, _, none⟩) NB109_107.out _).trans (((cell_far (p := ⟨gb107, _, none⟩) NB109_107.out _).trans (((cell_far (p := ⟨gb107, _, none⟩) NB109_107.out _).trans (((cell_far (p := ⟨gb107, _, none⟩) NB109_107.out _).trans (((cell_far (p := ⟨gb107, _, none⟩) NB109_107.out _).trans (hHeld.2.1)))))))))), ((cell_far (p := ⟨gb107, _, none⟩) NB109_107.out _).trans (((cell_far (p := ⟨gb107, _, none⟩) NB109_107.out _).trans (((cell_far (p := ⟨gb107, _, none⟩) NB109_107.out _).trans (((cell_far (p := ⟨gb107, _, none⟩) NB109_107.out _).trans (((cell_far (p := ⟨gb107, _, none⟩) NB109_107.out _).trans (hHeld.2.2.1)))))))))), ((cell_far (p := ⟨gb107, _, none⟩) NB109_107.out _).trans (((cell_far (p := ⟨gb107, _, none⟩) NB109_107.out _).trans (((cell_far (p := ⟨gb107, _, none⟩) NB109_107.out _).trans (((cell_far (p := ⟨gb107, _, none⟩) NB109_107.out _).trans (((cell_far (p := ⟨gb107, _, none⟩) NB109_107.out _).trans (hHeld.2.2.2.1)))))))))), ((cell_far (p := ⟨gb107, _, none⟩) NB109_107.out _).trans (((cell_far (p := ⟨gb107, _, none⟩) NB109_107.out _).trans (((cell_far (p := ⟨gb107, _, none⟩) NB109_107.out _).trans (((cell_far (p := ⟨gb107, _, none⟩) NB109_107.out _).trans (((cell_far (p := ⟨gb107, _, none⟩) NB109_107.out _).trans (hHeld.2.2.2.2.1)))))))))), ((cell_far (p := ⟨gb107, _, none⟩) NB118_107.out _).trans (((cell_far (p := ⟨gb107, _, none⟩) NB118_107.out _).trans (((cell_far (p := ⟨gb107, _, none⟩) NB118_107.out _).trans (((cell_far (p := ⟨gb107, _, none⟩) NB118_107.out _).trans (((cell_far (p := ⟨gb107, _, none⟩) NB118_107.out _).trans (hHeld.2.2.2.2.2.1)))))))))), ((cell_far (p := ⟨gb107, _, none⟩) NB118_107.out _).trans (((cell_far (p := ⟨gb107, _, none⟩) NB118_107.out _).trans (((cell_far (p := ⟨gb107, _, none⟩) NB118_107.out _).trans (((cell_far (p := ⟨gb107, _, none⟩) NB118_107.out _).trans (((cell_far (p := ⟨gb107, _, none⟩) NB118_107.out _).trans (hHeld.2.2.2.2.2.2.1)))))))))), ((cell_far (p := ⟨gb107, _, none⟩) NB118_107.out _).trans (((cell_far (p := ⟨gb107, _, none⟩) NB118_107.out _).trans (((cell_far (p := ⟨gb107, _, none⟩) NB118_107.out _).trans (((cell_far (p := ⟨gb107, _, none⟩) NB118_107.out _).trans (((cell_far (p := ⟨gb107, _, none⟩) NB118_107.out _).trans (hHeld.2.2.2.2.2.2.2.1)))))))))), ((cell_far (p := ⟨gb107, _, none⟩) NB118_107.out _).trans (((cell_far (p := ⟨gb107, _, none⟩) NB118_107.out _).trans (((cell_far (p := ⟨gb107, _, none⟩) NB118_107.out _).trans (((cell_far (p := ⟨gb107, _, none⟩) NB118_107.out _).trans (((cell_far (p := ⟨gb107, _, none⟩) NB118_107.out _).trans (hHeld.2.2.2.2.2.2.2.2.1)))))))))), ((cell_far (p := ⟨gb107, _, none⟩) NB118_107.out _).trans (((cell_far (p := ⟨gb107, _, none⟩) NB118_107.out _).trans (((cell_far (p := ⟨gb107, _, none⟩) NB118_107.out _).trans (((cell_far (p := ⟨gb107, _, none⟩) NB118_107.out _).trans (((cell_far (p := ⟨gb107, _, none⟩) NB118_107.out _).trans (hHeld.2.2.2.2.2.2.2.2.2.1)))))))))), ((cell_far (p := ⟨gb107, _, none⟩) NB118_107.out _).trans (((cell_far (p := ⟨gb107, _, none⟩) NB118_107.out _).trans (((cell_far (p := ⟨gb107, _, none⟩) NB118_107.out _).trans (((cell_far (p := ⟨gb107, _, none⟩) NB118_107.out _).trans (((cell_far (p := ⟨gb107, _, none⟩) NB118_107.out _).trans (hHeld.2.2.2.2.2.2.2.2.2.2.1)))))))))), ((cell_far (p := ⟨gb107, _, none⟩) NB118_107.out _).trans (((cell_far (p := ⟨gb107, _, none⟩) NB118_107.out _).trans (((cell_far (p := ⟨gb107, _, none⟩) NB118_107.out _).trans (((cell_far (p := ⟨gb107, _, none⟩) NB118_107.out _).trans (((cell_far (p := ⟨gb107, _, none⟩) NB118_107.out _).trans (hHeld.2.2.2.2.2.2.2.2.2.2.2))))))))))⟩ (fun hHeld => ?_)
                                clear hK K
                                refine pure_ (i := 4) (N := some 5) (v := ?_) (a' := ?_) #[true, true, true, true, true, false] rfl rfl (by kernel_rfl) (fun _ _ _ h => h) (Or.inl ⟨by rfl, ?_⟩) ?_ ?_
                                rotate_left
                                · intro w'
                                  go_simp
                                  with_reducible rfl
                                rotate_left
                                · simp only [Act.put, List.setIfInBounds_toArray, List.set_cons_zero, List.set_cons_succ, i64_w, i32_w]
                                  rfl
                                refine pure_ (i := 5) (N := some 6) (v := ?_) (a' := ?_) #[true, true, true, true, true, true] rfl rfl (by kernel_rfl) (fun _ _ _ h => h) (Or.inl ⟨by rfl, ?_⟩) ?_ ?_
                                rotate_left
                                · intro w'
                                  go_simp
                                  with_reducible rfl
                                rotate_left
                                · simp only [Act.put, List.setIfInBounds_toArray, List.set_cons_zero, List.set_cons_succ, i64_w, i32_w]
                                  rfl
                                refine done_ (by kernel_rfl) ?_
                                try go_wp2
                                refine bodyPost_ret (results_ctt rfl _ _ gb107 42 #[.int .i64 (wrap64 (Go.bits .and .u32 (rd l0 a1) 63)), .int .i64 x110001_30, .int .i64 x110002_30, .int .i64 x110003_30, .int .i64 x110004_30] (0, 0) _ rfl (by (with_reducible repeat (first | refine blk_drewN ?_ _ | refine blk_drew ?_ | refine blk_alloc ?_ _)); refine blk_put (cs := #[.int .i64 (wrap64 (Go.bits .and .u32 (rd l0 a1) 63)), .int .i64 x110001_30, .int .i64 x110002_30, .int .i64 x110003_30, .int .i64 x108004_4]) ?_ 4 _ rfl; (with_reducible repeat (first | refine blk_drewN ?_ _ | refine blk_drew ?_ | refine blk_alloc ?_ _)); refine blk_put (cs := #[.int .i64 (wrap64 (Go.bits .and .u32 (rd l0 a1) 63)), .int .i64 x110001_30, .int .i64 x110002_30, .int .i64 x108003_4, .int .i64 x108004_4]) ?_ 3 _ rfl; (with_reducible repeat (first | refine blk_drewN ?_ _ | refine blk_drew ?_ | refine blk_alloc ?_ _)); refine blk_put (cs := #[.int .i64 (wrap64 (Go.bits .and .u32 (rd l0 a1) 63)), .int .i64 x110001_30, .int .i64 x108002_4, .int .i64 x108003_4, .int .i64 x108004_4]) ?_ 2 _ rfl; (with_reducible repeat (first | refine blk_drewN ?_ _ | refine blk_drew ?_ | refine blk_alloc ?_ _)); refine blk_put (cs := #[.int .i64 (wrap64 (Go.bits .and .u32 (rd l0 a1) 63)), .int .i64 x108001_4, .int .i64 x108002_4, .int .i64 x108003_4, .int .i64 x108004_4]) ?_ 1 _ rfl; (with_reducible repeat (first | refine blk_drewN ?_ _ | refine blk_drew ?_ | refine blk_alloc ?_ _)); refine blk_put (cs := #[.int .i64 x108000_4, .int .i64 x108001_4, .int .i64 x108002_4, .int .i64 x108003_4, .int .i64 x108004_4]) ?_ 0 _ rfl; (with_reducible repeat (first | refine blk_drewN ?_ _ | refine blk_drew ?_ | refine blk_alloc ?_ _)); exact BK107.out) Tryd.underlying42 rfl (by kernel_rfl)) rfl ?_
                                exact ⟨by first | rfl | (simp [errW_none, errW_some] <;> rfl) | (simp only [← hji30]; first | rfl | (simp [errW_none, errW_some] <;> rfl)) | (simp [*, errW_none, errW_some] <;> rfl), by repeat (first | (with_reducible first | exact HB.out | apply below_alloc | apply pw_below_drewN | apply below_drew1 | refine below_set ?_ GE107.out | refine below_set ?_ GE109.out | refine below_set ?_ GE118.out) | exact HB.out)⟩
                        · replace c70 := Bool.eq_false_iff.mpr c70
                          subst c70
                          have H1 : (some (0, 0, 0, 0, 0, 0, 204)) = some (r1, r2, r3, r4, r5, r6, r7) := by rw [if_neg (show ¬ (false = true) by decide)] at H; exact H
                          clear H
                          have H := H1
                          clear H1
                          simp only [Option.some.injEq, Prod.mk.injEq] at H
                          obtain ⟨rfl, rfl, rfl, rfl, rfl, rfl, rfl⟩ := H
                          have hnb95 := NB109_107.out
                          have hnc95 := NB107_109.out
                          have hnb96 := NB109_118.out
                          have hnc96 := NB118_109.out
                          have hcz97_0 : wc.cell? ⟨gb109, 0, none⟩ = some (.int .i64 (wrap64 (Go.bits .and .u32 (rd l0 a1) 63))) := (blk_cell BK109.out 0).trans rfl
                          have hcz97_1 : wc.cell? ⟨gb109, 1, none⟩ = some (.int .i64 x110001_30) := (blk_cell BK109.out 1).trans rfl
                          have hcz97_2 : wc.cell? ⟨gb109, 2, none⟩ = some (.int .i64 x110002_30) := (blk_cell BK109.out 2).trans rfl
                          have hcz97_3 : wc.cell? ⟨gb109, 3, none⟩ = some (.int .i64 x110003_30) := (blk_cell BK109.out 3).trans rfl
                          have hcz97_4 : wc.cell? ⟨gb109, 4, none⟩ = some (.int .i64 x110004_30) := (blk_cell BK109.out 4).trans rfl
                          have hfz97_0 := blk_frozen BK109.out 0
                          have hfz97_1 := blk_frozen BK109.out 1
                          have hfz97_2 := blk_frozen BK109.out 2
                          have hfz97_3 := blk_frozen BK109.out 3
                          have hfz97_4 := blk_frozen BK109.out 4
                          go_wp2_with (first | ((with_reducible refine gate_callee (f := 69) rfl ?_); refine goesL_ (some 130) rfl rfl Tryd.func69 (by kernel_rfl) rfl #[.agg #[.int .i64 (wrap64 (Go.bits .and .u32 (rd l0 a1) 63)), .int .i64 x110001_30, .int .i64 x110002_30, .int .i64 x110003_30, .int .i64 x110004_30]] rfl (by (try simp only [List.map_toArray, List.map_cons, List.map_nil]); first | done | rfl | (simp only [List.length_drop, List.length_take]; rfl)) ?_; (with_reducible refine (machine_Valid.calls (wrap64 (Go.bits .and .u32 (rd l0 a1) 63)) x110001_30 x110002_30 x110003_30 x110004_30 false _ A69.out ?side1).mono ?_); (case side1 => exact TabOK.aside HT.out (by repeat (first | (with_reducible first | exact HB.out | apply below_alloc | apply pw_below_drewN | apply below_drew1 | refine below_set ?_ GE107.out | refine below_set ?_ GE109.out | refine below_set ?_ GE118.out) | exact HB.out))); rintro e w98 ⟨rfl, hb⟩; refine ⟨_, rfl, ?_⟩; have n0_ := Aside0.mk (blk_below (g := gb107) (o := .cells #[.int .i64 0, .int .i64 0, .int .i64 0, .int .i64 0, .int .i64 0] 42 (0, 0)) (by (with_reducible repeat (first | refine blk_drewN ?_ _ | refine blk_drew ?_ | refine blk_alloc ?_ _)); exact BK107.out) hb); have n1_ := Aside0.mk (blk_below (g := gb109) (o := .cells #[.int .i64 (wrap64 (Go.bits .and .u32 (rd l0 a1) 63)), .int .i64 x110001_30, .int .i64 x110002_30, .int .i64 x110003_30, .int .i64 x110004_30] 42 (0, 0)) (by (with_reducible repeat (first | refine blk_drewN ?_ _ | refine blk_drew ?_ | refine blk_alloc ?_ _)); exact BK109.out) hb); have n2_ := Aside0.mk (blk_below (g := gb118) (o := .cells #[.string t110, .int .i64 t111, .bool t112, .bool t113, .bool t114, .bool t115, .int .i64 t116] 87 (0, 0)) (by (with_reducible repeat (first | refine blk_drewN ?_ _ | refine blk_drew ?_ | refine blk_alloc ?_ _)); exact BK118.out) hb); have n3_ := Aside0.mk (below_step (by repeat (first | (with_reducible first | exact HB.out | apply below_alloc | apply pw_below_drewN | apply below_drew1 | refine below_set ?_ GE107.out | refine below_set ?_ GE109.out | refine below_set ?_ GE118.out) | exact HB.out)) hb); clear BK107; clear BK109; clear BK118; clear HB; have BK107 := n0_; have BK109 := n1_; have BK118 := n2_; have HB := n3_; clear n0_ n1_ n2_ n3_; (try clear hb); (try clear hb2); (try clear hk); (try clear hi); have hnb99 := NB107_118.out; have hnc99 := NB118_107.out; have hcz100_0 : w98.cell? ⟨gb107, 0, none⟩ = some (.int .i64 0) := (blk_cell BK107.out 0).trans rfl; have hcz100_1 : w98.cell? ⟨gb107, 1, none⟩ = some (.int .i64 0) := (blk_cell BK107.out 1).trans rfl; have hcz100_2 : w98.cell? ⟨gb107, 2, none⟩ = some (.int .i64 0) := (blk_cell BK107.out 2).trans rfl; have hcz100_3 : w98.cell? ⟨gb107, 3, none⟩ = some (.int .i64 0) := (blk_cell BK107.out 3).trans rfl; have hcz100_4 : w98.cell? ⟨gb107, 4, none⟩ = some (.int .i64 0) := (blk_cell BK107.out 4).trans rfl; have hfz100_0 := blk_frozen BK107.out 0; have hfz100_1 := blk_frozen BK107.out 1; have hfz100_2 := blk_frozen BK107.out 2; have hfz100_3 := blk_frozen BK107.out 3; have hfz100_4 := blk_frozen BK107.out 4))
                          refine bodyPost_ret (results_ctt rfl _ _ gb107 42 #[.int .i64 0, .int .i64 0, .int .i64 0, .int .i64 0, .int .i64 0] (0, 0) _ rfl (by (with_reducible repeat (first | refine blk_drewN ?_ _ | refine blk_drew ?_ | refine blk_alloc ?_ _)); refine blk_put (cs := #[.int .i64 0, .int .i64 0, .int .i64 0, .int .i64 0, .int .i64 0]) ?_ 4 _ rfl; (with_reducible repeat (first | refine blk_drewN ?_ _ | refine blk_drew ?_ | refine blk_alloc ?_ _)); refine blk_put (cs := #[.int .i64 0, .int .i64 0, .int .i64 0, .int .i64 0, .int .i64 0]) ?_ 3 _ rfl; (with_reducible repeat (first | refine blk_drewN ?_ _ | refine blk_drew ?_ | refine blk_alloc ?_ _)); refine blk_put (cs := #[.int .i64 0, .int .i64 0, .int .i64 0, .int .i64 0, .int .i64 0]) ?_ 2 _ rfl; (with_reducible repeat (first | refine blk_drewN ?_ _ | refine blk_drew ?_ | refine blk_alloc ?_ _)); refine blk_put (cs := #[.int .i64 0, .int .i64 0, .int .i64 0, .int .i64 0, .int .i64 0]) ?_ 1 _ rfl; (with_reducible repeat (first | refine blk_drewN ?_ _ | refine blk_drew ?_ | refine blk_alloc ?_ _)); refine blk_put (cs := #[.int .i64 0, .int .i64 0, .int .i64 0, .int .i64 0, .int .i64 0]) ?_ 0 _ rfl; (with_reducible repeat (first | refine blk_drewN ?_ _ | refine blk_drew ?_ | refine blk_alloc ?_ _)); exact BK107.out) Tryd.underlying42 rfl (by kernel_rfl)) rfl ?_
                          exact ⟨by first | rfl | (simp [errW_none, errW_some] <;> rfl) | (simp only [← hji30]; first | rfl | (simp [errW_none, errW_some] <;> rfl)) | (simp [*, errW_none, errW_some] <;> rfl), by repeat (first | (with_reducible first | exact HB.out | apply below_alloc | apply pw_below_drewN | apply below_drew1 | refine below_set ?_ GE107.out | refine below_set ?_ GE109.out | refine below_set ?_ GE118.out) | exact HB.out)⟩
                  · rw [if_neg c29] at H
                    exact absurd H (by simp)
          · rw [if_neg c9] at H
            exact absurd H (by simp)
        · rw [if_neg c8] at H
          exact absurd H (by simp)
end Go.Proofs.YtcjidibdidijaaaDoor.PCod
