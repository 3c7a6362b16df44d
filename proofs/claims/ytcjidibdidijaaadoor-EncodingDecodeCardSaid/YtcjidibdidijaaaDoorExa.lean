/- fullinglaw30.EncodingExamples: it hands back true. -/
import Derived.Test.YtcjidibdidijaaaDoorCT
import Derived.Test.YtcjidibdidijaaaDoorEncP
import Derived.Test.YtcjidibdidijaaaDoorDecP
import Derived.Test.YtcjidibdidijaaaDoorKeepP
import Derived.Test.YtcjidibdidijaaaDoorBlk
import Derived.Outline
namespace Go.Proofs.YtcjidibdidijaaaDoor
open Go.RowKit Go.Proofs.YtcjidibdidijaaaDoor.PCod Go.Proofs.YtcjidibdidijaaaDoorW.PrintWords Go.Proofs.YtcjidibdidijaaaDoorW.PrintMore
attribute [local go_sem high] eqA42
set_option linter.unusedVariables false
set_option linter.unusedSimpArgs false

def exI : List S42 := [⟨1, 0, 0, 0, 0⟩, ⟨13, 1, 0, 0, -1⟩, ⟨14, 2, 0, 0, -2⟩]
def exW : List Int := [1, 4294966861, 142, 4294967294, 4294967295]
theorem exEnc : encL exI = (exW, 0) := by decide +kernel
theorem exDec : decS exW 1 = (13, 1, 0, 0, -1, 1, 0) := by decide +kernel
theorem exBad : decS [513] 0 = errD := by decide +kernel
theorem exW_u32 : u32s exW := by unfold u32s exW; decide
def ExEnc (W : World) (e : Ending) (w' : World) : Prop := ∃ (A : Option Addr) (c : Nat), e = .returned (.tuple #[.slice A 5 c, .int .i64 0]) ∧ 5 ≤ c ∧ Kd.C (Kd.int .u32) w' A 5 exW ∧ Below W.heap.size W w'
theorem ex_enc (W : World) (b : Nat) (h : W.heap[b]? = some (.cells (insCells exI).toArray 42 (0, 0))) (HT : Aside0 (TabOK W)) : Calls Tryd.prog 33 #[.slice (some ⟨b, 0, none⟩) 3 3] W (ExEnc W) := by
  obtain ⟨k, hk⟩ := (enc_ev exI (by decide)).rounds
  rw [exEnc] at hk
  refine (encoding_Encode.calls k _ 3 exI _ _ W (C42_blk h (by decide)) (by decide) hk HT).mono ?_
  rintro e w' ⟨v0, rfl, hR, hb⟩
  obtain ⟨A, c, rfl, hc, hC⟩ := Kd.R_reads hR
  exact ⟨A, c, rfl, hc, hC, hb⟩
theorem ex_dec (W : World) (A : Option Addr) (c : Nat) (hc : 5 ≤ c) (hC : Kd.C (Kd.int .u32) W A 5 exW) (HT : Aside0 (TabOK W)) : Calls Tryd.prog 34 #[.slice A 5 c, .int .i64 1] W fun e w' =>
    e = .returned (.tuple #[.agg #[.int .i64 13, .int .i64 1, .int .i64 0, .int .i64 0, .int .i64 (-1)], .int .i64 1, .int .i64 0]) ∧ Below W.heap.size W w' := by
  obtain ⟨k, hk⟩ := (dec_ev exW exW_u32 (by decide) 1).rounds
  rw [exDec] at hk
  exact encoding_Decode.calls k A c exW 1 _ _ _ _ _ _ _ W hC hc hk HT
theorem ex_bad (W : World) (b : Nat) (h : W.heap[b]? = some (.cells (nums .u32 [513]).toArray 53 (0, 0))) (HT : Aside0 (TabOK W)) : Calls Tryd.prog 34 #[.slice (some ⟨b, 0, none⟩) 1 1, .int .i64 0] W fun e w' =>
    e = .returned (.tuple #[.agg #[.int .i64 0, .int .i64 0, .int .i64 0, .int .i64 0, .int .i64 0], .int .i64 0, .int .i64 204]) ∧ Below W.heap.size W w' := by
  obtain ⟨k, hk⟩ := (dec_ev [513] (by unfold u32s; decide) (by decide) 0).rounds
  rw [exBad] at hk
  exact encoding_Decode.calls k _ 1 [513] 0 _ _ _ _ _ _ _ W (C32_blk h (by decide)) (by decide) hk HT
theorem ex_same (W : World) (A : Option Addr) (c : Nat) (hc : 5 ≤ c) (hC : Kd.C (Kd.int .u32) W A 5 exW) (b : Nat) (h : W.heap[b]? = some (.cells (nums .u32 exW).toArray 53 (0, 0))) :
    Calls Tryd.prog 35 #[.slice A 5 c, .slice (some ⟨b, 0, none⟩) 5 5] W fun e w' => e = .returned (.bool true) ∧ Drawn0 W w' := by
  obtain ⟨k, hk⟩ := (sameW_ev exW (by decide)).rounds
  exact fullingref32_SameWords.calls k A c exW _ 5 exW _ W hC hc (C32_blk h (by decide)) (by decide) hk
set_option maxRecDepth 100000 in
set_option maxHeartbeats 4000000 in
theorem exa_calls (r : Bool) (w : World) (h : some true = some r) (HT : Aside0 (TabOK w)) : Calls Tryd.prog 5 #[] w fun e w' => e = .returned (.bool r) ∧ Below w.heap.size w w' := by
  obtain rfl := Option.some.inj h
  clear h
  go_enter Tryd.func5, Tryd.ntmps5
  go_wp2_with fail
  refine (ex_enc _ w.heap.size ?hb ?ht).mono ?_
  case hb => exact blk_new _ _
  case ht => exact TabOK.aside HT.out ((Below.refl _ _).alloc (Nat.le_refl _) _)
  rintro e w1 ⟨A, c, rfl, hc, hC, hb⟩
  have HB := Aside0.mk (below_step ((Below.refl w.heap.size w).alloc (Nat.le_refl _) _) hb)
  have HT1 := TabOK.aside HT.out HB.out
  have HCC := Aside0.mk hC
  have Hc := Aside0.mk hc
  have hz : w.heap.size < w1.heap.size := by have := hb.size; simp at this; omega
  clear hb hC hc HT
  go_wp2_with fail
  refine (ex_dec _ _ _ Hc.out HCC.out HT1).mono ?_
  rintro e w2 ⟨rfl, hb⟩
  have HB2 := Aside0.mk (below_then HB.out (Nat.le_of_lt hz) hb)
  have HT2 := TabOK.aside HT1.out hb
  have HC2 := Aside0.mk (Kd.C_below HCC.out hb)
  have hz2 : w.heap.size < w2.heap.size := by have := hb.size; omega
  clear hb HB HT1 HCC hz
  go_wp2_with fail
  refine (ex_bad _ (w2.heap.size + 1) ?hb2 ?ht2).mono ?_
  case hb2 =>
    show _ = some (Obj.cells #[.int .u32 513] 53 (0, 0))
    simpa using blk_new (w2.alloc _) _
  case ht2 => exact TabOK.aside HT2.out (below_alloc (below_alloc (Below.refl _ _) _) _)
  rintro e w3 ⟨rfl, hb⟩
  have HB3 := Aside0.mk (below_then HB2.out (Nat.le_of_lt hz2) (below_step (below_alloc (below_alloc (Below.refl _ _) _) _) hb))
  have HC3 := Aside0.mk (Kd.C_below HC2.out (below_step (below_alloc (below_alloc (Below.refl _ _) _) _) hb))
  have hz3 : w2.heap.size + 1 < w3.heap.size := by have := hb.size; simp at this; omega
  have hz4 : w2.heap.size < w3.heap.size := by omega
  obtain ⟨c0, f0⟩ := kcX hb w2.heap.size 0 13 (by go_simp) (by go_simp)
  obtain ⟨c1, f1⟩ := kcX hb w2.heap.size 1 1 (by go_simp) (by go_simp)
  obtain ⟨c2, f2⟩ := kcX hb w2.heap.size 2 0 (by go_simp) (by go_simp)
  obtain ⟨c3, f3⟩ := kcX hb w2.heap.size 3 0 (by go_simp) (by go_simp)
  obtain ⟨c4, f4⟩ := kcX hb w2.heap.size 4 (-1) (by go_simp) (by go_simp)
  clear hb HB2 HT2 HC2
  go_wp2_with fail
  refine (ex_same _ _ _ Hc.out ?hc3 (w3.heap.size + 1) ?hb3).mono ?_
  case hc3 => exact Kd.C_below HC3.out (below_alloc (below_alloc (Below.refl _ _) _) _)
  case hb3 =>
    show _ = some (Obj.cells #[.int .u32 1, .int .u32 4294966861, .int .u32 142, .int .u32 4294967294, .int .u32 4294967295] 53 (0, 0))
    simpa using blk_new (w3.alloc _) _
  rintro e w4 ⟨rfl, hd⟩
  have hb := hd.below
  have HB4 := Aside0.mk (below_then HB3.out (by omega) (below_step (below_alloc (below_alloc (Below.refl _ _) _) _) hb))
  obtain ⟨d0, -⟩ := kcX hb w2.heap.size 0 13 (by go_simp) (by go_simp)
  obtain ⟨d1, -⟩ := kcX hb w2.heap.size 1 1 (by go_simp) (by go_simp)
  obtain ⟨d2, -⟩ := kcX hb w2.heap.size 2 0 (by go_simp) (by go_simp)
  obtain ⟨d3, -⟩ := kcX hb w2.heap.size 3 0 (by go_simp) (by go_simp)
  obtain ⟨d4, -⟩ := kcX hb w2.heap.size 4 (-1) (by go_simp) (by go_simp)
  clear hb hd c0 c1 c2 c3 c4
  go_wp2_with fail
  go_ret
  exact ⟨rfl, HB4.out⟩
end Go.Proofs.YtcjidibdidijaaaDoor
namespace Go.Proofs.YtcjidibdidijaaaDoor.PCod
open Go.RowKit Go.Proofs.YtcjidibdidijaaaDoorW.PrintWords Go.Proofs.YtcjidibdidijaaaDoorW.PrintMore
set_option linter.unusedVariables false
/-! ### fullinglaw30_EncodingExamples: function 5 -/
def fullinglaw30_EncodingExamples.f : Option (Bool) := some true
theorem fullinglaw30_EncodingExamples.calls (r : Bool) (w : World) (h : fullinglaw30_EncodingExamples.f = some r) (HT : Aside0 (TabOK w)) :
    Calls Tryd.prog 5 #[] w fun e w' => e = .returned (.bool r) ∧ Below w.heap.size w w' :=
  exa_calls r w h HT
end Go.Proofs.YtcjidibdidijaaaDoor.PCod
