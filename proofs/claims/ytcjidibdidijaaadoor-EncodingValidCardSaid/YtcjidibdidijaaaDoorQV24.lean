/- Parts of this proof in one text: RDec, CRDe, CRDa, RDal, CFlb, CSNt, Exa, DecL0. -/
import Derived.Test.YtcjidibdidijaaaDoorQV21
import Derived.Test.YtcjidibdidijaaaDoorQV22
import Derived.Test.YtcjidibdidijaaaDoorQV23
import Derived.Test.YtcjidibdidijaaaDoorQV2
import Derived.Test.YtcjidibdidijaaaDoorQV11
import Derived.Test.YtcjidibdidijaaaDoorQV19
import Derived.Test.YtcjidibdidijaaaDoorQV8
import Derived.Test.YtcjidibdidijaaaDoorQV10
import Derived.Test.YtcjidibdidijaaaDoorQV20
import Derived.Outline
namespace Go.Proofs.YtcjidibdidijaaaDoor
open Go.RowKit Go.Proofs.YtcjidibdidijaaaDoor.PCod Go.Proofs.YtcjidibdidijaaaDoorW.PrintWords Go.Proofs.YtcjidibdidijaaaDoorW.PrintMore
set_option linter.unusedVariables false
set_option linter.unusedSimpArgs false
theorem decS_in (l : List Int) (a : Int) (a0 : 0 ≤ a) (hs : a + sizeI (rd l a % 64) ≤ l.length) : decS l a = if vI (decI l a) = true ∧ word1 (decI l a).f0 (decI l a).f1 (decI l a).f2 (decI l a).f3 (decI l a).f4 = rd l a then ((decI l a).f0, (decI l a).f1, (decI l a).f2, (decI l a).f3, (decI l a).f4, sizeI (rd l a % 64), 0) else errD := by
  unfold decS
  by_cases c : okD l a
  · rw [if_pos c, if_pos ⟨c.2.2.1, c.2.2.2⟩]
  · rw [if_neg c, if_neg (fun h => c ⟨a0, hs, h.1, h.2⟩)]
theorem rpost_dec {w : World} {l : List Int} {a : Int} (a0 : 0 ≤ a) (hs : a + sizeI (rd l a % 64) ≤ l.length) {s : Int} (he : sizeI (rd l a % 64) = s) {e : Ending} {w' : World} (h : RPost w (rd l a) (decI l a) s e w') : e = .returned (decV (decS l a)) ∧ Below w.heap.size w w' := by
  rw [decS_in l a a0 hs, he]
  exact h
theorem rdec_any (A : Option Addr) (c : Nat) (l : List Int) (a : Int) (w : World) (hr : Kd.C (Kd.int .u32) w A l.length l) (hu : u32s l) (hl : l.length ≤ 9223372036854775800) :
    Calls Tryd.prog 27 #[.slice A l.length c, .int .i64 a] w fun e w' => e = .returned (decV (decS l a)) ∧ Below w.heap.size w w' := by
  by_cases ho : a < 0 ∨ (l.length : Int) ≤ a
  · have hs : 1 ≤ sizeI (rd l a % 64) := by unfold sizeI; split <;> omega
    rw [show decS l a = errD from if_neg (fun hk => by have := hk.1; have := hk.2.1; omega)]
    exact rdec_out A l.length c a w ho
  · have hR : ReadsInt w .u32 A l.length l := readsInt_of.2 (Kd.reads_of_C (d := (0 : Int)) hr)
    obtain ⟨ad, rfl, hcell⟩ := hR.at_ a (by omega) (by omega)
    have hx := rd_u32 hu a
    have hop := op_small _ hx
    have hA := fA_small _ hx
    have hB := fB_small _ hx
    have hC := fC_small _ hx
    have a0 : 0 ≤ a := by omega
    have a1 : a < l.length := by omega
    by_cases h0 : formOf (rd l a % 64) = 0
    · rw [show decS l a = errD from if_neg (fun hk => by have hv := (vI_val hk.2.2.1); have h1 : 1 ≤ rd l a % 64 := hv.1; have h2 : rd l a % 64 ≤ 37 := hv.2.1; have := (formOf_iff0 _).1 h0; omega)]
      exact rdec_0 ad l.length c a _ w hx.1 hx.2 hcell a0 a1 hl (Lib.hid (by rw [hop]; exact h0))
    · have hN : ∀ f, formOf (rd l a % 64) = f → f ≠ 6 → sizeI (rd l a % 64) = 1 := fun f hf h6 => if_neg (by rw [hf]; exact h6)
      rcases form_vals _ h0 with hf | hf | hf | hf | hf | hf | hf | hf
      · have hs := hN _ hf (by decide)
        refine (rdec_1 ad l.length c a _ w hx.1 hx.2 hcell a0 a1 hl (Lib.hid (by rw [hop]; exact hf)) (decI l a).f0 (decI l a).f1 (decI l a).f2 (decI l a).f3 (decI l a).f4 (Lib.hid hop) (cA_no hf (by decide)) (cB_no hf (by decide)) (cC_no hf (by decide)) (cN_no hf (by decide))).mono fun e w' h => rpost_dec a0 (by omega) hs h
      · have hs := hN _ hf (by decide)
        refine (rdec_2 ad l.length c a _ w hx.1 hx.2 hcell a0 a1 hl (Lib.hid (by rw [hop]; exact hf)) (decI l a).f0 (decI l a).f1 (decI l a).f2 (decI l a).f3 (decI l a).f4 (Lib.hid hop) (Lib.hid (hA.trans (cA_yes hf (by decide)).symm)) (cB_no hf (by decide)) (cC_no hf (by decide)) (cN_no hf (by decide))).mono fun e w' h => rpost_dec a0 (by omega) hs h
      · have hs := hN _ hf (by decide)
        refine (rdec_3 ad l.length c a _ w hx.1 hx.2 hcell a0 a1 hl (Lib.hid (by rw [hop]; exact hf)) (decI l a).f0 (decI l a).f1 (decI l a).f2 (decI l a).f3 (decI l a).f4 (Lib.hid hop) (Lib.hid (hA.trans (cA_yes hf (by decide)).symm)) (Lib.hid (hB.trans (cB_yes hf (by decide)).symm)) (cC_no hf (by decide)) (cN_no hf (by decide))).mono fun e w' h => rpost_dec a0 (by omega) hs h
      · have hs := hN _ hf (by decide)
        refine (rdec_4 ad l.length c a _ w hx.1 hx.2 hcell a0 a1 hl (Lib.hid (by rw [hop]; exact hf)) (decI l a).f0 (decI l a).f1 (decI l a).f2 (decI l a).f3 (decI l a).f4 (Lib.hid hop) (Lib.hid (hA.trans (cA_yes hf (by decide)).symm)) (Lib.hid (hB.trans (cB_yes hf (by decide)).symm)) (Lib.hid (hC.trans (cC_yes hf (by decide)).symm)) (cN_no hf (by decide))).mono fun e w' h => rpost_dec a0 (by omega) hs h
      · have hs := hN _ hf (by decide)
        have e5 : (decI l a).f4 = _ := cN_5 hf
        by_cases lo : rd l a / 512 < 4194304
        · rw [if_pos lo] at e5
          refine (rdec_5p ad l.length c a _ w hx.1 hx.2 hcell a0 a1 hl (Lib.hid (by rw [hop]; exact hf)) (decI l a).f0 (decI l a).f1 (decI l a).f2 (decI l a).f3 (decI l a).f4 (Lib.hid hop) (Lib.hid (hA.trans (cA_yes hf (by decide)).symm)) (cB_no hf (by decide)) (cC_no hf (by decide)) (Lib.hid e5.symm) lo).mono fun e w' h => rpost_dec a0 (by omega) hs h
        · rw [if_neg lo] at e5
          refine (rdec_5n ad l.length c a _ w hx.1 hx.2 hcell a0 a1 hl (Lib.hid (by rw [hop]; exact hf)) (decI l a).f0 (decI l a).f1 (decI l a).f2 (decI l a).f3 (decI l a).f4 (Lib.hid hop) (Lib.hid (hA.trans (cA_yes hf (by decide)).symm)) (cB_no hf (by decide)) (cC_no hf (by decide)) (Lib.hid e5.symm) (by omega)).mono fun e w' h => rpost_dec a0 (by omega) hs h
      · have hs : sizeI (rd l a % 64) = 3 := if_pos hf
        have e6 : (decI l a).f4 = _ := cN_6 hf
        have hy := rd_u32 hu (a + 1)
        have hz := rd_u32 hu (a + 2)
        rw [← or64_add _ _ hy.1 hy.2 hz.1 hz.2] at e6
        by_cases lo : a + 2 < l.length
        · obtain ⟨ad1, h1, hc1⟩ := hR.at_ (a + 1) (by omega) (by omega)
          obtain ⟨ad2, h2, hc2⟩ := hR.at_ (a + 2) (by omega) (by omega)
          injection h1 with h1
          injection h2 with h2
          subst h1 h2
          refine (rdec_6 ad l.length c a _ w hx.1 hx.2 hcell a0 a1 hl (Lib.hid (by rw [hop]; exact hf)) (decI l a).f0 (decI l a).f1 (decI l a).f2 (decI l a).f3 (decI l a).f4 (Lib.hid hop) (Lib.hid (hA.trans (cA_yes hf (by decide)).symm)) (cB_no hf (by decide)) (cC_no hf (by decide)) lo (rd l (a + 1)) (rd l (a + 2)) hy hz hc1 hc2 (Lib.hid e6.symm)).mono fun e w' h => rpost_dec a0 (by omega) hs h
        · rw [show decS l a = errD from if_neg (fun hk => by have := hk.2.1; omega)]
          exact rdec_6e ad l.length c a _ w hx.1 hx.2 hcell a0 a1 hl (Lib.hid (by rw [hop]; exact hf)) (by omega)
      · have hs := hN _ hf (by decide)
        have e7 : (decI l a).f4 = _ := cN_7 hf
        by_cases lo : rd l a / 4096 < 524288
        · rw [if_pos lo] at e7
          refine (rdec_7p ad l.length c a _ w hx.1 hx.2 hcell a0 a1 hl (Lib.hid (by rw [hop]; exact hf)) (decI l a).f0 (decI l a).f1 (decI l a).f2 (decI l a).f3 (decI l a).f4 (Lib.hid hop) (Lib.hid (hA.trans (cA_yes hf (by decide)).symm)) (Lib.hid (hB.trans (cB_yes hf (by decide)).symm)) (cC_no hf (by decide)) (Lib.hid e7.symm) lo).mono fun e w' h => rpost_dec a0 (by omega) hs h
        · rw [if_neg lo] at e7
          refine (rdec_7n ad l.length c a _ w hx.1 hx.2 hcell a0 a1 hl (Lib.hid (by rw [hop]; exact hf)) (decI l a).f0 (decI l a).f1 (decI l a).f2 (decI l a).f3 (decI l a).f4 (Lib.hid hop) (Lib.hid (hA.trans (cA_yes hf (by decide)).symm)) (Lib.hid (hB.trans (cB_yes hf (by decide)).symm)) (cC_no hf (by decide)) (Lib.hid e7.symm) (by omega)).mono fun e w' h => rpost_dec a0 (by omega) hs h
      · have hs := hN _ hf (by decide)
        have e8 : (decI l a).f4 = _ := cN_8 hf
        by_cases lo : rd l a / 64 < 33554432
        · rw [if_pos lo] at e8
          refine (rdec_8p ad l.length c a _ w hx.1 hx.2 hcell a0 a1 hl (Lib.hid (by rw [hop]; exact hf)) (decI l a).f0 (decI l a).f1 (decI l a).f2 (decI l a).f3 (decI l a).f4 (Lib.hid hop) (cA_no hf (by decide)) (cB_no hf (by decide)) (cC_no hf (by decide)) (Lib.hid e8.symm) lo).mono fun e w' h => rpost_dec a0 (by omega) hs h
        · rw [if_neg lo] at e8
          refine (rdec_8n ad l.length c a _ w hx.1 hx.2 hcell a0 a1 hl (Lib.hid (by rw [hop]; exact hf)) (decI l a).f0 (decI l a).f1 (decI l a).f2 (decI l a).f3 (decI l a).f4 (Lib.hid hop) (cA_no hf (by decide)) (cB_no hf (by decide)) (cC_no hf (by decide)) (Lib.hid e8.symm) (by omega)).mono fun e w' h => rpost_dec a0 (by omega) hs h
instance (l : List Int) : Decidable (u32s l) := by unfold u32s; exact inferInstance
def decF (l : List Int) (a : Int) : Option (Int × Int × Int × Int × Int × Int × Int) := if u32s l ∧ l.length ≤ 9223372036854775800 then some (decS l a) else none
theorem rdec_calls (A0 : Option Addr) (c0 : Nat) (l0 : List Int) (a1 r1 r2 r3 r4 r5 r6 r7 : Int) (w : World) (hr0 : Kd.C (Kd.int .u32) w A0 l0.length l0) (hc0 : l0.length ≤ c0) (h : decF l0 a1 = some (r1, r2, r3, r4, r5, r6, r7)) :
    Calls Tryd.prog 27 #[.slice A0 l0.length c0, .int .i64 a1] w fun e w' => e = .returned (.tuple #[.agg #[.int .i64 r1, .int .i64 r2, .int .i64 r3, .int .i64 r4, .int .i64 r5], .int .i64 r6, .int .i64 r7]) ∧ Below w.heap.size w w' := by
  unfold decF at h
  split at h
  · rename_i hu
    have h := Option.some.inj h
    refine (rdec_any A0 c0 l0 a1 w hr0 hu.1 hu.2).mono fun e w' ⟨he, hb⟩ => ⟨?_, hb⟩
    rw [he, h]
    rfl
  · cases h
end Go.Proofs.YtcjidibdidijaaaDoor
namespace Go.Proofs.YtcjidibdidijaaaDoor.PCod
open Go.RowKit Go.Proofs.YtcjidibdidijaaaDoor Go.Proofs.YtcjidibdidijaaaDoorW.PrintWords Go.Proofs.YtcjidibdidijaaaDoorW.PrintLast Go.Proofs.YtcjidibdidijaaaDoorW.PrintMore
set_option linter.unusedVariables false
set_option linter.unusedSimpArgs false
def fullingref29_Decode.f (k : Nat) (l : List Int) (a : Int) : Option (Int × Int × Int × Int × Int × Int × Int) := decF l a
theorem fullingref29_Decode.mono : ∀ a0 a1 k, LeO (fullingref29_Decode.f k a0 a1) (fullingref29_Decode.f (k + 1) a0 a1) := fun _ _ _ => LeO.refl _
theorem fullingref29_Decode.calls (k : Nat) (A0 : Option Addr) (c0 : Nat) (l0 : List Int) (a1 : Int) (r1 : Int) (r2 : Int) (r3 : Int) (r4 : Int) (r5 : Int) (r6 : Int) (r7 : Int) (w : World) (hr0 : Kd.C (Kd.int .u32) w A0 l0.length l0) (hc0 : l0.length ≤ c0) (h : fullingref29_Decode.f k l0 a1 = some (r1, r2, r3, r4, r5, r6, r7)) :
    Calls Tryd.prog 27 #[.slice A0 l0.length c0, .int .i64 a1] w fun e w' => e = .returned (.tuple #[.agg #[.int .i64 r1, .int .i64 r2, .int .i64 r3, .int .i64 r4, .int .i64 r5], .int .i64 r6, .int .i64 r7]) ∧ Below w.heap.size w w' :=
  rdec_calls A0 c0 l0 a1 r1 r2 r3 r4 r5 r6 r7 w hr0 hc0 h
end Go.Proofs.YtcjidibdidijaaaDoor.PCod
namespace Go.Proofs.YtcjidibdidijaaaDoor.PCod
open Go.RowKit Go.Proofs.YtcjidibdidijaaaDoorW.PrintWords Go.Proofs.YtcjidibdidijaaaDoorW.PrintLast Go.Proofs.YtcjidibdidijaaaDoorW.PrintMore
attribute [local go_sem] max2_int min2_int max_two min_two max_three min_three max_four min_four
set_option linter.unusedVariables false
set_option linter.unusedSimpArgs false
def fullingref29_DecodeAll.l0 : Nat → List Int → List (S42) → List Int → Int → Option ((List (S42)) × List Int × Int)
  | 0, _, _, _, _ => none
  | k + 1, x0, x5, x6, x7 => if x7 < (x0.length : Int) then ((fullingref29_Decode.f k x0 x7).bind fun bt285 => (if bt285.2.2.2.2.2.2 = 0 then (if x5.length < 3518437208883 then (if x6.length < 17592186044416 then (fullingref29_DecodeAll.l0 k x0 (x5 ++ [(⟨bt285.1, bt285.2.1, bt285.2.2.1, bt285.2.2.2.1, bt285.2.2.2.2.1⟩ : S42)]) (x6 ++ [x7]) (wrap64 (x7 + bt285.2.2.2.2.2.1))) else (none)) else (none)) else (some (([] : List (S42)), ([] : List Int), bt285.2.2.2.2.2.2)))) else (some (x5, x6, 0))
def fullingref29_DecodeAll.f (k : Nat) (l0 : List Int) : Option ((List (S42)) × List Int × Int) := fullingref29_DecodeAll.l0 k l0 ([] : List (S42)) ([] : List Int) 0
theorem fullingref29_DecodeAll.mono_l : ∀ k, (∀ y0 y1 y2 y3, LeO (fullingref29_DecodeAll.l0 k y0 y1 y2 y3) (fullingref29_DecodeAll.l0 (k + 1) y0 y1 y2 y3))
  | 0 => fun _ _ _ _ r h => by simp [fullingref29_DecodeAll.l0] at h
  | k + 1 => by
    have ih0 := fullingref29_DecodeAll.mono_l k
    · intro y0 y1 y2 y3
      unfold fullingref29_DecodeAll.l0
      repeat' first
      | (with_reducible exact ih0 _ _ _ _)
      | (with_reducible exact fullingref29_Decode.mono _ _ _)
      | (with_reducible exact LeO.refl _)
      | (with_reducible exact LeO.none _)
      | (with_reducible refine LeO.ite ?_ ?_)
      | (with_reducible refine LeO.bind ?_ (fun _ => ?_))
      | exact ih0 _ _ _ _
      | exact fullingref29_Decode.mono _ _ _
      | exact LeO.none _
      | refine LeO.ite ?_ ?_
      | refine LeO.bind ?_ (fun _ => ?_)
theorem fullingref29_DecodeAll.mono : ∀ a0 k, LeO (fullingref29_DecodeAll.f k a0) (fullingref29_DecodeAll.f (k + 1) a0) := by
  intro a0 k
  have ih0 := fullingref29_DecodeAll.mono_l k
  unfold fullingref29_DecodeAll.f
  repeat' first
      | (with_reducible exact ih0 _ _ _ _)
      | (with_reducible exact fullingref29_Decode.mono _ _ _)
      | (with_reducible exact LeO.refl _)
      | (with_reducible exact LeO.none _)
      | (with_reducible refine LeO.ite ?_ ?_)
      | (with_reducible refine LeO.bind ?_ (fun _ => ?_))
      | exact ih0 _ _ _ _
      | exact fullingref29_Decode.mono _ _ _
      | exact LeO.none _
      | refine LeO.ite ?_ ?_
      | refine LeO.bind ?_ (fun _ => ?_)
set_option maxHeartbeats 8000000 in
set_option maxRecDepth 100000 in
theorem fullingref29_DecodeAll.calls (k : Nat) (A0 : Option Addr) (c0 : Nat) (l0 : List Int) (r1 : List (S42)) (r2 : List Int) (r3 : Int) (w : World) (hr0 : Kd.C (Kd.int .u32) w A0 l0.length l0) (hc0 : l0.length ≤ c0) (h : fullingref29_DecodeAll.f k l0 = some (r1, r2, r3)) :
    Calls Tryd.prog 42 #[.slice A0 l0.length c0] w fun e w' => ∃ v0_ v1_ : Value, e = .returned (.tuple #[v0_, v1_, .int .i64 r3]) ∧ Kd.R k42 42 w' w.heap.size (fun _ => True) v0_ r1 ∧ Kd.R (Kd.int .i64) 3 w' w.heap.size (fun _ => True) v1_ r2 ∧ Below w.heap.size w w' := by
  have hu42 := Tryd.underlying42
  have HR0 := Aside0.mk hr0
  have HC0 := Aside0.mk hc0
  clear hr0 hc0
  have HB := Aside0.mk (Below.refl w.heap.size w)
  have H : (fullingref29_DecodeAll.l0 k l0 ([] : List (S42)) ([] : List Int) 0) = some (r1, r2, r3) := h
  clear h
  have H' := Aside0.mk H
  clear H
  go_enter Tryd.func42, Tryd.ntmps42
  go_wp2
  go_loopg [5, 6, 7] k (fun kq v5 v6 v7 w' => ∃ (x5_1 : List (S42)) (x6_1 : List Int) (x7_1 : Int), v7 = .int .i64 x7_1 ∧ Aside0 (fullingref29_DecodeAll.l0 kq l0 x5_1 x6_1 x7_1 = some (r1, r2, r3)) ∧ Aside0 (kq ≤ k) ∧ Aside0 (Kd.R k42 42 w' w.heap.size (fun _ => True) v5 x5_1) ∧ Aside0 (Kd.R (Kd.int .i64) 3 w' w.heap.size (fun _ => True) v6 x6_1) ∧ Aside0 (Below w.heap.size w w'))
  case atStart => exact ⟨(([] : List (S42))), (([] : List Int)), (0), (by first | rfl | (simp; done) | (simp [*]; done)), H', ⟨Nat.le_refl _⟩, ⟨by first | exact Kd.R_nil _ _ _ _ _ | exact Kd.N_nil _ _ _ _ _ | exact Kd.V_nil _ _ _ _ _ | exact Kd.Q_nil _ _ _ _ _ | exact Kd.S_nil _ _ _ _ _⟩, ⟨by first | exact Kd.R_nil _ _ _ _ _ | exact Kd.N_nil _ _ _ _ _ | exact Kd.V_nil _ _ _ _ _ | exact Kd.Q_nil _ _ _ _ _ | exact Kd.S_nil _ _ _ _ _⟩, ⟨by repeat (first | (with_reducible first | exact HB.out | apply below_alloc | apply pw_below_drewN | apply below_drew1) | exact HB.out)⟩⟩
  case round =>
    clear H'
    obtain ⟨x5_1, x6_1, x7_1, rfl, HA, HK1, HO_5, HO_6, HB⟩ := hrel
    cases gk with
    | zero => exact absurd HA.out (by simp [fullingref29_DecodeAll.l0])
    | succ k1 =>
      have H := HA.out
      clear HA
      simp only [fullingref29_DecodeAll.l0] at H
      by_cases c2 : x7_1 < (l0.length : Int)
      · rw [if_pos c2] at H
        have c2b0 : decide (x7_1 < (l0.length : Int)) = true := decide_eq_true c2
        clear c2
        replace H := Option.bind_eq_some_iff.mp H
        obtain ⟨⟨t285, t286, t287, t288, t289, t290, t291⟩, A30, H⟩ := H
        replace H : (if t291 = 0 then (if x5_1.length < 3518437208883 then (if x6_1.length < 17592186044416 then (fullingref29_DecodeAll.l0 k1 l0 (x5_1 ++ [(⟨t285, t286, t287, t288, t289⟩ : S42)]) (x6_1 ++ [x7_1]) (wrap64 (x7_1 + t290))) else (none)) else (none)) else (some (([] : List (S42)), ([] : List Int), t291))) = some (r1, r2, r3) := H
        have A3 := Aside0.mk A30
        clear A30
        by_cases c4 : t291 = 0
        · rw [if_pos c4] at H
          have c4b0 : (t291 == 0) = true := beq_iff_eq.mpr c4
          have c4b1 : (t291 != 0) = false := bne_eq_false_iff_eq.mpr c4
          clear c4
          by_cases c5 : x5_1.length < 3518437208883
          · rw [if_pos c5] at H
            have LMc5 := Aside0.mk c5
            clear c5
            obtain ⟨y293, hy293⟩ : ∃ y_ : List (S42), y_ = (x5_1 ++ [(⟨t285, t286, t287, t288, t289⟩ : S42)]) := ⟨_, rfl⟩
            replace H : (if x6_1.length < 17592186044416 then (fullingref29_DecodeAll.l0 k1 l0 y293 (x6_1 ++ [x7_1]) (wrap64 (x7_1 + t290))) else (none)) = some (r1, r2, r3) := by first | (rw [hy293]; with_reducible exact H) | (have H2_ := (Option.bind_some _ _).symm.trans H; rw [hy293]; with_reducible exact H2_) | (have H2_ := (Option.bind_some _ _).symm.trans H; with_reducible exact H2_) | with_reducible exact H | (rw [hy293]; exact H) | exact H
            have Ny293 := Aside0.mk hy293
            clear hy293
            by_cases c6 : x6_1.length < 17592186044416
            · rw [if_pos c6] at H
              have LMc6 := Aside0.mk c6
              clear c6
              obtain ⟨y296, hy296⟩ : ∃ y_ : List Int, y_ = (x6_1 ++ [x7_1]) := ⟨_, rfl⟩
              replace H : (fullingref29_DecodeAll.l0 k1 l0 y293 y296 (wrap64 (x7_1 + t290))) = some (r1, r2, r3) := by first | (rw [hy296]; with_reducible exact H) | (have H2_ := (Option.bind_some _ _).symm.trans H; rw [hy296]; with_reducible exact H2_) | (have H2_ := (Option.bind_some _ _).symm.trans H; with_reducible exact H2_) | with_reducible exact H | (rw [hy296]; exact H) | exact H
              have Ny296 := Aside0.mk hy296
              clear hy296
              have H' := Aside0.mk H
              clear H
              go_wp2_with (first | ((with_reducible refine gate_callee (f := 27) rfl ?_); refine goesL_ (some 18) rfl rfl Tryd.func27 (by kernel_rfl) rfl #[.slice A0 l0.length c0, .int .i64 x7_1] rfl (by (try simp only [List.map_toArray, List.map_cons, List.map_nil]); first | done | rfl | (simp only [List.length_drop, List.length_take]; rfl)) ?_; (with_reducible refine (fullingref29_Decode.calls k1 _ _ l0 x7_1 t285 t286 t287 t288 t289 t290 t291 _ ?side1 ?side2 A3.out).mono ?_); (case side1 => repeat (first | exact (Kd.C_below HR0.out HB.out) | (with_reducible refine Kd.C_alloc ?_ _) | (with_reducible refine Kd.C_drewN ?_ _) | (with_reducible refine Kd.C_drew ?_))); (case side2 => exact HC0.out); rintro e w7 ⟨rfl, hb⟩; refine ⟨_, rfl, ?_⟩; have n0_ := Aside0.mk (Kd.R_below (by (with_reducible repeat (first | apply Kd.R_alloc | apply Kd.R_drewN | apply Kd.R_drew)); exact HO_5.out) hb); have n1_ := Aside0.mk (Kd.R_below (by (with_reducible repeat (first | apply Kd.R_alloc | apply Kd.R_drewN | apply Kd.R_drew)); exact HO_6.out) hb); have n2_ := Aside0.mk (below_step (by repeat (first | (with_reducible first | exact HB.out | apply below_alloc | apply pw_below_drewN | apply below_drew1) | exact HB.out)) hb); clear HO_5; clear HO_6; clear HB; have HO_5 := n0_; have HO_6 := n1_; have HB := n2_; clear n0_ n1_ n2_; (try clear hb); (try clear hb2); (try clear hk); (try clear hi)) | ((with_reducible refine gate_dst (N := 8) rfl ?_); refine box_event ?hg (N := 8) ?hd (cs := #[.int .i64 0, .int .i64 0, .int .i64 0, .int .i64 0, .int .i64 0]) (t := 42) ?hr ?_; (case hd => rfl); (case hg => rfl); (case hr => first | (go_simp; done) | (go_simp; rfl)); intro gb292 hg w8 hbox hb; have n0_ := Aside0.mk (Kd.R_below (Kd.R_elderB (by (with_reducible repeat (first | apply Kd.R_alloc | apply Kd.R_drewN | apply Kd.R_drew)); exact HO_5.out) gb292 (Nat.le_of_eq hg.symm)) hb); have n1_ := Aside0.mk (Kd.R_below (by (with_reducible repeat (first | apply Kd.R_alloc | apply Kd.R_drewN | apply Kd.R_drew)); exact HO_6.out) hb); have n2_ := Aside0.mk (below_step (by repeat (first | (with_reducible first | exact HB.out | apply below_alloc | apply pw_below_drewN | apply below_drew1) | exact HB.out)) hb); have n3_ := Aside0.mk (hbox); have n4_ := Aside0.mk ((by rw [hg]; exact (below_size (by repeat (first | (with_reducible first | exact HB.out | apply below_alloc | apply pw_below_drewN | apply below_drew1) | exact HB.out))) : w.heap.size ≤ gb292)); have n5_ := Aside0.mk ((by rw [hg]; exact (below_size (by repeat (first | (with_reducible first | exact HB.out | apply below_alloc | apply pw_below_drewN | apply below_drew1) | exact HB.out))) : w.heap.size ≤ gb292)); clear HO_5; clear HO_6; clear HB; have HO_5 := n0_; have HO_6 := n1_; have HB := n2_; have BK292 := n3_; have GW292 := n4_; have GE292 := n5_; clear n0_ n1_ n2_ n3_ n4_ n5_; clear hb hbox hg; have hcz9_0 : w8.cell? ⟨gb292, 0, none⟩ = some (.int .i64 0) := (blk_cell BK292.out 0).trans rfl; have hcz9_1 : w8.cell? ⟨gb292, 1, none⟩ = some (.int .i64 0) := (blk_cell BK292.out 1).trans rfl; have hcz9_2 : w8.cell? ⟨gb292, 2, none⟩ = some (.int .i64 0) := (blk_cell BK292.out 2).trans rfl; have hcz9_3 : w8.cell? ⟨gb292, 3, none⟩ = some (.int .i64 0) := (blk_cell BK292.out 3).trans rfl; have hcz9_4 : w8.cell? ⟨gb292, 4, none⟩ = some (.int .i64 0) := (blk_cell BK292.out 4).trans rfl; have hfz9_0 := blk_frozen BK292.out 0; have hfz9_1 := blk_frozen BK292.out 1; have hfz9_2 := blk_frozen BK292.out 2; have hfz9_3 := blk_frozen BK292.out 3; have hfz9_4 := blk_frozen BK292.out 4) | ((with_reducible refine gate_builtin (b := .append) (xs := #[.tmp 25, .tmp 27]) rfl ?_); at_builtin; refine Kd.R_append k42 (w0 := w) w.heap.size rfl (.tmp 25) (.tmp 27) 55 42 (.agg #[(.int .i64 0), (.int .i64 0), (.int .i64 0), (.int .i64 0), (.int .i64 0)]) 40 rfl Tryd.underlying55 info42 rfl (by decide) (by omega) u5 x5_1 (⟨t285, t286, t287, t288, t289⟩ : S42) [.int .i64 t285, .int .i64 t286, .int .i64 t287, .int .i64 t288, .int .i64 t289] (fun k_ => k_ ≠ gb292) (fun _ => False) rfl (by first | (go_simp; done) | (go_simp; rfl)) ?aP (fun _ hk => hk.elim) ?aF ?aO ?aB ?aS ?aL ?_; (case aP => exact k42_mkM _ _ _ (⟨t285, t286, t287, t288, t289⟩ : S42)); (case aB => exact (by repeat (first | (with_reducible first | exact HB.out | apply below_alloc | apply pw_below_drewN | apply below_drew1 | refine below_set ?_ GE292.out) | exact HB.out))); (case aF => exact (fun k_ hk => Kd.freshB (g := gb292) (o := .cells #[.int .i64 t285, .int .i64 t286, .int .i64 t287, .int .i64 t288, .int .i64 t289] 42 (0, 0)) (by (with_reducible repeat (first | refine blk_drewN ?_ _ | refine blk_drew ?_ | refine blk_alloc ?_ _)); refine blk_put (cs := #[.int .i64 t285, .int .i64 t286, .int .i64 t287, .int .i64 t288, .int .i64 0]) ?_ 4 _ rfl; (with_reducible repeat (first | refine blk_drewN ?_ _ | refine blk_drew ?_ | refine blk_alloc ?_ _)); refine blk_put (cs := #[.int .i64 t285, .int .i64 t286, .int .i64 t287, .int .i64 0, .int .i64 0]) ?_ 3 _ rfl; (with_reducible repeat (first | refine blk_drewN ?_ _ | refine blk_drew ?_ | refine blk_alloc ?_ _)); refine blk_put (cs := #[.int .i64 t285, .int .i64 t286, .int .i64 0, .int .i64 0, .int .i64 0]) ?_ 2 _ rfl; (with_reducible repeat (first | refine blk_drewN ?_ _ | refine blk_drew ?_ | refine blk_alloc ?_ _)); refine blk_put (cs := #[.int .i64 t285, .int .i64 0, .int .i64 0, .int .i64 0, .int .i64 0]) ?_ 1 _ rfl; (with_reducible repeat (first | refine blk_drewN ?_ _ | refine blk_drew ?_ | refine blk_alloc ?_ _)); refine blk_put (cs := #[.int .i64 0, .int .i64 0, .int .i64 0, .int .i64 0, .int .i64 0]) ?_ 0 _ rfl; (with_reducible repeat (first | refine blk_drewN ?_ _ | refine blk_drew ?_ | refine blk_alloc ?_ _)); exact BK292.out) k_ hk)); (case aO => exact (by (with_reducible repeat (first | apply Kd.R_alloc | apply Kd.R_drewN | apply Kd.R_drew)); exact Kd.R_mono (Kd.R_far (p := ⟨gb292, 4, none⟩) (Kd.R_far (p := ⟨gb292, 3, none⟩) (Kd.R_far (p := ⟨gb292, 2, none⟩) (Kd.R_far (p := ⟨gb292, 1, none⟩) (Kd.R_far (p := ⟨gb292, 0, none⟩) (Kd.R_mono HO_5.out (fun k_ hk => (⟨hk, hk.2⟩ : _ ∧ k_ ≠ gb292))) (fun _ hk => hk.2) (.int .i64 t285)) (fun _ hk => hk.2) (.int .i64 t286)) (fun _ hk => hk.2) (.int .i64 t287)) (fun _ hk => hk.2) (.int .i64 t288)) (fun _ hk => hk.2) (.int .i64 t289)) (fun _ hk => hk.1.2))); (case aS => exact (below_size (by repeat (first | (with_reducible first | exact HB.out | apply below_alloc | apply pw_below_drewN | apply below_drew1 | refine below_set ?_ GE292.out) | exact HB.out)))); (case aL => have := LMc5.out; omega); intro v294 w10 ho hb hg hat; rw [← Ny293.out] at ho; have n0_ := Aside0.mk (Kd.R_over' (by (with_reducible repeat (first | apply Kd.R_alloc | apply Kd.R_drewN | apply Kd.R_drew)); exact (Kd.R_mono (Kd.R_far (p := ⟨gb292, 4, none⟩) (Kd.R_far (p := ⟨gb292, 3, none⟩) (Kd.R_far (p := ⟨gb292, 2, none⟩) (Kd.R_far (p := ⟨gb292, 1, none⟩) (Kd.R_far (p := ⟨gb292, 0, none⟩) (Kd.R_types HO_6.out BK292.out (by decide)) (fun _ hk => hk.2) (.int .i64 t285)) (fun _ hk => hk.2) (.int .i64 t286)) (fun _ hk => hk.2) (.int .i64 t287)) (fun _ hk => hk.2) (.int .i64 t288)) (fun _ hk => hk.2) (.int .i64 t289)) (fun _ h_ => h_.1))) (Kd.R_typed (by (with_reducible repeat (first | apply Kd.R_alloc | apply Kd.R_drewN | apply Kd.R_drew)); exact (Kd.R_mono (Kd.R_far (p := ⟨gb292, 4, none⟩) (Kd.R_far (p := ⟨gb292, 3, none⟩) (Kd.R_far (p := ⟨gb292, 2, none⟩) (Kd.R_far (p := ⟨gb292, 1, none⟩) (Kd.R_far (p := ⟨gb292, 0, none⟩) (Kd.R_mono HO_5.out (fun k_ hk => (⟨hk, hk.2⟩ : _ ∧ k_ ≠ gb292))) (fun _ hk => hk.2) (.int .i64 t285)) (fun _ hk => hk.2) (.int .i64 t286)) (fun _ hk => hk.2) (.int .i64 t287)) (fun _ hk => hk.2) (.int .i64 t288)) (fun _ hk => hk.2) (.int .i64 t289)) (fun _ h_ => h_.1)))) (by decide) hg); have n1_ := Aside0.mk (blk_grown (g := gb292) (o := .cells #[.int .i64 t285, .int .i64 t286, .int .i64 t287, .int .i64 t288, .int .i64 t289] 42 (0, 0)) (by (with_reducible repeat (first | refine blk_drewN ?_ _ | refine blk_drew ?_ | refine blk_alloc ?_ _)); refine blk_put (cs := #[.int .i64 t285, .int .i64 t286, .int .i64 t287, .int .i64 t288, .int .i64 0]) ?_ 4 _ rfl; (with_reducible repeat (first | refine blk_drewN ?_ _ | refine blk_drew ?_ | refine blk_alloc ?_ _)); refine blk_put (cs := #[.int .i64 t285, .int .i64 t286, .int .i64 t287, .int .i64 0, .int .i64 0]) ?_ 3 _ rfl; (with_reducible repeat (first | refine blk_drewN ?_ _ | refine blk_drew ?_ | refine blk_alloc ?_ _)); refine blk_put (cs := #[.int .i64 t285, .int .i64 t286, .int .i64 0, .int .i64 0, .int .i64 0]) ?_ 2 _ rfl; (with_reducible repeat (first | refine blk_drewN ?_ _ | refine blk_drew ?_ | refine blk_alloc ?_ _)); refine blk_put (cs := #[.int .i64 t285, .int .i64 0, .int .i64 0, .int .i64 0, .int .i64 0]) ?_ 1 _ rfl; (with_reducible repeat (first | refine blk_drewN ?_ _ | refine blk_drew ?_ | refine blk_alloc ?_ _)); refine blk_put (cs := #[.int .i64 0, .int .i64 0, .int .i64 0, .int .i64 0, .int .i64 0]) ?_ 0 _ rfl; (with_reducible repeat (first | refine blk_drewN ?_ _ | refine blk_drew ?_ | refine blk_alloc ?_ _)); exact BK292.out) hg (Kd.R_away HO_5.out (fun _ hk => hk.2))); have n2_ := Aside0.mk (hb); have n3_ := Aside0.mk (ho); clear HO_6; clear BK292; clear HB; clear HO_5; have HO_6 := n0_; have BK292 := n1_; have HB := n2_; have HO295 := n3_; clear n0_ n1_ n2_ n3_; clear ho hb hg hat) | ((with_reducible refine gate_builtin (b := .append) (xs := #[.tmp 29, .tmp 31]) rfl ?_); at_builtin; refine Kd.R_append (Kd.int .i64) (w0 := w) w.heap.size rfl (.tmp 29) (.tmp 31) 22 3 (.int .i64 0) 8 rfl Tryd.underlying22 info3 rfl (by decide) (by omega) u6 x6_1 x7_1 [.int .i64 x7_1] (fun _ => True) (fun _ => False) rfl rfl ?aP (fun _ hk => hk.elim) ?aF ?aO ?aB ?aS ?aL ?_; (case aP => exact rfl); (case aB => exact (by repeat (first | (with_reducible first | exact HB.out | apply below_alloc | apply pw_below_drewN | apply below_drew1 | refine below_set ?_ GE292.out) | exact HB.out))); (case aF => exact (fun _ _ => trivial)); (case aO => exact (by (with_reducible repeat (first | apply Kd.R_alloc | apply Kd.R_drewN | apply Kd.R_drew)); exact HO_6.out)); (case aS => exact (below_size (by repeat (first | (with_reducible first | exact HB.out | apply below_alloc | apply pw_below_drewN | apply below_drew1 | refine below_set ?_ GE292.out) | exact HB.out)))); (case aL => have := LMc6.out; omega); intro v297 w11 ho hb hg hat; rw [← Ny296.out] at ho; have n0_ := Aside0.mk (blk_grown (g := gb292) (o := .cells #[.int .i64 t285, .int .i64 t286, .int .i64 t287, .int .i64 t288, .int .i64 t289] 42 (0, 0)) (by (with_reducible repeat (first | refine blk_drewN ?_ _ | refine blk_drew ?_ | refine blk_alloc ?_ _)); exact BK292.out) hg (Kd.R_ne HO_6.out BK292.out (by decide))); have n1_ := Aside0.mk (Kd.R_over' (by (with_reducible repeat (first | apply Kd.R_alloc | apply Kd.R_drewN | apply Kd.R_drew)); exact HO295.out) (Kd.R_typed (by (with_reducible repeat (first | apply Kd.R_alloc | apply Kd.R_drewN | apply Kd.R_drew)); exact HO_6.out)) (by decide) hg); have n2_ := Aside0.mk (hb); have n3_ := Aside0.mk (ho); clear BK292; clear HO295; clear HB; clear HO_6; have BK292 := n0_; have HO295 := n1_; have HB := n2_; have HO298 := n3_; clear n0_ n1_ n2_ n3_; clear ho hb hg hat))
              go_roundg k1
              case measure => have := HK1.out; omega
              case rel => exact ⟨(y293), (y296), (wrap64 (x7_1 + t290)), (by first | rfl | (simp; done) | (simp [*]; done)), H', ⟨by have := HK1.out; omega⟩, ⟨by (with_reducible repeat (first | apply Kd.R_alloc | apply Kd.R_drewN | apply Kd.R_drew)); exact Kd.R_mono HO295.out (fun _ hk => trivial)⟩, ⟨by (with_reducible repeat (first | apply Kd.R_alloc | apply Kd.R_drewN | apply Kd.R_drew)); exact HO298.out⟩, ⟨by repeat (first | (with_reducible first | exact HB.out | apply below_alloc | apply pw_below_drewN | apply below_drew1 | refine below_set ?_ GE292.out) | exact HB.out)⟩⟩
            · rw [if_neg c6] at H
              exact absurd H (by simp)
          · rw [if_neg c5] at H
            exact absurd H (by simp)
        · rw [if_neg c4] at H
          have c4b0 : (t291 == 0) = false := beq_eq_false_iff_ne.mpr c4
          have c4b1 : (t291 != 0) = true := bne_iff_ne.mpr c4
          simp only [Option.some.injEq, Prod.mk.injEq] at H
          obtain ⟨rfl, rfl, rfl⟩ := H
          go_wp2_with (first | ((with_reducible refine gate_callee (f := 27) rfl ?_); refine goesL_ (some 18) rfl rfl Tryd.func27 (by kernel_rfl) rfl #[.slice A0 l0.length c0, .int .i64 x7_1] rfl (by (try simp only [List.map_toArray, List.map_cons, List.map_nil]); first | done | rfl | (simp only [List.length_drop, List.length_take]; rfl)) ?_; (with_reducible refine (fullingref29_Decode.calls k1 _ _ l0 x7_1 t285 t286 t287 t288 t289 t290 t291 _ ?side1 ?side2 A3.out).mono ?_); (case side1 => repeat (first | exact (Kd.C_below HR0.out HB.out) | (with_reducible refine Kd.C_alloc ?_ _) | (with_reducible refine Kd.C_drewN ?_ _) | (with_reducible refine Kd.C_drew ?_))); (case side2 => exact HC0.out); rintro e w12 ⟨rfl, hb⟩; refine ⟨_, rfl, ?_⟩; have n0_ := Aside0.mk (Kd.R_below (by (with_reducible repeat (first | apply Kd.R_alloc | apply Kd.R_drewN | apply Kd.R_drew)); exact HO_5.out) hb); have n1_ := Aside0.mk (Kd.R_below (by (with_reducible repeat (first | apply Kd.R_alloc | apply Kd.R_drewN | apply Kd.R_drew)); exact HO_6.out) hb); have n2_ := Aside0.mk (below_step (by repeat (first | (with_reducible first | exact HB.out | apply below_alloc | apply pw_below_drewN | apply below_drew1) | exact HB.out)) hb); clear HO_5; clear HO_6; clear HB; have HO_5 := n0_; have HO_6 := n1_; have HB := n2_; clear n0_ n1_ n2_; (try clear hb); (try clear hb2); (try clear hk); (try clear hi)) | ((with_reducible refine gate_dst (N := 8) rfl ?_); refine box_event ?hg (N := 8) ?hd (cs := #[.int .i64 0, .int .i64 0, .int .i64 0, .int .i64 0, .int .i64 0]) (t := 42) ?hr ?_; (case hd => rfl); (case hg => rfl); (case hr => first | (go_simp; done) | (go_simp; rfl)); intro gb292 hg w13 hbox hb; have n0_ := Aside0.mk (Kd.R_below (Kd.R_elderB (by (with_reducible repeat (first | apply Kd.R_alloc | apply Kd.R_drewN | apply Kd.R_drew)); exact HO_5.out) gb292 (Nat.le_of_eq hg.symm)) hb); have n1_ := Aside0.mk (Kd.R_below (by (with_reducible repeat (first | apply Kd.R_alloc | apply Kd.R_drewN | apply Kd.R_drew)); exact HO_6.out) hb); have n2_ := Aside0.mk (below_step (by repeat (first | (with_reducible first | exact HB.out | apply below_alloc | apply pw_below_drewN | apply below_drew1) | exact HB.out)) hb); have n3_ := Aside0.mk (hbox); have n4_ := Aside0.mk ((by rw [hg]; exact (below_size (by repeat (first | (with_reducible first | exact HB.out | apply below_alloc | apply pw_below_drewN | apply below_drew1) | exact HB.out))) : w.heap.size ≤ gb292)); have n5_ := Aside0.mk ((by rw [hg]; exact (below_size (by repeat (first | (with_reducible first | exact HB.out | apply below_alloc | apply pw_below_drewN | apply below_drew1) | exact HB.out))) : w.heap.size ≤ gb292)); clear HO_5; clear HO_6; clear HB; have HO_5 := n0_; have HO_6 := n1_; have HB := n2_; have BK292 := n3_; have GW292 := n4_; have GE292 := n5_; clear n0_ n1_ n2_ n3_ n4_ n5_; clear hb hbox hg; have hcz14_0 : w13.cell? ⟨gb292, 0, none⟩ = some (.int .i64 0) := (blk_cell BK292.out 0).trans rfl; have hcz14_1 : w13.cell? ⟨gb292, 1, none⟩ = some (.int .i64 0) := (blk_cell BK292.out 1).trans rfl; have hcz14_2 : w13.cell? ⟨gb292, 2, none⟩ = some (.int .i64 0) := (blk_cell BK292.out 2).trans rfl; have hcz14_3 : w13.cell? ⟨gb292, 3, none⟩ = some (.int .i64 0) := (blk_cell BK292.out 3).trans rfl; have hcz14_4 : w13.cell? ⟨gb292, 4, none⟩ = some (.int .i64 0) := (blk_cell BK292.out 4).trans rfl; have hfz14_0 := blk_frozen BK292.out 0; have hfz14_1 := blk_frozen BK292.out 1; have hfz14_2 := blk_frozen BK292.out 2; have hfz14_3 := blk_frozen BK292.out 3; have hfz14_4 := blk_frozen BK292.out 4))
          go_ret3
          exact ⟨_, _, by first | rfl | (simp [errW_none, errW_some] <;> rfl) | (simp [*, errW_none, errW_some] <;> rfl), by first | exact Kd.R_nil _ _ _ _ _ | exact Kd.N_nil _ _ _ _ _ | exact Kd.V_nil _ _ _ _ _ | exact Kd.Q_nil _ _ _ _ _ | exact Kd.S_nil _ _ _ _ _, by first | exact Kd.R_nil _ _ _ _ _ | exact Kd.N_nil _ _ _ _ _ | exact Kd.V_nil _ _ _ _ _ | exact Kd.Q_nil _ _ _ _ _ | exact Kd.S_nil _ _ _ _ _, by repeat (first | (with_reducible first | exact HB.out | apply below_alloc | apply pw_below_drewN | apply below_drew1 | refine below_set ?_ GE292.out) | exact HB.out)⟩
      · rw [if_neg c2] at H
        have c2b0 : decide (x7_1 < (l0.length : Int)) = false := decide_eq_false c2
        clear c2
        simp only [Option.some.injEq, Prod.mk.injEq] at H
        obtain ⟨rfl, rfl, rfl⟩ := H
        go_wp2
        go_ret3
        exact ⟨_, _, by first | rfl | (simp [errW_none, errW_some] <;> rfl) | (simp [*, errW_none, errW_some] <;> rfl), by (with_reducible repeat (first | apply Kd.R_alloc | apply Kd.R_drewN | apply Kd.R_drew)); exact HO_5.out, by (with_reducible repeat (first | apply Kd.R_alloc | apply Kd.R_drewN | apply Kd.R_drew)); exact HO_6.out, by repeat (first | (with_reducible first | exact HB.out | apply below_alloc | apply pw_below_drewN | apply below_drew1) | exact HB.out)⟩
end Go.Proofs.YtcjidibdidijaaaDoor.PCod
namespace Go.Proofs.YtcjidibdidijaaaDoor
open Go.RowKit Go.Proofs.YtcjidibdidijaaaDoor.PCod Go.Proofs.YtcjidibdidijaaaDoorW.PrintWords Go.Proofs.YtcjidibdidijaaaDoorW.PrintMore
set_option linter.unusedVariables false
set_option linter.unusedSimpArgs false
theorem rdec_ev (w : List Int) (hw : u32s w) (hl : w.length ≤ 9223372036854775800) (a : Int) : Ev (fun k => fullingref29_Decode.f k w a) (decS w a) :=
  Ev.congr (fun k => if_pos ⟨hw, hl⟩) (Ev.now _)
theorem rdall_loop (w : List Int) (hw : u32s w) (hl : w.length < 3518437208883) : ∀ (n a : Nat) (is : List S42) (ps : List Int), a ≤ w.length → w.length - a < n → is.length ≤ a → ps.length ≤ a →
    Ev (fun k => fullingref29_DecodeAll.l0 k w is ps (a : Int)) (match decA w n a with | none => ([], [], 204) | some l => (is ++ l, ps ++ starts a l, 0))
  | 0, a, is, ps, ha, hn, hi, hp => by omega
  | n + 1, a, is, ps, ha, hn, hi, hp => by
    rw [decA]
    by_cases hlt : a < w.length
    · rw [if_pos hlt]
      refine Ev.step (f := fun k => (fullingref29_Decode.f k w (a : Int)).bind fun bt175 => (if bt175.2.2.2.2.2.2 = 0 then (if is.length < 3518437208883 then (if ps.length < 17592186044416 then (fullingref29_DecodeAll.l0 k w (is ++ [(⟨bt175.1, bt175.2.1, bt175.2.2.1, bt175.2.2.2.1, bt175.2.2.2.2.1⟩ : S42)]) (ps ++ [(a : Int)]) (wrap64 ((a : Int) + bt175.2.2.2.2.2.1))) else (none)) else (none)) else (some (([] : List (S42)), ([] : List Int), bt175.2.2.2.2.2.2)))) (fun k => ?_) ?_
      · rw [fullingref29_DecodeAll.l0, if_pos (by omega)]
      · refine Ev.bind (rdec_ev w hw (by omega) a) ?_
        by_cases hk : okD w a
        · obtain ⟨hv, hs, _, hd⟩ := ok_words w hw a hk
          have hle := hk.2.1
          have h3 := wI_len3 hv
          have ih := rdall_loop w hw hl n (a + (wI (decI w a)).length) (is ++ [decI w a]) (ps ++ [(a : Int)]) (by omega) (by omega) (by simp; omega) (by simp; omega)
          have e : decS w a = ((decI w a).f0, (decI w a).f1, (decI w a).f2, (decI w a).f3, (decI w a).f4, sizeI (rd w a % 64), 0) := if_pos hk
          rw [e, if_pos hk]
          simp only [if_true]
          rw [hs]
          refine Ev.congr (fun k => ?_) (f := fun k => fullingref29_DecodeAll.l0 k w (is ++ [decI w a]) (ps ++ [(a : Int)]) ((a + (wI (decI w a)).length : Nat) : Int)) ?_
          · rw [if_pos (by omega), if_pos (by omega), show wrap64 ((a : Int) + ((wI (decI w a)).length : Int)) = ((a + (wI (decI w a)).length : Nat) : Int) by unfold wrap64; omega]
          · cases hm : decA w n (a + (wI (decI w a)).length) with
            | none =>
              rw [hm] at ih
              exact ih
            | some l =>
              rw [hm] at ih
              simp only [Option.map_some, starts]
              simp only [List.append_assoc, List.cons_append, List.nil_append] at ih
              exact ih
        · rw [if_neg hk, show decS w a = errD from if_neg hk]
          refine Ev.congr (fun k => ?_) (Ev.now _)
          exact (if_neg (show ¬ errD.2.2.2.2.2.2 = 0 by decide)).trans rfl
    · rw [if_neg hlt]
      refine Ev.step (f := fun _ => some (is, ps, 0)) (fun k => ?_) ?_
      · rw [fullingref29_DecodeAll.l0, if_neg (by omega)]
      · simp only [starts, List.append_nil]
        exact Ev.now _
theorem rdall_ev (w : List Int) (hw : u32s w) (hl : w.length < 3518437208883) : Ev (fun k => fullingref29_DecodeAll.f k w) (decR w) := by
  have h := rdall_loop w hw hl (w.length + 1) 0 [] [] (by omega) (by omega) (by simp) (by simp)
  simp only [List.nil_append] at h
  exact h
end Go.Proofs.YtcjidibdidijaaaDoor
namespace Go.Proofs.YtcjidibdidijaaaDoor.PCod
open Go.RowKit Go.Proofs.YtcjidibdidijaaaDoorW.PrintWords Go.Proofs.YtcjidibdidijaaaDoorW.PrintLast Go.Proofs.YtcjidibdidijaaaDoorW.PrintMore
attribute [local go_sem] max2_int min2_int max_two min_two max_three min_three max_four min_four
set_option linter.unusedVariables false
set_option linter.unusedSimpArgs false
def fullingkeep2_FlipBit.f (l0 : List Int) (a1 : Int) (a2 : Int) : Option (List Int) := if ([] : List Int).length + l0.length < 35184372088832 then ((some (([] : List Int) ++ l0 : List Int)).bind fun y205 => (if (y205.length : Int) > 0 then ((fullingkeep_Pick.f a1 (y205.length : Int)).bind fun t208 => (if 0 ≤ t208 then (if t208 < (y205.length : Int) then ((fullingkeep_Pick.f a2 32).bind fun t210 => (if 0 ≤ (IntKind.u64.wrap (t210)) then (some (y205.set (t208 : Int).toNat (Go.bits .xor .u32 (rd y205 t208) (shl .u32 1 (IntKind.u64.wrap (t210)))))) else (none))) else (none)) else (none))) else (some y205))) else (none)
def fullingkeep2_FlipBit.T3 : Bool × List (List Nat × List Nat) := (true, [([], []), ([], []), ([], []), ([2], [2]), ([1, 3], [1, 3]), ([0, 4], [0, 4]), ([5], [5]), ([], []), ([7, 4], [7]), ([8], [8]), ([9], [9]), ([6, 10], [6, 10]), ([0, 4, 0, 1, 2, 3, 4, 5, 6, 7, 8, 9, 10, 11], [0, 4]), ([12, 11, 8, 0, 1, 2, 3, 4, 5, 6, 7, 8, 9, 10, 11], [11, 12])])
def fullingkeep2_FlipBit.B3 : List Nat := [0, 0, 0, 4, 14, 31, 63, 0, 158, 414, 926, 2047, 4095, 8191]
theorem fullingkeep2_FlipBit.tab3 : rtab .any (opsOf Tryd.f40 3) = fullingkeep2_FlipBit.T3 := by kernel_rfl
theorem fullingkeep2_FlipBit.bits3 : waitsOk fullingkeep2_FlipBit.T3.2 fullingkeep2_FlipBit.B3 = true := by kernel_rfl
set_option maxHeartbeats 8000000 in
set_option maxRecDepth 100000 in
theorem fullingkeep2_FlipBit.calls (A0 : Option Addr) (c0 : Nat) (l0 : List Int) (a1 : Int) (a2 : Int) (r : List Int) (w : World) (hr0 : Kd.C (Kd.int .u32) w A0 l0.length l0) (hc0 : l0.length ≤ c0) (h : fullingkeep2_FlipBit.f l0 a1 a2 = some r) :
    Calls Tryd.prog 40 #[.slice A0 l0.length c0, .int .i64 a1, .int .i64 a2] w fun e w' => ∃ v0_ : Value, e = .returned (v0_) ∧ Kd.R (Kd.int .u32) 53 w' w.heap.size (fun _ => True) v0_ r ∧ Below w.heap.size w w' := by
  have HR0 := Aside0.mk hr0
  have HC0 := Aside0.mk hc0
  clear hr0 hc0
  have HB := Aside0.mk (Below.refl w.heap.size w)
  have H : (if ([] : List Int).length + l0.length < 35184372088832 then ((some (([] : List Int) ++ l0 : List Int)).bind fun y205 => (if (y205.length : Int) > 0 then ((fullingkeep_Pick.f a1 (y205.length : Int)).bind fun t208 => (if 0 ≤ t208 then (if t208 < (y205.length : Int) then ((fullingkeep_Pick.f a2 32).bind fun t210 => (if 0 ≤ (IntKind.u64.wrap (t210)) then (some (y205.set (t208 : Int).toNat (Go.bits .xor .u32 (rd y205 t208) (shl .u32 1 (IntKind.u64.wrap (t210)))))) else (none))) else (none)) else (none))) else (some y205))) else (none)) = some r := h
  clear h
  by_cases c4 : ([] : List Int).length + l0.length < 35184372088832
  · rw [if_pos c4] at H
    have LMc4 := Aside0.mk c4
    clear c4
    obtain ⟨y205, hy205⟩ : ∃ y_ : List Int, y_ = (([] : List Int) ++ l0) := ⟨_, rfl⟩
    replace H : (if (y205.length : Int) > 0 then ((fullingkeep_Pick.f a1 (y205.length : Int)).bind fun t208 => (if 0 ≤ t208 then (if t208 < (y205.length : Int) then ((fullingkeep_Pick.f a2 32).bind fun t210 => (if 0 ≤ (IntKind.u64.wrap (t210)) then (some (y205.set (t208 : Int).toNat (Go.bits .xor .u32 (rd y205 t208) (shl .u32 1 (IntKind.u64.wrap (t210)))))) else (none))) else (none)) else (none))) else (some y205)) = some r := by first | (rw [hy205]; with_reducible exact H) | (have H2_ := (Option.bind_some _ _).symm.trans H; rw [hy205]; with_reducible exact H2_) | (have H2_ := (Option.bind_some _ _).symm.trans H; with_reducible exact H2_) | with_reducible exact H | (rw [hy205]; exact H) | exact H
    have Ny205 := Aside0.mk hy205
    clear hy205
    by_cases c5 : (y205.length : Int) > 0
    · rw [if_pos c5] at H
      have c5b0 : decide (0 < (y205.length : Int)) = true := decide_eq_true c5
      have c5b1 : decide (0 < y205.length) = true := decide_eq_true (by omega)
      clear c5
      replace H := Option.bind_eq_some_iff.mp H
      obtain ⟨t208, A60, H⟩ := H
      replace H : (if 0 ≤ t208 then (if t208 < (y205.length : Int) then ((fullingkeep_Pick.f a2 32).bind fun t210 => (if 0 ≤ (IntKind.u64.wrap (t210)) then (some (y205.set (t208 : Int).toNat (Go.bits .xor .u32 (rd y205 t208) (shl .u32 1 (IntKind.u64.wrap (t210)))))) else (none))) else (none)) else (none)) = some r := H
      have A6 := Aside0.mk A60
      clear A60
      by_cases c7 : 0 ≤ t208
      · rw [if_pos c7] at H
        have c7b0 : decide (0 ≤ t208) = true := decide_eq_true c7
        clear c7
        by_cases c8 : t208 < (y205.length : Int)
        · rw [if_pos c8] at H
          have c8b0 : decide (t208 < (y205.length : Int)) = true := decide_eq_true c8
          clear c8
          replace H := Option.bind_eq_some_iff.mp H
          obtain ⟨t210, A90, H⟩ := H
          replace H : (if 0 ≤ (IntKind.u64.wrap (t210)) then (some (y205.set (t208 : Int).toNat (Go.bits .xor .u32 (rd y205 t208) (shl .u32 1 (IntKind.u64.wrap (t210)))))) else (none)) = some r := H
          have A9 := Aside0.mk A90
          clear A90
          obtain ⟨ji10, hji10⟩ : ∃ j_ : Int, (IntKind.u64.wrap (t210)) = j_ := ⟨_, rfl⟩
          replace H : (if 0 ≤ (ji10) then (some (y205.set (t208 : Int).toNat (Go.bits .xor .u32 (rd y205 t208) (shl .u32 1 (ji10))))) else (none)) = some r := by first | (rw [hji10] at H; exact H) | (simp only [hji10] at H ⊢; exact H)
          (try rw [hji10] at A6)
          (try rw [hji10] at A9)
          by_cases c11 : 0 ≤ (ji10)
          · rw [if_pos c11] at H
            have c11b0 := eq_true c11
            have c11b1 : decide (0 ≤ (ji10)) = true := decide_eq_true c11
            clear c11
            obtain ⟨ji12, hji12⟩ : ∃ j_ : Int, (shl .u32 1 (ji10)) = j_ := ⟨_, rfl⟩
            replace H : (some (y205.set (t208 : Int).toNat (Go.bits .xor .u32 (rd y205 t208) (ji12)))) = some r := by first | (rw [hji12] at H; exact H) | (simp only [hji12] at H ⊢; exact H)
            (try rw [hji12] at A6)
            (try rw [hji12] at A9)
            have hji12_ : (IntKind.u32.wrap (1 * 2 ^ min (ji10).toNat 32)) = ji12 := hji12
            have hji12z : (ji10) ≤ 32 → (IntKind.u32.wrap (1 * 2 ^ (ji10).toNat)) = ji12 := shl_small hji12
            have hji12u : (IntKind.u32.wrap (2 ^ min (ji10).toNat 32)) = ji12 := by have h_ := hji12_; rw [Int.one_mul] at h_; exact h_
            have hji12v : (ji10) ≤ 32 → (IntKind.u32.wrap (2 ^ (ji10).toNat)) = ji12 := fun hle_ => by have h_ := hji12z hle_; rw [Int.one_mul] at h_; exact h_
            obtain ⟨y211, hy211⟩ : ∃ y_ : List Int, y_ = (y205.set (t208 : Int).toNat (Go.bits .xor .u32 (rd y205 t208) (ji12))) := ⟨_, rfl⟩
            replace H : (some y211) = some r := by first | (rw [hy211]; with_reducible exact H) | (have H2_ := (Option.bind_some _ _).symm.trans H; rw [hy211]; with_reducible exact H2_) | (have H2_ := (Option.bind_some _ _).symm.trans H; with_reducible exact H2_) | with_reducible exact H | (rw [hy211]; exact H) | exact H
            have Ny211 := Aside0.mk hy211
            clear hy211
            obtain rfl := Option.some.inj H
            go_enter Tryd.func40, Tryd.ntmps40
            try go_wp2_with (first | ((with_reducible refine gate_builtin (b := .append) (xs := #[(.const (.slice none 0 0)), .tmp 8]) rfl ?_); at_builtin; refine Kd.R_append_rows (Kd.int .u32) (w0 := w) w.heap.size rfl (.const (.slice none 0 0)) (.tmp 8) 23 53 (.int .u32 0) 4 rfl Tryd.underlying23 info53 rfl (by decide) (by omega) (.slice none 0 0) ([] : List Int) l0 _ _ _ (fun _ => True) (fun _ => False) rfl rfl ?aO ?aR (fun _ _ h => h) (fun _ h => h.elim) ?aF ?aB ?aS ?aL ?_; (case aR => repeat (first | exact HR0.out | (with_reducible refine Kd.C_alloc ?_ _) | (with_reducible refine Kd.C_drewN ?_ _) | (with_reducible refine Kd.C_drew ?_))); (case aB => exact (by repeat (first | (with_reducible first | exact HB.out | apply below_alloc | apply pw_below_drewN | apply below_drew1) | exact HB.out))); (case aF => exact (fun _ _ => trivial)); (case aO => exact ((Kd.R_nil _ _ _ _ (fun _ => True)))); (case aS => exact (below_size (by repeat (first | (with_reducible first | exact HB.out | apply below_alloc | apply pw_below_drewN | apply below_drew1) | exact HB.out)))); (case aL => have := LMc4.out; omega); intro v206 w14 ho hb hg hat; rw [← Ny205.out] at ho; have n0_ := Aside0.mk (hb); have n1_ := Aside0.mk (ho); clear HB; have HB := n0_; have HO207 := n1_; clear n0_ n1_; clear ho hb hg hat; obtain ⟨Ao15, co15, eo15⟩ := Kd.R_slice HO207.out; subst eo15))
            have n0_ := Aside0.mk (Kd.R_drew HO207.out)
            have n1_ := Aside0.mk (below_drew1 HB.out)
            clear HO207
            clear HB
            have HO207 := n0_
            have HB := n1_
            clear n0_ n1_
            have p209 : 0 ≤ (t208 : Int) := of_decide_eq_true (by first | (with_reducible assumption) | assumption)
            have q209 : t208 < (y205.length : Int) := of_decide_eq_true (by first | (with_reducible assumption) | assumption)
            obtain ⟨ad209, e209, hx209_0⟩ := Kd.at_int (Kd.R_reads' HO207.out).2.2 t208 p209 q209
            cases e209
            replace p209 := eq_true p209
            replace q209 := eq_true q209
            refine start_ (n := 14) (S := fun w' => w'.cell? (ad209.add (t208).toNat) = some (.int .u32 (rd y205 t208))) (ds := [13]) #[false, false, false, false, false, false, false, false, false, false, false, false, false, false] (by kernel_rfl) rfl rfl (hx209_0) (fun hHeld => ?_); refine with_tabW fullingkeep2_FlipBit.tab3 fullingkeep2_FlipBit.bits3 (fun HT_ HW_ => ?_)
            generalize w14.drew = w16 at HO207 HB hx209_0 hHeld ⊢
            refine pure_ (i := 0) (N := some 13) (v := ?_) (a' := ?_) #[true, false, false, false, false, false, false, false, false, false, false, false, false, false] rfl rfl (any_of HT_.out (by kernel_rfl)) (fun _ _ _ h => h) (Or.inl ⟨by rfl, ?_⟩) ?_ ?_
            rotate_left
            · intro w'
              go_simp
              with_reducible rfl
            rotate_left
            · simp only [Act.put, List.setIfInBounds_toArray, List.set_cons_zero, List.set_cons_succ, i64_w, i32_w]
              rfl
            refine pure_ (i := 1) (N := some 14) (v := ?_) (a' := ?_) #[true, true, false, false, false, false, false, false, false, false, false, false, false, false] rfl rfl (any_of HT_.out (by kernel_rfl)) (fun _ _ _ h => h) (Or.inl ⟨by rfl, ?_⟩) ?_ ?_
            rotate_left
            · intro w'
              go_simp
              with_reducible rfl
            rotate_left
            · simp only [Act.put, List.setIfInBounds_toArray, List.set_cons_zero, List.set_cons_succ, i64_w, i32_w]
              rfl
            refine pure_ (i := 2) (N := some 15) (v := ?_) (a' := ?_) #[true, true, true, false, false, false, false, false, false, false, false, false, false, false] rfl rfl (any_of HT_.out (by kernel_rfl)) (fun _ _ _ h => h) (Or.inl ⟨by rfl, ?_⟩) ?_ ?_
            rotate_left
            · intro w'
              go_simp
              with_reducible rfl
            rotate_left
            · simp only [Act.put, List.setIfInBounds_toArray, List.set_cons_zero, List.set_cons_succ, i64_w, i32_w]
              rfl
            refine pure_ (i := 3) (N := some 16) (v := ?_) (a' := ?_) #[true, true, true, true, false, false, false, false, false, false, false, false, false, false] rfl rfl (any_of HT_.out (by kernel_rfl)) (fun _ _ _ h => h) (Or.inl ⟨by rfl, ?_⟩) ?_ ?_
            rotate_left
            · intro w'
              go_simp
              with_reducible rfl
            rotate_left
            · simp only [Act.put, List.setIfInBounds_toArray, List.set_cons_zero, List.set_cons_succ, i64_w, i32_w]
              rfl
            refine pure_ (i := 7) (N := some 20) (v := ?_) (a' := ?_) #[true, true, true, true, false, false, false, true, false, false, false, false, false, false] rfl rfl (any_of HT_.out (by kernel_rfl)) (fun _ _ _ h => h) (Or.inl ⟨by rfl, ?_⟩) ?_ ?_
            rotate_left
            · intro w'
              go_simp
              with_reducible rfl
            rotate_left
            · simp only [Act.put, List.setIfInBounds_toArray, List.set_cons_zero, List.set_cons_succ, i64_w, i32_w]
              rfl
            refine one_ (i := 4) (N := some 17) #[true, true, true, true, true, false, false, true, false, false, false, false, false, false] rfl rfl (one_of HT_.out (by kernel_rfl)) (by decide) (fun K hK => ?_)
            refine goes_ Tryd.func19 (by kernel_rfl) rfl #[.int .i64 a1, .int .i64 (y205.length : Int)] (by rfl) rfl rfl (by (try simp only [List.map_toArray, List.map_cons, List.map_nil]); first | done | rfl | (simp only [List.length_drop, List.length_take]; rfl)) ?_
            with_reducible refine (fullingkeep_Pick.calls a1 (y205.length : Int) t208 _ A6.out).mono ?_
            rintro e w' ⟨rfl, ⟨nd, rfl⟩⟩
            refine ⟨_, rfl, ?_⟩
            refine hK.out _ _ (hHeld) (fun hHeld => ?_)
            clear hK K
            refine norm_ (a' := ?_) ?_ ?_
            rotate_left
            · show Act.put _ (some 17) _ = _
              simp only [Act.put, List.setIfInBounds_toArray, List.set_cons_zero, List.set_cons_succ, i64_w, i32_w]
              rfl
            refine pure_ (i := 5) (N := some 18) (v := ?_) (a' := ?_) #[true, true, true, true, true, true, false, true, false, false, false, false, false, false] rfl rfl (any_of HT_.out (by kernel_rfl)) (fun _ _ _ h => h) (Or.inl ⟨by rfl, ?_⟩) ?_ ?_
            rotate_left
            · intro w'
              go_simp
              with_reducible rfl
            rotate_left
            · simp only [Act.put, List.setIfInBounds_toArray, List.set_cons_zero, List.set_cons_succ, i64_w, i32_w]
              rfl
            refine take_ (i := 6) (N := some 19) (v := ?_) (a' := ?_) #[true, true, true, true, true, true, true, true, false, false, false, false, false, false] rfl rfl (take_ofW HT_.out HW_.out (by kernel_rfl)) (fun _ _ _ h => h) (Or.inl ⟨by rfl, ?_⟩) hHeld ?_ ?_
            rotate_left
            · intro w' s0
              go_simp
              with_reducible rfl
            rotate_left
            · simp only [Act.put, List.setIfInBounds_toArray, List.set_cons_zero, List.set_cons_succ, i64_w, i32_w]
              rfl
            refine one_ (i := 8) (N := some 21) #[true, true, true, true, true, true, true, true, true, false, false, false, false, false] rfl rfl (one_of HT_.out (by kernel_rfl)) (by decide) (fun K hK => ?_)
            refine goes_ Tryd.func19 (by kernel_rfl) rfl #[.int .i64 a2, .int .i64 32] (by rfl) rfl rfl (by (try simp only [List.map_toArray, List.map_cons, List.map_nil]); first | done | rfl | (simp only [List.length_drop, List.length_take]; rfl)) ?_
            with_reducible refine (fullingkeep_Pick.calls a2 32 t210 _ A9.out).mono ?_
            rintro e w' ⟨rfl, ⟨nd, rfl⟩⟩
            refine ⟨_, rfl, ?_⟩
            have p13 : 0 ≤ (t208 : Int) := of_decide_eq_true (by first | (with_reducible assumption) | assumption)
            have q13 : (t208 : Int) < ((y205.length : Int) : Int) := of_decide_eq_true (by first | (with_reducible assumption) | assumption)
            obtain ⟨go13, co13, eo13, gb13, gl13, cl13, HG13⟩ := Kd.R_form HO207.out (by omega)
            (first | cases eo13 | (injection eo13 with ea_ en_ ec_; (first | subst ea_ | (injection ea_ with ea_; subst ea_)); subst ec_; clear en_))
            have GB13 := Aside0.mk gb13
            have GG13 := Aside0.mk HG13
            clear gb13 gl13 HG13
            (first | simp only [add_plain] at hx209_0 | skip)
            obtain ⟨hx13_0, hf13_0⟩ := Kd.R_celln 0 HO207.out (t208 : Int) p13 q13
            replace p13 := eq_true p13
            replace q13 := eq_true q13
            have HP17 := Kd.R_putn HO207.out (t208 : Int) (Go.bits .xor .u32 (rd y205 t208) (ji12))
            rw [← Ny211.out] at HP17
            have HQ17 := Aside0.mk HP17
            clear HP17
            refine hK.out _ _ (hHeld) (fun hHeld => ?_)
            clear hK K
            refine norm_ (a' := ?_) ?_ ?_
            rotate_left
            · show Act.put _ (some 21) _ = _
              simp only [Act.put, List.setIfInBounds_toArray, List.set_cons_zero, List.set_cons_succ, i64_w, i32_w]
              rfl
            refine pure_ (i := 9) (N := some 22) (v := ?_) (a' := ?_) #[true, true, true, true, true, true, true, true, true, true, false, false, false, false] rfl rfl (any_of HT_.out (by kernel_rfl)) (fun _ _ _ h => h) (Or.inl ⟨by rfl, ?_⟩) ?_ ?_
            rotate_left
            · intro w'
              go_simp
              with_reducible rfl
            rotate_left
            · simp only [Act.put, List.setIfInBounds_toArray, List.set_cons_zero, List.set_cons_succ, i64_w, i32_w]
              rfl
            refine pure_ (i := 10) (N := some 23) (v := ?_) (a' := ?_) #[true, true, true, true, true, true, true, true, true, true, true, false, false, false] rfl rfl (any_of HT_.out (by kernel_rfl)) (fun _ _ _ h => h) (Or.inl ⟨by rfl, ?_⟩) ?_ ?_
            rotate_left
            · intro w'
              go_simp
              with_reducible rfl
            rotate_left
            · simp only [Act.put, List.setIfInBounds_toArray, List.set_cons_zero, List.set_cons_succ, i64_w, i32_w]
              rfl
            refine pure_ (i := 11) (N := some 24) (v := ?_) (a' := ?_) #[true, true, true, true, true, true, true, true, true, true, true, true, false, false] rfl rfl (any_of HT_.out (by kernel_rfl)) (fun _ _ _ h => h) (Or.inl ⟨by rfl, ?_⟩) ?_ ?_
            rotate_left
            · intro w'
              go_simp
              with_reducible rfl
            rotate_left
            · simp only [Act.put, List.setIfInBounds_toArray, List.set_cons_zero, List.set_cons_succ, i64_w, i32_w]
              rfl
            refine pure_ (i := 12) (N := some 25) (v := ?_) (a' := ?_) #[true, true, true, true, true, true, true, true, true, true, true, true, true, false] rfl rfl (any_of HT_.out (by kernel_rfl)) (fun _ _ _ h => h) (Or.inl ⟨by rfl, ?_⟩) ?_ ?_
            rotate_left
            · intro w'
              go_simp
              with_reducible rfl
            rotate_left
            · simp only [Act.put, List.setIfInBounds_toArray, List.set_cons_zero, List.set_cons_succ, i64_w, i32_w]
              rfl
            refine last_ (i := 13) (N := none) #[true, true, true, true, true, true, true, true, true, true, true, true, true, true] rfl rfl (one_of HT_.out (by kernel_rfl)) (by decide) (fun K hK => ?_)
            refine skip_ (w1 := ?_) (by rfl) rfl ?_ ?_
            rotate_left
            · go_simp
              rfl
            refine hK.out _ _ ?_
            clear hK K
            refine done_ (done_of HT_.out (by kernel_rfl)) ?_
            try go_wp2
            go_ret
            exact ⟨_, by first | rfl | (simp [errW_none, errW_some] <;> rfl) | (simp only [← hji10, ← hji12]; first | rfl | (simp [errW_none, errW_some] <;> rfl)) | (simp [*, errW_none, errW_some] <;> rfl), by (with_reducible repeat (first | apply Kd.R_alloc | apply Kd.R_drewN | apply Kd.R_drew)); exact HQ17.out, by repeat (first | (with_reducible first | exact HB.out | apply below_alloc | apply pw_below_drewN | apply below_drew1 | refine below_set ?_ GB13.out) | exact HB.out)⟩
          · rw [if_neg c11] at H
            exact absurd H (by simp)
        · rw [if_neg c8] at H
          exact absurd H (by simp)
      · rw [if_neg c7] at H
        exact absurd H (by simp)
    · rw [if_neg c5] at H
      have c5b0 : decide (0 < (y205.length : Int)) = false := decide_eq_false c5
      have c5b1 : decide (0 < y205.length) = false := decide_eq_false (by omega)
      clear c5
      obtain rfl := Option.some.inj H
      go_enter Tryd.func40, Tryd.ntmps40
      go_wp2_with (first | ((with_reducible refine gate_builtin (b := .append) (xs := #[(.const (.slice none 0 0)), .tmp 8]) rfl ?_); at_builtin; refine Kd.R_append_rows (Kd.int .u32) (w0 := w) w.heap.size rfl (.const (.slice none 0 0)) (.tmp 8) 23 53 (.int .u32 0) 4 rfl Tryd.underlying23 info53 rfl (by decide) (by omega) (.slice none 0 0) ([] : List Int) l0 _ _ _ (fun _ => True) (fun _ => False) rfl rfl ?aO ?aR (fun _ _ h => h) (fun _ h => h.elim) ?aF ?aB ?aS ?aL ?_; (case aR => repeat (first | exact HR0.out | (with_reducible refine Kd.C_alloc ?_ _) | (with_reducible refine Kd.C_drewN ?_ _) | (with_reducible refine Kd.C_drew ?_))); (case aB => exact (by repeat (first | (with_reducible first | exact HB.out | apply below_alloc | apply pw_below_drewN | apply below_drew1) | exact HB.out))); (case aF => exact (fun _ _ => trivial)); (case aO => exact ((Kd.R_nil _ _ _ _ (fun _ => True)))); (case aS => exact (below_size (by repeat (first | (with_reducible first | exact HB.out | apply below_alloc | apply pw_below_drewN | apply below_drew1) | exact HB.out)))); (case aL => have := LMc4.out; omega); intro v206 w18 ho hb hg hat; rw [← Ny205.out] at ho; have n0_ := Aside0.mk (hb); have n1_ := Aside0.mk (ho); clear HB; have HB := n0_; have HO207 := n1_; clear n0_ n1_; clear ho hb hg hat; obtain ⟨Ao19, co19, eo19⟩ := Kd.R_slice HO207.out; subst eo19))
      go_ret
      exact ⟨_, by first | rfl | (simp [errW_none, errW_some] <;> rfl) | (simp [*, errW_none, errW_some] <;> rfl), by (with_reducible repeat (first | apply Kd.R_alloc | apply Kd.R_drewN | apply Kd.R_drew)); exact HO207.out, by repeat (first | (with_reducible first | exact HB.out | apply below_alloc | apply pw_below_drewN | apply below_drew1) | exact HB.out)⟩
  · rw [if_neg c4] at H
    exact absurd H (by simp)
end Go.Proofs.YtcjidibdidijaaaDoor.PCod
namespace Go.Proofs.YtcjidibdidijaaaDoor.PCod
open Go.RowKit Go.Proofs.YtcjidibdidijaaaDoorW.PrintWords Go.Proofs.YtcjidibdidijaaaDoorW.PrintLast Go.Proofs.YtcjidibdidijaaaDoorW.PrintMore
attribute [local go_sem] max2_int min2_int max_two min_two max_three min_three max_four min_four
set_option linter.unusedVariables false
set_option linter.unusedSimpArgs false
def fullingref22_SameInts.l0 : Nat → List Int → List Int → Int → Option (Bool)
  | 0, _, _, _ => none
  | k + 1, x0, x1, x5 => if x5 < (x0.length : Int) then (if 0 ≤ x5 then (if x5 < (x1.length : Int) then (if (rd x0 x5) = (rd x1 x5) then (fullingref22_SameInts.l0 k x0 x1 (wrap64 (x5 + 1))) else (some false)) else (none)) else (none)) else (some true)
def fullingref22_SameInts.f (k : Nat) (l0 : List Int) (l1 : List Int) : Option (Bool) := if (l0.length : Int) = (l1.length : Int) then (fullingref22_SameInts.l0 k l0 l1 0) else (some false)
theorem fullingref22_SameInts.mono_l : ∀ k, (∀ y0 y1 y2, LeO (fullingref22_SameInts.l0 k y0 y1 y2) (fullingref22_SameInts.l0 (k + 1) y0 y1 y2))
  | 0 => fun _ _ _ r h => by simp [fullingref22_SameInts.l0] at h
  | k + 1 => by
    have ih0 := fullingref22_SameInts.mono_l k
    · intro y0 y1 y2
      unfold fullingref22_SameInts.l0
      repeat' first
      | (with_reducible exact ih0 _ _ _)
      | (with_reducible exact LeO.refl _)
      | (with_reducible exact LeO.none _)
      | (with_reducible refine LeO.ite ?_ ?_)
      | (with_reducible refine LeO.bind ?_ (fun _ => ?_))
      | exact ih0 _ _ _
      | exact LeO.none _
      | refine LeO.ite ?_ ?_
      | refine LeO.bind ?_ (fun _ => ?_)
theorem fullingref22_SameInts.mono : ∀ a0 a1 k, LeO (fullingref22_SameInts.f k a0 a1) (fullingref22_SameInts.f (k + 1) a0 a1) := by
  intro a0 a1 k
  have ih0 := fullingref22_SameInts.mono_l k
  unfold fullingref22_SameInts.f
  repeat' first
      | (with_reducible exact ih0 _ _ _)
      | (with_reducible exact LeO.refl _)
      | (with_reducible exact LeO.none _)
      | (with_reducible refine LeO.ite ?_ ?_)
      | (with_reducible refine LeO.bind ?_ (fun _ => ?_))
      | exact ih0 _ _ _
      | exact LeO.none _
      | refine LeO.ite ?_ ?_
      | refine LeO.bind ?_ (fun _ => ?_)
set_option maxHeartbeats 8000000 in
set_option maxRecDepth 100000 in
theorem fullingref22_SameInts.calls (k : Nat) (A0 : Option Addr) (c0 : Nat) (l0 : List Int) (A1 : Option Addr) (c1 : Nat) (l1 : List Int) (r : Bool) (w : World) (hr0 : Kd.C (Kd.int .i64) w A0 l0.length l0) (hc0 : l0.length ≤ c0) (hr1 : Kd.C (Kd.int .i64) w A1 l1.length l1) (hc1 : l1.length ≤ c1) (h : fullingref22_SameInts.f k l0 l1 = some r) :
    Calls Tryd.prog 44 #[.slice A0 l0.length c0, .slice A1 l1.length c1] w fun e w' => e = .returned (.bool r) ∧ Drawn0 w w' := by
  have HR0 := Aside0.mk hr0
  have HC0 := Aside0.mk hc0
  clear hr0 hc0
  have HR1 := Aside0.mk hr1
  have HC1 := Aside0.mk hc1
  clear hr1 hc1
  have H : (if (l0.length : Int) = (l1.length : Int) then (fullingref22_SameInts.l0 k l0 l1 0) else (some false)) = some r := h
  clear h
  by_cases c3 : (l0.length : Int) = (l1.length : Int)
  · rw [if_pos c3] at H
    have c3b0 : ((l0.length : Int) == (l1.length : Int)) = true := beq_iff_eq.mpr c3
    have c3b1 : ((l0.length : Int) != (l1.length : Int)) = false := bne_eq_false_iff_eq.mpr c3
    have c3b2 : (l0.length == l1.length) = true := by first | simpa using c3 | (simp at c3 ⊢; omega)
    clear c3
    have H' := Aside0.mk H
    clear H
    go_enter Tryd.func44, Tryd.ntmps44
    go_wp2
    repeat (go_quiet (fail); try go_wp2)
    go_loopg [5] k (fun kq v5 w' => ∃ (x5_1 : Int), v5 = .int .i64 x5_1 ∧ Aside0 (fullingref22_SameInts.l0 kq l0 l1 x5_1 = some r) ∧ Aside0 (kq ≤ k) ∧ Drawn0 w w')
    case atStart => exact ⟨(0), (by first | rfl | (simp; done) | (simp [*]; done)), H', ⟨Nat.le_refl _⟩, by repeat (first | exact Drawn0.refl _ | apply Drawn0.step)⟩
    case round =>
      clear H'
      try clear c1
      try clear p2
      try clear c3
      try clear c3b0
      try clear c3b1
      try clear c3b2
      obtain ⟨x5_1, rfl, HA, HK1, ⟨m1, rfl⟩⟩ := hrel
      cases gk with
      | zero => exact absurd HA.out (by simp [fullingref22_SameInts.l0])
      | succ k1 =>
        have H := HA.out
        clear HA
        simp only [fullingref22_SameInts.l0] at H
        by_cases c4 : x5_1 < (l0.length : Int)
        · rw [if_pos c4] at H
          have c4b0 : decide (x5_1 < (l0.length : Int)) = true := decide_eq_true c4
          clear c4
          by_cases c5 : 0 ≤ x5_1
          · rw [if_pos c5] at H
            have c5b0 : decide (0 ≤ x5_1) = true := decide_eq_true c5
            clear c5
            by_cases c6 : x5_1 < (l1.length : Int)
            · rw [if_pos c6] at H
              have c6b0 : decide (x5_1 < (l1.length : Int)) = true := decide_eq_true c6
              clear c6
              by_cases c7 : (rd l0 x5_1) = (rd l1 x5_1)
              · rw [if_pos c7] at H
                have c7b0 : ((rd l0 x5_1) == (rd l1 x5_1)) = true := beq_iff_eq.mpr c7
                have c7b1 : ((rd l0 x5_1) != (rd l1 x5_1)) = false := bne_eq_false_iff_eq.mpr c7
                clear c7
                have H' := Aside0.mk H
                clear H
                have p299 : 0 ≤ (x5_1 : Int) := of_decide_eq_true (by first | (with_reducible assumption) | assumption)
                have q299 : x5_1 < (l0.length : Int) := of_decide_eq_true (by first | (with_reducible assumption) | assumption)
                obtain ⟨ad299, e299, hx299_0⟩ := Kd.at_int HR0.out x5_1 p299 q299
                cases e299
                replace p299 := eq_true p299
                replace q299 := eq_true q299
                have p300 : 0 ≤ (x5_1 : Int) := of_decide_eq_true (by first | (with_reducible assumption) | assumption)
                have q300 : x5_1 < (l1.length : Int) := of_decide_eq_true (by first | (with_reducible assumption) | assumption)
                obtain ⟨ad300, e300, hx300_0⟩ := Kd.at_int HR1.out x5_1 p300 q300
                cases e300
                replace p300 := eq_true p300
                replace q300 := eq_true q300
                go_wp2
                repeat (go_quiet (fail); try go_wp2)
                go_roundg k1
                case measure => have := HK1.out; omega
                case rel => exact ⟨(wrap64 (x5_1 + 1)), (by first | rfl | (simp; done) | (simp [*]; done)), H', ⟨by have := HK1.out; omega⟩, by repeat (first | exact Drawn0.refl _ | apply Drawn0.step)⟩
              · rw [if_neg c7] at H
                have c7b0 : ((rd l0 x5_1) == (rd l1 x5_1)) = false := beq_eq_false_iff_ne.mpr c7
                have c7b1 : ((rd l0 x5_1) != (rd l1 x5_1)) = true := bne_iff_ne.mpr c7
                obtain rfl := Option.some.inj H
                have p299 : 0 ≤ (x5_1 : Int) := of_decide_eq_true (by first | (with_reducible assumption) | assumption)
                have q299 : x5_1 < (l0.length : Int) := of_decide_eq_true (by first | (with_reducible assumption) | assumption)
                obtain ⟨ad299, e299, hx299_0⟩ := Kd.at_int HR0.out x5_1 p299 q299
                cases e299
                replace p299 := eq_true p299
                replace q299 := eq_true q299
                have p300 : 0 ≤ (x5_1 : Int) := of_decide_eq_true (by first | (with_reducible assumption) | assumption)
                have q300 : x5_1 < (l1.length : Int) := of_decide_eq_true (by first | (with_reducible assumption) | assumption)
                obtain ⟨ad300, e300, hx300_0⟩ := Kd.at_int HR1.out x5_1 p300 q300
                cases e300
                replace p300 := eq_true p300
                replace q300 := eq_true q300
                go_wp2
                repeat (go_quiet (fail); try go_wp2)
                go_ret
                exact ⟨by first | rfl | (simp; done) | (simp [*]; done), by repeat (first | exact Drawn0.refl _ | apply Drawn0.step)⟩
            · rw [if_neg c6] at H
              exact absurd H (by simp)
          · rw [if_neg c5] at H
            exact absurd H (by simp)
        · rw [if_neg c4] at H
          have c4b0 : decide (x5_1 < (l0.length : Int)) = false := decide_eq_false c4
          clear c4
          obtain rfl := Option.some.inj H
          go_wp2
          repeat (go_quiet (fail); try go_wp2)
          go_ret
          exact ⟨by first | rfl | (simp; done) | (simp [*]; done), by repeat (first | exact Drawn0.refl _ | apply Drawn0.step)⟩
  · rw [if_neg c3] at H
    have c3b0 : ((l0.length : Int) == (l1.length : Int)) = false := beq_eq_false_iff_ne.mpr c3
    have c3b1 : ((l0.length : Int) != (l1.length : Int)) = true := bne_iff_ne.mpr c3
    have c3b2 : (l0.length == l1.length) = false := by first | simpa using c3 | (simp at c3 ⊢; omega)
    obtain rfl := Option.some.inj H
    go_enter Tryd.func44, Tryd.ntmps44
    go_wp2
    repeat (go_quiet (fail); try go_wp2)
    go_ret
    exact ⟨by first | rfl | (simp; done) | (simp [*]; done), by repeat (first | exact Drawn0.refl _ | apply Drawn0.step)⟩
end Go.Proofs.YtcjidibdidijaaaDoor.PCod
namespace Go.Proofs.YtcjidibdidijaaaDoor
open Go.RowKit Go.Proofs.YtcjidibdidijaaaDoor.PCod Go.Proofs.YtcjidibdidijaaaDoorW.PrintWords Go.Proofs.YtcjidibdidijaaaDoorW.PrintMore
attribute [local go_sem high] eqA42
set_option linter.unusedVariables false
set_option linter.unusedSimpArgs false
def exI : List S42 := [⟨1, 0, 0, 0, 0⟩, ⟨13, 1, 0, 0, -1⟩, ⟨14, 2, 0, 0, -2⟩]
def exW : List Int := [1, 4294966861, 142, 4294967294, 4294967295]
theorem exEnc : encL exI = (exW, 0) := by decide +kernel
theorem exDec : decS exW 1 = (13, 1, 0, 0, -1, 1, 0) := by decide +kernel
theorem exBad : decS [513] 0 = errD := by decide +kernel
theorem exW_u32 : u32s exW := by unfold u32s exW; decide
def ExEnc (W : World) (e : Ending) (w' : World) : Prop := ∃ (A : Option Addr) (c : Nat), e = .returned (.tuple #[.slice A 5 c, .int .i64 0]) ∧ 5 ≤ c ∧ Kd.C (Kd.int .u32) w' A 5 exW ∧ Below W.heap.size W w'
theorem ex_enc (W : World) (b : Nat) (h : W.heap[b]? = some (.cells (insCells exI).toArray 42 (0, 0))) (HT : Aside0 (TabOK W)) : Calls Tryd.prog 33 #[.slice (some ⟨b, 0, none⟩) 3 3] W (ExEnc W) := by
  obtain ⟨k, hk⟩ := (enc_ev exI (by decide)).rounds
  rw [exEnc] at hk
  refine (encoding_Encode.calls k _ 3 exI _ _ W (C42_blk h (by decide)) (by decide) hk HT).mono ?_
  rintro e w' ⟨v0, rfl, hR, hb⟩
  obtain ⟨A, c, rfl, hc, hC⟩ := Kd.R_reads hR
  exact ⟨A, c, rfl, hc, hC, hb⟩
theorem ex_dec (W : World) (A : Option Addr) (c : Nat) (hc : 5 ≤ c) (hC : Kd.C (Kd.int .u32) W A 5 exW) (HT : Aside0 (TabOK W)) : Calls Tryd.prog 34 #[.slice A 5 c, .int .i64 1] W fun e w' =>
    e = .returned (.tuple #[.agg #[.int .i64 13, .int .i64 1, .int .i64 0, .int .i64 0, .int .i64 (-1)], .int .i64 1, .int .i64 0]) ∧ Below W.heap.size W w' := by
  obtain ⟨k, hk⟩ := (dec_ev exW exW_u32 (by decide) 1).rounds
  rw [exDec] at hk
  exact encoding_Decode.calls k A c exW 1 _ _ _ _ _ _ _ W hC hc hk HT
theorem ex_bad (W : World) (b : Nat) (h : W.heap[b]? = some (.cells (nums .u32 [513]).toArray 53 (0, 0))) (HT : Aside0 (TabOK W)) : Calls Tryd.prog 34 #[.slice (some ⟨b, 0, none⟩) 1 1, .int .i64 0] W fun e w' =>
    e = .returned (.tuple #[.agg #[.int .i64 0, .int .i64 0, .int .i64 0, .int .i64 0, .int .i64 0], .int .i64 0, .int .i64 204]) ∧ Below W.heap.size W w' := by
  obtain ⟨k, hk⟩ := (dec_ev [513] (by unfold u32s; decide) (by decide) 0).rounds
  rw [exBad] at hk
  exact encoding_Decode.calls k _ 1 [513] 0 _ _ _ _ _ _ _ W (C32_blk h (by decide)) (by decide) hk HT
theorem ex_same (W : World) (A : Option Addr) (c : Nat) (hc : 5 ≤ c) (hC : Kd.C (Kd.int .u32) W A 5 exW) (b : Nat) (h : W.heap[b]? = some (.cells (nums .u32 exW).toArray 53 (0, 0))) :
    Calls Tryd.prog 35 #[.slice A 5 c, .slice (some ⟨b, 0, none⟩) 5 5] W fun e w' => e = .returned (.bool true) ∧ Drawn0 W w' := by
  obtain ⟨k, hk⟩ := (sameW_ev exW (by decide)).rounds
  exact fullingref32_SameWords.calls k A c exW _ 5 exW _ W hC hc (C32_blk h (by decide)) (by decide) hk
set_option maxRecDepth 100000 in
set_option maxHeartbeats 4000000 in
theorem exa_calls (r : Bool) (w : World) (h : some true = some r) (HT : Aside0 (TabOK w)) : Calls Tryd.prog 5 #[] w fun e w' => e = .returned (.bool r) ∧ Below w.heap.size w w' := by
  obtain rfl := Option.some.inj h
  clear h
  go_enter Tryd.func5, Tryd.ntmps5
  go_wp2_with fail
  refine (ex_enc _ w.heap.size ?hb ?ht).mono ?_
  case hb => exact blk_new _ _
  case ht => exact TabOK.aside HT.out ((Below.refl _ _).alloc (Nat.le_refl _) _)
  rintro e w1 ⟨A, c, rfl, hc, hC, hb⟩
  have HB := Aside0.mk (below_step ((Below.refl w.heap.size w).alloc (Nat.le_refl _) _) hb)
  have HT1 := TabOK.aside HT.out HB.out
  have HCC := Aside0.mk hC
  have Hc := Aside0.mk hc
  have hz : w.heap.size < w1.heap.size := by have := hb.size; simp at this; omega
  clear hb hC hc HT
  go_wp2_with fail
  refine (ex_dec _ _ _ Hc.out HCC.out HT1).mono ?_
  rintro e w2 ⟨rfl, hb⟩
  have HB2 := Aside0.mk (below_then HB.out (Nat.le_of_lt hz) hb)
  have HT2 := TabOK.aside HT1.out hb
  have HC2 := Aside0.mk (Kd.C_below HCC.out hb)
  have hz2 : w.heap.size < w2.heap.size := by have := hb.size; omega
  clear hb HB HT1 HCC hz
  go_wp2_with fail
  refine (ex_bad _ (w2.heap.size + 1) ?hb2 ?ht2).mono ?_
  case hb2 =>
    show _ = some (Obj.cells #[.int .u32 513] 53 (0, 0))
    simpa using blk_new (w2.alloc _) _
  case ht2 => exact TabOK.aside HT2.out (below_alloc (below_alloc (Below.refl _ _) _) _)
  rintro e w3 ⟨rfl, hb⟩
  have HB3 := Aside0.mk (below_then HB2.out (Nat.le_of_lt hz2) (below_step (below_alloc (below_alloc (Below.refl _ _) _) _) hb))
  have HC3 := Aside0.mk (Kd.C_below HC2.out (below_step (below_alloc (below_alloc (Below.refl _ _) _) _) hb))
  have hz3 : w2.heap.size + 1 < w3.heap.size := by have := hb.size; simp at this; omega
  have hz4 : w2.heap.size < w3.heap.size := by omega
  obtain ⟨c0, f0⟩ := kcX hb w2.heap.size 0 13 (by go_simp) (by go_simp)
  obtain ⟨c1, f1⟩ := kcX hb w2.heap.size 1 1 (by go_simp) (by go_simp)
  obtain ⟨c2, f2⟩ := kcX hb w2.heap.size 2 0 (by go_simp) (by go_simp)
  obtain ⟨c3, f3⟩ := kcX hb w2.heap.size 3 0 (by go_simp) (by go_simp)
  obtain ⟨c4, f4⟩ := kcX hb w2.heap.size 4 (-1) (by go_simp) (by go_simp)
  clear hb HB2 HT2 HC2
  go_wp2_with fail
  refine (ex_same _ _ _ Hc.out ?hc3 (w3.heap.size + 1) ?hb3).mono ?_
  case hc3 => exact Kd.C_below HC3.out (below_alloc (below_alloc (Below.refl _ _) _) _)
  case hb3 =>
    show _ = some (Obj.cells #[.int .u32 1, .int .u32 4294966861, .int .u32 142, .int .u32 4294967294, .int .u32 4294967295] 53 (0, 0))
    simpa using blk_new (w3.alloc _) _
  rintro e w4 ⟨rfl, hd⟩
  have hb := hd.below
  have HB4 := Aside0.mk (below_then HB3.out (by omega) (below_step (below_alloc (below_alloc (Below.refl _ _) _) _) hb))
  obtain ⟨d0, -⟩ := kcX hb w2.heap.size 0 13 (by go_simp) (by go_simp)
  obtain ⟨d1, -⟩ := kcX hb w2.heap.size 1 1 (by go_simp) (by go_simp)
  obtain ⟨d2, -⟩ := kcX hb w2.heap.size 2 0 (by go_simp) (by go_simp)
  obtain ⟨d3, -⟩ := kcX hb w2.heap.size 3 0 (by go_simp) (by go_simp)
  obtain ⟨d4, -⟩ := kcX hb w2.heap.size 4 (-1) (by go_simp) (by go_simp)
  clear hb hd c0 c1 c2 c3 c4
  go_wp2_with fail
  go_ret
  exact ⟨rfl, HB4.out⟩
end Go.Proofs.YtcjidibdidijaaaDoor
namespace Go.Proofs.YtcjidibdidijaaaDoor.PCod
open Go.RowKit Go.Proofs.YtcjidibdidijaaaDoorW.PrintWords Go.Proofs.YtcjidibdidijaaaDoorW.PrintMore
set_option linter.unusedVariables false
def fullinglaw30_EncodingExamples.f : Option (Bool) := some true
theorem fullinglaw30_EncodingExamples.calls (r : Bool) (w : World) (h : fullinglaw30_EncodingExamples.f = some r) (HT : Aside0 (TabOK w)) :
    Calls Tryd.prog 5 #[] w fun e w' => e = .returned (.bool r) ∧ Below w.heap.size w w' :=
  exa_calls r w h HT
end Go.Proofs.YtcjidibdidijaaaDoor.PCod
namespace Go.Proofs.YtcjidibdidijaaaDoor.DecL
open Go.RowKit Go.Proofs.YtcjidibdidijaaaDoor Go.Proofs.YtcjidibdidijaaaDoor.PCod Go.Proofs.YtcjidibdidijaaaDoorW.PrintWords Go.Proofs.YtcjidibdidijaaaDoorW.PrintMore
set_option linter.unusedVariables false
set_option linter.unusedSimpArgs false
theorem pick_f (n m : Int) (h : m ≠ 0) : fullingkeep_Pick.f n m = some (pickN n m) := by
  unfold fullingkeep_Pick.f pickN
  rw [if_neg h]
  split <;> rfl
def flipW (w : List Int) (p q : Int) : List Int := if w.length = 0 then w else w.set (pickN p w.length).toNat (Go.bits .xor .u32 (rd w (pickN p w.length)) ((2 ^ (pickN q 32).toNat : Nat) : Int))
theorem shl_one (k : Nat) (h : k < 32) : shl .u32 1 (k : Int) = ((2 ^ k : Nat) : Int) := by
  have hp : 2 ^ k < 2 ^ 32 := Nat.pow_lt_pow_right (by omega) h
  have hp' : 2 ^ k < 4294967296 := hp
  rw [shl32 1 k k rfl (by omega), Int.one_mul]
  clear hp
  generalize 2 ^ k = m at *
  omega
theorem flip_f (w : List Int) (p q : Int) (hl : w.length < 35184372088832) : fullingkeep2_FlipBit.f w p q = some (flipW w p q) := by
  unfold fullingkeep2_FlipBit.f flipW
  rw [if_pos (by simpa using hl), Option.bind_some, List.nil_append]
  by_cases h0 : w.length = 0
  · rw [if_neg (by omega), if_pos h0]
  · have hp := pickN_range p w.length (by omega) (by omega)
    have hq := pickN_range q 32 (by omega) (by omega)
    rw [if_pos (by omega), if_neg h0, pick_f _ _ (by omega), Option.bind_some, if_pos hp.1, if_pos hp.2, pick_f _ _ (by omega), Option.bind_some]
    have e : IntKind.u64.wrap (pickN q 32) = ((pickN q 32).toNat : Int) := by rw [u64w]; omega
    rw [e, if_pos (by omega), shl_one _ (by omega)]
theorem flip_u32 (w : List Int) (hw : u32s w) (p q : Int) : u32s (flipW w p q) := by
  unfold flipW
  split
  · exact hw
  · intro x hx
    rcases List.mem_or_eq_of_mem_set hx with h | h
    · exact hw x h
    · rw [h]; exact xor32_range _ _
theorem flip_len (w : List Int) (p q : Int) : (flipW w p q).length = w.length := by
  unfold flipW
  split
  · rfl
  · rw [List.length_set]
structure SL (w : World) (A : Option Addr) (n c : Nat) (l : List Int) : Prop where
  C : Kd.C (Kd.int .u32) w A n l
  le : n ≤ c
  len : l.length = n
  u : u32s l
  sm : n ≤ 35184372088831
theorem SL.below {w w' : World} {A : Option Addr} {n c : Nat} {l : List Int} (h : SL w A n c l) (hb : Below w.heap.size w w') : SL w' A n c l := ⟨Kd.C_below h.C hb, h.le, h.len, h.u, h.sm⟩
theorem SL.take {w : World} {A : Option Addr} {n c : Nat} {l : List Int} (h : SL w A n c l) (m : Nat) (hm : m ≤ n) : SL w A m c (l.take m) :=
  ⟨Kd.C_of_reads (d := (0 : Int)) (h1 := fun _ => rfl) (ReadsInt.take_ (readsInt_of.2 (Kd.reads_of_C (d := (0 : Int)) h.C)) m hm), by have := h.le; omega, by rw [List.length_take, h.len]; omega, fun x hx => h.u x (List.mem_of_mem_take hx), by have := h.sm; omega⟩
theorem decA_len (w : List Int) : ∀ (n a : Nat) (l : List S42), decA w n a = some l → l.length ≤ n
  | 0, a, l, h => by cases h; simp
  | n + 1, a, l, h => by
    rw [decA] at h
    split at h
    · split at h
      · obtain ⟨t, ht, rfl⟩ := Option.map_eq_some_iff.1 h
        have := decA_len w n _ t ht
        simp; omega
      · cases h
    · cases h; simp
theorem decR_len (w : List Int) : (decR w).1.length ≤ w.length + 1 ∧ (decR w).2.1.length ≤ w.length + 1 := by
  unfold decR
  cases e : decA w (w.length + 1) 0 with
  | none => simp
  | some l =>
    have := decA_len w _ _ l e
    simp only [starts_len]
    omega
def AllPost (w : World) (r : List S42 × List Int × Int) (e : Ending) (w' : World) : Prop :=
  ∃ A0 c0 A1 c1, e = .returned (.tuple #[.slice A0 r.1.length c0, .slice A1 r.2.1.length c1, .int .i64 r.2.2]) ∧ Kd.C k42 w' A0 r.1.length r.1 ∧ r.1.length ≤ c0 ∧ Kd.C (Kd.int .i64) w' A1 r.2.1.length r.2.1 ∧ r.2.1.length ≤ c1 ∧ Below w.heap.size w w'
theorem allPost {w w' : World} {r : List S42 × List Int × Int} {e : Ending} {v0 v1 : Value} (he : e = .returned (.tuple #[v0, v1, .int .i64 r.2.2])) (h0 : Kd.R k42 42 w' w.heap.size (fun _ => True) v0 r.1) (h1 : Kd.R (Kd.int .i64) 3 w' w.heap.size (fun _ => True) v1 r.2.1) (hb : Below w.heap.size w w') : AllPost w r e w' := by
  obtain ⟨A0, c0, rfl, hc0, hC0⟩ := Kd.R_reads h0
  obtain ⟨A1, c1, rfl, hc1, hC1⟩ := Kd.R_reads h1
  exact ⟨A0, c0, A1, c1, he, hC0, hc0, hC1, hc1, hb⟩
theorem dall_any {A : Option Addr} {n c : Nat} {l : List Int} {w : World} (hm : n ≤ 60000) (h : SL w A n c l) (HT : Aside0 (TabOK w)) : Calls Tryd.prog 41 #[.slice A n c] w (AllPost w (decR l)) := by
  obtain ⟨hC, hc, rfl, hu, hl⟩ := h
  obtain ⟨k, hk⟩ := (dall_ev l hu (by omega)).rounds
  generalize decR l = d at *
  obtain ⟨r1, r2, r3⟩ := d
  exact (encoding_DecodeAll.calls k A c l r1 r2 r3 w hC hc hk HT).mono fun e w' ⟨v0, v1, he, h0, h1, hb⟩ => allPost (r := (r1, r2, r3)) he h0 h1 hb
theorem rdall_any {A : Option Addr} {n c : Nat} {l : List Int} {w : World} (hm : n ≤ 60000) (h : SL w A n c l) : Calls Tryd.prog 42 #[.slice A n c] w (AllPost w (decR l)) := by
  obtain ⟨hC, hc, rfl, hu, hl⟩ := h
  obtain ⟨k, hk⟩ := (rdall_ev l hu (by omega)).rounds
  generalize decR l = d at *
  obtain ⟨r1, r2, r3⟩ := d
  exact (fullingref29_DecodeAll.calls k A c l r1 r2 r3 w hC hc hk).mono fun e w' ⟨v0, v1, he, h0, h1, hb⟩ => allPost (r := (r1, r2, r3)) he h0 h1 hb
theorem dall_anyD {A : Option Addr} {n c : Nat} {l : List Int} {w : World} {r : List S42 × List Int × Int} (hm : n ≤ 60000) (hr : decR l = r) (h : SL w A n c l) (HT : Aside0 (TabOK w)) : Calls Tryd.prog 41 #[.slice A n c] w (AllPost w r) := hr ▸ dall_any hm h HT
theorem rdall_anyD {A : Option Addr} {n c : Nat} {l : List Int} {w : World} {r : List S42 × List Int × Int} (hm : n ≤ 60000) (hr : decR l = r) (h : SL w A n c l) : Calls Tryd.prog 42 #[.slice A n c] w (AllPost w r) := hr ▸ rdall_any hm h
theorem SL.run {w : World} {A : Option Addr} {n c : Nat} {l : List Int} (h : SL w A n c l) (j : Int) (m : Nat) (hj : j = m) (hm : m ≤ n) (W : World) : (Instr.slice 23 (.slice A n c) none (some (.int .i64 j)) none).run Tryd.prog W = .ok (.slice A m c) W := by
  obtain ⟨hC, hc, rfl, hu, hl⟩ := h
  obtain ⟨i53, hi53, e53⟩ := Option.map_eq_some_iff.1 info53
  have z53 : i53.size = 1 := congrArg (fun p => p.2.1) e53
  have := (print_take_int (k := .u32) (P := Tryd.prog) 23 53 Tryd.underlying23 hi53 z53 A c l j (by omega) (by omega) hc).1 W
  rw [this, show (l.take j.toNat).length = m by rw [List.length_take]; omega]
end Go.Proofs.YtcjidibdidijaaaDoor.DecL
