/- Parts of this proof in one text: CodP, ValS, CDal, DalP, VaL0, ValP, Keep, InsD. -/
import Derived.Test.YtcjidibdidijaaaDoorQV10
import Derived.Test.YtcjidibdidijaaaDoorQV8
import Derived.Test.YtcjidibdidijaaaDoorQV2
import Derived.Test.YtcjidibdidijaaaDoorQV9
import Derived.Test.YtcjidibdidijaaaDoorQV1
import Derived.Outline
import Derived.Lib.Hide
import Derived.Test.YtcjidibdidijaaaDoorQV4
namespace Go.Proofs.YtcjidibdidijaaaDoor
open Go.RowKit Go.Proofs.YtcjidibdidijaaaDoor.PCod Go.Proofs.YtcjidibdidijaaaDoorW.PrintWords Go.Proofs.YtcjidibdidijaaaDoorW.PrintMore
set_option linter.unusedVariables false
set_option linter.unusedSimpArgs false
theorem rd_app (p l : List Int) (j : Nat) : rd (p ++ l) ((p.length + j : Nat) : Int) = rd l (j : Int) := by
  unfold rd
  rw [Int.toNat_natCast, Int.toNat_natCast, List.getD_eq_getElem?_getD, List.getD_eq_getElem?_getD, List.getElem?_append_right (by omega), Nat.add_sub_cancel_left]
theorem drop_rd (w : List Int) (a : Nat) (h : a < w.length) : w.drop a = rd w a :: w.drop (a + 1) := by
  rw [rd_nat w a h]
  exact List.drop_eq_getElem_cons h
theorem ok_here (p q : List Int) (i : S42) (hv : vI i = true) : okD (p ++ (wI i ++ q)) (p.length : Int) ∧ decI (p ++ (wI i ++ q)) (p.length : Int) = i ∧ sizeI (rd (p ++ (wI i ++ q)) (p.length : Int) % 64) = (wI i).length := by
  have hV := vI_val hv
  have hw : wI i = _ := appW_eq hV
  have hl := wI_len hv
  have e0 : rd (p ++ (wI i ++ q)) (p.length : Int) = word1 i.f0 i.f1 i.f2 i.f3 i.f4 := by
    have := rd_app p (wI i ++ q) 0
    rw [Nat.add_zero] at this
    rw [this, hw]
    split <;> rfl
  have e1 : formOf i.f0 = 6 → rd (p ++ (wI i ++ q)) ((p.length : Int) + 1) = i.f4 % 4294967296 := by
    intro h6
    have := rd_app p (wI i ++ q) 1
    rw [show (((p.length + 1 : Nat)) : Int) = (p.length : Int) + 1 by omega] at this
    rw [this, hw, if_pos h6]
    rfl
  have e2 : formOf i.f0 = 6 → rd (p ++ (wI i ++ q)) ((p.length : Int) + 2) = i.f4 % 18446744073709551616 / 4294967296 := by
    intro h6
    have := rd_app p (wI i ++ q) 2
    rw [show (((p.length + 2 : Nat)) : Int) = (p.length : Int) + 2 by omega] at this
    rw [this, hw, if_pos h6]
    rfl
  have hm := word1_mod hV
  have hs : sizeI (rd (p ++ (wI i ++ q)) (p.length : Int) % 64) = (wI i).length := by
    rw [e0, hm, hl]
    unfold sizeI
    split <;> rfl
  have hi : decI (p ++ (wI i ++ q)) (p.length : Int) = i := by
    obtain ⟨k1, k2, k3, k4⟩ := fields_back hV (rd (p ++ (wI i ++ q)) ((p.length : Int) + 1)) (rd (p ++ (wI i ++ q)) ((p.length : Int) + 2)) e1 e2
    unfold decI
    rw [e0, hm, k1, k2, k3, k4]
  refine ⟨⟨by omega, ?_, by rw [hi]; exact hv, by rw [hi, e0]⟩, hi, hs⟩
  rw [hs]
  simp only [List.length_append]
  omega
theorem ok_words (w : List Int) (hw : u32s w) (a : Nat) (h : okD w a) : vI (decI w a) = true ∧ sizeI (rd w a % 64) = (wI (decI w a)).length ∧ a < w.length ∧ w.drop a = wI (decI w a) ++ w.drop (a + (wI (decI w a)).length) := by
  obtain ⟨h0, h1, hv, hx⟩ := h
  have hV := vI_val hv
  have hl := wI_len hv
  have hwi : wI (decI w a) = _ := appW_eq hV
  have hf : (decI w a).f0 = rd w a % 64 := rfl
  have hs : sizeI (rd w a % 64) = (wI (decI w a)).length := by
    rw [hl, hf]
    unfold sizeI
    split <;> rfl
  have h3 := wI_len3 hv
  refine ⟨hv, hs, by omega, ?_⟩
  by_cases h6 : formOf (rd w a % 64) = 6
  · have hl3 : (wI (decI w a)).length = 3 := by rw [hl, hf, if_pos h6]
    rw [hl3] at hs ⊢
    rw [hwi, hf, if_pos h6, ← hf, hx]
    have hn : (decI w a).f4 = wrap64 (rd w ((a : Int) + 1) + rd w ((a : Int) + 2) * 4294967296) := cN_6 h6
    obtain ⟨n1, n2⟩ := wide_lo _ _ (rd_u32 hw ((a : Int) + 1)) (rd_u32 hw ((a : Int) + 2))
    rw [hn, n1, n2, drop_rd w a (by omega), drop_rd w (a + 1) (by omega), drop_rd w (a + 1 + 1) (by omega)]
    rfl
  · have hl1 : (wI (decI w a)).length = 1 := by rw [hl, hf, if_neg h6]
    rw [hl1, hwi, hf, if_neg h6, ← hf, hx, drop_rd w a (by omega)]
    rfl
def decA (w : List Int) : Nat → Nat → Option (List S42)
  | 0, _ => some []
  | n + 1, a => if a < w.length then (if okD w a then (decA w n (a + (wI (decI w a)).length)).map (decI w a :: ·) else none) else some []
def starts : Nat → List S42 → List Int
  | _, [] => []
  | a, i :: t => (a : Int) :: starts (a + (wI i).length) t
theorem decA_iff (w : List Int) (hw : u32s w) : ∀ (n a : Nat) (l : List S42), a ≤ w.length → w.length - a < n → (decA w n a = some l ↔ l.all vI = true ∧ w.drop a = l.flatMap wI)
  | 0, a, l, ha, hn => by omega
  | n + 1, a, l, ha, hn => by
    rw [decA]
    by_cases hlt : a < w.length
    · rw [if_pos hlt]
      by_cases hk : okD w a
      · obtain ⟨hv, hs, _, hd⟩ := ok_words w hw a hk
        have h3 := wI_len3 hv
        have hle := hk.2.1
        have ih := fun t => decA_iff w hw n (a + (wI (decI w a)).length) t (by omega) (by omega)
        rw [if_pos hk]
        constructor
        · intro h
          obtain ⟨t, ht, rfl⟩ := Option.map_eq_some_iff.1 h
          obtain ⟨i1, i2⟩ := (ih t).1 ht
          exact ⟨by rw [List.all_cons, hv, i1]; rfl, by rw [List.flatMap_cons, ← i2]; exact hd⟩
        · rintro ⟨h1, h2⟩
          cases l with
          | nil =>
            have := congrArg List.length h2
            simp at this
            omega
          | cons i t =>
            rw [List.all_cons, Bool.and_eq_true] at h1
            have hw' : w = w.take a ++ (wI i ++ t.flatMap wI) := by rw [← List.flatMap_cons, ← h2, List.take_append_drop]
            have hla : (w.take a).length = a := by rw [List.length_take]; omega
            obtain ⟨o1, o2, o3⟩ := ok_here (w.take a) (t.flatMap wI) i h1.1
            rw [← hw', hla] at o1 o2 o3
            rw [o2]
            have hdt : w.drop (a + (wI i).length) = t.flatMap wI := by
              rw [← List.drop_drop, h2, List.flatMap_cons, List.drop_left]
            have hvi := hle
            rw [o3] at hvi
            rw [(decA_iff w hw n (a + (wI i).length) t (by omega) (by have := wI_len3 h1.1; omega)).2 ⟨h1.2, hdt⟩]
            rfl
      · rw [if_neg hk]
        constructor
        · intro h; cases h
        · rintro ⟨h1, h2⟩
          cases l with
          | nil =>
            have := congrArg List.length h2
            simp at this
            omega
          | cons i t =>
            rw [List.all_cons, Bool.and_eq_true] at h1
            have hw' : w = w.take a ++ (wI i ++ t.flatMap wI) := by rw [← List.flatMap_cons, ← h2, List.take_append_drop]
            have hla : (w.take a).length = a := by rw [List.length_take]; omega
            obtain ⟨o1, o2, o3⟩ := ok_here (w.take a) (t.flatMap wI) i h1.1
            rw [← hw', hla] at o1
            exact absurd o1 hk
    · rw [if_neg hlt]
      have hd : w.drop a = [] := List.drop_eq_nil_of_le (by omega)
      rw [hd]
      constructor
      · intro h
        injection h with h
        subst h
        exact ⟨rfl, rfl⟩
      · rintro ⟨h1, h2⟩
        cases l with
        | nil => rfl
        | cons i t =>
          rw [List.all_cons, Bool.and_eq_true] at h1
          have := wI_len3 h1.1
          have := congrArg List.length h2
          simp only [List.flatMap_cons, List.length_append, List.length_nil] at this
          omega
def decR (w : List Int) : List S42 × List Int × Int := match decA w (w.length + 1) 0 with | none => ([], [], 204) | some l => (l, starts 0 l, 0)
theorem decR_flat (l : List S42) (h : l.all vI = true) : decR (l.flatMap wI) = (l, starts 0 l, 0) := by
  unfold decR
  rw [(decA_iff (l.flatMap wI) (flat_u32 l h) _ 0 l (by omega) (by omega)).2 ⟨h, rfl⟩]
theorem decR_ok (w : List Int) (hw : u32s w) (h : (decR w).2.2 = 0) : (decR w).1.all vI = true ∧ w = (decR w).1.flatMap wI ∧ (decR w).2.1 = starts 0 (decR w).1 := by
  unfold decR at h ⊢
  cases e : decA w (w.length + 1) 0 with
  | none => rw [e] at h; cases h
  | some l =>
    have := (decA_iff w hw _ 0 l (by omega) (by omega)).1 e
    exact ⟨this.1, this.2, rfl⟩
theorem starts_len : ∀ (a : Nat) (l : List S42), (starts a l).length = l.length
  | _, [] => rfl
  | a, i :: t => by rw [starts, List.length_cons, List.length_cons, starts_len]
theorem starts_get : ∀ (a : Nat) (l : List S42) (k : Nat) (h : k < l.length), rd (starts a l) (k : Int) = ((a + ((l.take k).flatMap wI).length : Nat) : Int)
  | a, i :: t, 0, h => by simp [starts, rd]
  | a, i :: t, k + 1, h => by
    have := starts_get (a + (wI i).length) t k (by simp at h; omega)
    rw [starts, List.take_succ_cons, List.flatMap_cons, List.length_append, ← Nat.add_assoc, ← this]
    unfold rd
    rw [Int.toNat_natCast, Int.toNat_natCast]
    rfl
end Go.Proofs.YtcjidibdidijaaaDoor
namespace Go.Proofs.YtcjidibdidijaaaDoor
open Go.RowKit Go.Proofs.YtcjidibdidijaaaDoor.PCod Go.Proofs.YtcjidibdidijaaaDoorW.PrintWords Go.Proofs.YtcjidibdidijaaaDoorW.PrintMore
set_option linter.unusedVariables false
def isStart (W : List Int) (n : Int) : Bool := decide (n ∈ (decR W).2.1)
def okIns (W P : List Int) (a : Nat) (at_ : Int) (i : S42) : Bool :=
  (!(i.f0 == 5 || i.f0 == 7 || i.f0 == 8) || isStart W (wrap64 (at_ + i.f4))) &&
  (!(i.f0 == 6) || (decide (i.f4 < P.length) && rd P i.f4 == i.f1)) &&
  (!(i.f0 == 34 || i.f0 == 35) || decide (i.f4 < a))
def okFun (W : List Int) (e p s : Int) : Bool := isStart W e && decide (0 ≤ p) && decide (p ≤ 6) && decide (0 ≤ s) && decide (s ≤ 3000)
def okLens (W E P S A : List Int) : Bool :=
  decide (1 ≤ W.length) && decide (W.length ≤ 60000) && decide (1 ≤ E.length) && decide (E.length ≤ 8) && decide (P.length = E.length) && decide (S.length = E.length) && decide (A.length ≤ 4)
def validS (W E P S A : List Int) : Bool :=
  okLens W E P S A && decide ((decR W).2.2 = 0) && !((decR W).1.getLast?.any cfOn) &&
  (List.range E.length).all (fun k => okFun W (rd E k) (rd P k) (rd S k)) && A.all (fun n => decide (1 ≤ n) && decide (n ≤ 16)) &&
  (List.range (decR W).1.length).all (fun k => ((decR W).1[k]?).any (fun i => okIns W P A.length (rd (decR W).2.1 k) i))
end Go.Proofs.YtcjidibdidijaaaDoor
namespace Go.Proofs.YtcjidibdidijaaaDoor.PCod
open Go.RowKit Go.Proofs.YtcjidibdidijaaaDoorW.PrintWords Go.Proofs.YtcjidibdidijaaaDoorW.PrintLast Go.Proofs.YtcjidibdidijaaaDoorW.PrintMore
attribute [local go_sem] max2_int min2_int max_two min_two max_three min_three max_four min_four
set_option linter.unusedVariables false
set_option linter.unusedSimpArgs false
def encoding_DecodeAll.l0 : Nat → List Int → List (S42) → List Int → Int → Option ((List (S42)) × List Int × Int)
  | 0, _, _, _, _ => none
  | k + 1, x0, x5, x6, x7 => if x7 < (x0.length : Int) then ((encoding_Decode.f k x0 x7).bind fun bt145 => (if bt145.2.2.2.2.2.2 = 0 then (if x5.length < 3518437208883 then (if x6.length < 17592186044416 then (encoding_DecodeAll.l0 k x0 (x5 ++ [(⟨bt145.1, bt145.2.1, bt145.2.2.1, bt145.2.2.2.1, bt145.2.2.2.2.1⟩ : S42)]) (x6 ++ [x7]) (wrap64 (x7 + bt145.2.2.2.2.2.1))) else (none)) else (none)) else (some (([] : List (S42)), ([] : List Int), bt145.2.2.2.2.2.2)))) else (some (x5, x6, 0))
def encoding_DecodeAll.f (k : Nat) (l0 : List Int) : Option ((List (S42)) × List Int × Int) := encoding_DecodeAll.l0 k l0 ([] : List (S42)) ([] : List Int) 0
theorem encoding_DecodeAll.mono_l : ∀ k, (∀ y0 y1 y2 y3, LeO (encoding_DecodeAll.l0 k y0 y1 y2 y3) (encoding_DecodeAll.l0 (k + 1) y0 y1 y2 y3))
  | 0 => fun _ _ _ _ r h => by simp [encoding_DecodeAll.l0] at h
  | k + 1 => by
    have ih0 := encoding_DecodeAll.mono_l k
    · intro y0 y1 y2 y3
      unfold encoding_DecodeAll.l0
      repeat' first
      | (with_reducible exact ih0 _ _ _ _)
      | (with_reducible exact encoding_Decode.mono _ _ _)
      | (with_reducible exact LeO.refl _)
      | (with_reducible exact LeO.none _)
      | (with_reducible refine LeO.ite ?_ ?_)
      | (with_reducible refine LeO.bind ?_ (fun _ => ?_))
      | exact ih0 _ _ _ _
      | exact encoding_Decode.mono _ _ _
      | exact LeO.none _
      | refine LeO.ite ?_ ?_
      | refine LeO.bind ?_ (fun _ => ?_)
theorem encoding_DecodeAll.mono : ∀ a0 k, LeO (encoding_DecodeAll.f k a0) (encoding_DecodeAll.f (k + 1) a0) := by
  intro a0 k
  have ih0 := encoding_DecodeAll.mono_l k
  unfold encoding_DecodeAll.f
  repeat' first
      | (with_reducible exact ih0 _ _ _ _)
      | (with_reducible exact encoding_Decode.mono _ _ _)
      | (with_reducible exact LeO.refl _)
      | (with_reducible exact LeO.none _)
      | (with_reducible refine LeO.ite ?_ ?_)
      | (with_reducible refine LeO.bind ?_ (fun _ => ?_))
      | exact ih0 _ _ _ _
      | exact encoding_Decode.mono _ _ _
      | exact LeO.none _
      | refine LeO.ite ?_ ?_
      | refine LeO.bind ?_ (fun _ => ?_)
set_option maxHeartbeats 8000000 in
set_option maxRecDepth 100000 in
theorem encoding_DecodeAll.calls (k : Nat) (A0 : Option Addr) (c0 : Nat) (l0 : List Int) (r1 : List (S42)) (r2 : List Int) (r3 : Int) (w : World) (hr0 : Kd.C (Kd.int .u32) w A0 l0.length l0) (hc0 : l0.length ≤ c0) (h : encoding_DecodeAll.f k l0 = some (r1, r2, r3)) (HT : Aside0 (TabOK w)) :
    Calls Tryd.prog 41 #[.slice A0 l0.length c0] w fun e w' => ∃ v0_ v1_ : Value, e = .returned (.tuple #[v0_, v1_, .int .i64 r3]) ∧ Kd.R k42 42 w' w.heap.size (fun _ => True) v0_ r1 ∧ Kd.R (Kd.int .i64) 3 w' w.heap.size (fun _ => True) v1_ r2 ∧ Below w.heap.size w w' := by
  have hu42 := Tryd.underlying42
  have HR0 := Aside0.mk hr0
  have HC0 := Aside0.mk hc0
  clear hr0 hc0
  have HB := Aside0.mk (Below.refl w.heap.size w)
  have H : (encoding_DecodeAll.l0 k l0 ([] : List (S42)) ([] : List Int) 0) = some (r1, r2, r3) := h
  clear h
  have H' := Aside0.mk H
  clear H
  go_enter Tryd.func41, Tryd.ntmps41
  go_wp2
  go_loopg [5, 6, 7] k (fun kq v5 v6 v7 w' => ∃ (x5_1 : List (S42)) (x6_1 : List Int) (x7_1 : Int), v7 = .int .i64 x7_1 ∧ Aside0 (encoding_DecodeAll.l0 kq l0 x5_1 x6_1 x7_1 = some (r1, r2, r3)) ∧ Aside0 (kq ≤ k) ∧ Aside0 (Kd.R k42 42 w' w.heap.size (fun _ => True) v5 x5_1) ∧ Aside0 (Kd.R (Kd.int .i64) 3 w' w.heap.size (fun _ => True) v6 x6_1) ∧ Aside0 (Below w.heap.size w w'))
  case atStart => exact ⟨(([] : List (S42))), (([] : List Int)), (0), (by first | rfl | (simp; done) | (simp [*]; done)), H', ⟨Nat.le_refl _⟩, ⟨by first | exact Kd.R_nil _ _ _ _ _ | exact Kd.N_nil _ _ _ _ _ | exact Kd.V_nil _ _ _ _ _ | exact Kd.Q_nil _ _ _ _ _ | exact Kd.S_nil _ _ _ _ _⟩, ⟨by first | exact Kd.R_nil _ _ _ _ _ | exact Kd.N_nil _ _ _ _ _ | exact Kd.V_nil _ _ _ _ _ | exact Kd.Q_nil _ _ _ _ _ | exact Kd.S_nil _ _ _ _ _⟩, ⟨by repeat (first | (with_reducible first | exact HB.out | apply below_alloc | apply pw_below_drewN | apply below_drew1) | exact HB.out)⟩⟩
  case round =>
    clear H'
    obtain ⟨x5_1, x6_1, x7_1, rfl, HA, HK1, HO_5, HO_6, HB⟩ := hrel
    cases gk with
    | zero => exact absurd HA.out (by simp [encoding_DecodeAll.l0])
    | succ k1 =>
      have H := HA.out
      clear HA
      simp only [encoding_DecodeAll.l0] at H
      by_cases c2 : x7_1 < (l0.length : Int)
      · rw [if_pos c2] at H
        have c2b0 : decide (x7_1 < (l0.length : Int)) = true := decide_eq_true c2
        clear c2
        replace H := Option.bind_eq_some_iff.mp H
        obtain ⟨⟨t145, t146, t147, t148, t149, t150, t151⟩, A30, H⟩ := H
        replace H : (if t151 = 0 then (if x5_1.length < 3518437208883 then (if x6_1.length < 17592186044416 then (encoding_DecodeAll.l0 k1 l0 (x5_1 ++ [(⟨t145, t146, t147, t148, t149⟩ : S42)]) (x6_1 ++ [x7_1]) (wrap64 (x7_1 + t150))) else (none)) else (none)) else (some (([] : List (S42)), ([] : List Int), t151))) = some (r1, r2, r3) := H
        have A3 := Aside0.mk A30
        clear A30
        by_cases c4 : t151 = 0
        · rw [if_pos c4] at H
          have c4b0 : (t151 == 0) = true := beq_iff_eq.mpr c4
          have c4b1 : (t151 != 0) = false := bne_eq_false_iff_eq.mpr c4
          clear c4
          by_cases c5 : x5_1.length < 3518437208883
          · rw [if_pos c5] at H
            have LMc5 := Aside0.mk c5
            clear c5
            obtain ⟨y153, hy153⟩ : ∃ y_ : List (S42), y_ = (x5_1 ++ [(⟨t145, t146, t147, t148, t149⟩ : S42)]) := ⟨_, rfl⟩
            replace H : (if x6_1.length < 17592186044416 then (encoding_DecodeAll.l0 k1 l0 y153 (x6_1 ++ [x7_1]) (wrap64 (x7_1 + t150))) else (none)) = some (r1, r2, r3) := by first | (rw [hy153]; with_reducible exact H) | (have H2_ := (Option.bind_some _ _).symm.trans H; rw [hy153]; with_reducible exact H2_) | (have H2_ := (Option.bind_some _ _).symm.trans H; with_reducible exact H2_) | with_reducible exact H | (rw [hy153]; exact H) | exact H
            have Ny153 := Aside0.mk hy153
            clear hy153
            by_cases c6 : x6_1.length < 17592186044416
            · rw [if_pos c6] at H
              have LMc6 := Aside0.mk c6
              clear c6
              obtain ⟨y156, hy156⟩ : ∃ y_ : List Int, y_ = (x6_1 ++ [x7_1]) := ⟨_, rfl⟩
              replace H : (encoding_DecodeAll.l0 k1 l0 y153 y156 (wrap64 (x7_1 + t150))) = some (r1, r2, r3) := by first | (rw [hy156]; with_reducible exact H) | (have H2_ := (Option.bind_some _ _).symm.trans H; rw [hy156]; with_reducible exact H2_) | (have H2_ := (Option.bind_some _ _).symm.trans H; with_reducible exact H2_) | with_reducible exact H | (rw [hy156]; exact H) | exact H
              have Ny156 := Aside0.mk hy156
              clear hy156
              have H' := Aside0.mk H
              clear H
              go_wp2_with (first | ((with_reducible refine gate_callee (f := 34) rfl ?_); refine goesL_ (some 18) rfl rfl Tryd.func34 (by kernel_rfl) rfl #[.slice A0 l0.length c0, .int .i64 x7_1] rfl (by (try simp only [List.map_toArray, List.map_cons, List.map_nil]); first | done | rfl | (simp only [List.length_drop, List.length_take]; rfl)) ?_; (with_reducible refine (encoding_Decode.calls k1 _ _ l0 x7_1 t145 t146 t147 t148 t149 t150 t151 _ ?side1 ?side2 A3.out ?side3).mono ?_); (case side1 => repeat (first | exact (Kd.C_below HR0.out HB.out) | (with_reducible refine Kd.C_alloc ?_ _) | (with_reducible refine Kd.C_drewN ?_ _) | (with_reducible refine Kd.C_drew ?_))); (case side2 => exact HC0.out); (case side3 => exact TabOK.aside HT.out (by repeat (first | (with_reducible first | exact HB.out | apply below_alloc | apply pw_below_drewN | apply below_drew1) | exact HB.out))); rintro e w7 ⟨rfl, hb⟩; refine ⟨_, rfl, ?_⟩; have n0_ := Aside0.mk (Kd.R_below (by (with_reducible repeat (first | apply Kd.R_alloc | apply Kd.R_drewN | apply Kd.R_drew)); exact HO_5.out) hb); have n1_ := Aside0.mk (Kd.R_below (by (with_reducible repeat (first | apply Kd.R_alloc | apply Kd.R_drewN | apply Kd.R_drew)); exact HO_6.out) hb); have n2_ := Aside0.mk (below_step (by repeat (first | (with_reducible first | exact HB.out | apply below_alloc | apply pw_below_drewN | apply below_drew1) | exact HB.out)) hb); clear HO_5; clear HO_6; clear HB; have HO_5 := n0_; have HO_6 := n1_; have HB := n2_; clear n0_ n1_ n2_; (try clear hb); (try clear hb2); (try clear hk); (try clear hi)) | ((with_reducible refine gate_dst (N := 8) rfl ?_); refine box_event ?hg (N := 8) ?hd (cs := #[.int .i64 0, .int .i64 0, .int .i64 0, .int .i64 0, .int .i64 0]) (t := 42) ?hr ?_; (case hd => rfl); (case hg => rfl); (case hr => first | (go_simp; done) | (go_simp; rfl)); intro gb152 hg w8 hbox hb; have n0_ := Aside0.mk (Kd.R_below (Kd.R_elderB (by (with_reducible repeat (first | apply Kd.R_alloc | apply Kd.R_drewN | apply Kd.R_drew)); exact HO_5.out) gb152 (Nat.le_of_eq hg.symm)) hb); have n1_ := Aside0.mk (Kd.R_below (by (with_reducible repeat (first | apply Kd.R_alloc | apply Kd.R_drewN | apply Kd.R_drew)); exact HO_6.out) hb); have n2_ := Aside0.mk (below_step (by repeat (first | (with_reducible first | exact HB.out | apply below_alloc | apply pw_below_drewN | apply below_drew1) | exact HB.out)) hb); have n3_ := Aside0.mk (hbox); have n4_ := Aside0.mk ((by rw [hg]; exact (below_size (by repeat (first | (with_reducible first | exact HB.out | apply below_alloc | apply pw_below_drewN | apply below_drew1) | exact HB.out))) : w.heap.size ≤ gb152)); have n5_ := Aside0.mk ((by rw [hg]; exact (below_size (by repeat (first | (with_reducible first | exact HB.out | apply below_alloc | apply pw_below_drewN | apply below_drew1) | exact HB.out))) : w.heap.size ≤ gb152)); clear HO_5; clear HO_6; clear HB; have HO_5 := n0_; have HO_6 := n1_; have HB := n2_; have BK152 := n3_; have GW152 := n4_; have GE152 := n5_; clear n0_ n1_ n2_ n3_ n4_ n5_; clear hb hbox hg; have hcz9_0 : w8.cell? ⟨gb152, 0, none⟩ = some (.int .i64 0) := (blk_cell BK152.out 0).trans rfl; have hcz9_1 : w8.cell? ⟨gb152, 1, none⟩ = some (.int .i64 0) := (blk_cell BK152.out 1).trans rfl; have hcz9_2 : w8.cell? ⟨gb152, 2, none⟩ = some (.int .i64 0) := (blk_cell BK152.out 2).trans rfl; have hcz9_3 : w8.cell? ⟨gb152, 3, none⟩ = some (.int .i64 0) := (blk_cell BK152.out 3).trans rfl; have hcz9_4 : w8.cell? ⟨gb152, 4, none⟩ = some (.int .i64 0) := (blk_cell BK152.out 4).trans rfl; have hfz9_0 := blk_frozen BK152.out 0; have hfz9_1 := blk_frozen BK152.out 1; have hfz9_2 := blk_frozen BK152.out 2; have hfz9_3 := blk_frozen BK152.out 3; have hfz9_4 := blk_frozen BK152.out 4) | ((with_reducible refine gate_builtin (b := .append) (xs := #[.tmp 25, .tmp 27]) rfl ?_); at_builtin; refine Kd.R_append k42 (w0 := w) w.heap.size rfl (.tmp 25) (.tmp 27) 55 42 (.agg #[(.int .i64 0), (.int .i64 0), (.int .i64 0), (.int .i64 0), (.int .i64 0)]) 40 rfl Tryd.underlying55 info42 rfl (by decide) (by omega) u5 x5_1 (⟨t145, t146, t147, t148, t149⟩ : S42) [.int .i64 t145, .int .i64 t146, .int .i64 t147, .int .i64 t148, .int .i64 t149] (fun k_ => k_ ≠ gb152) (fun _ => False) rfl (by first | (go_simp; done) | (go_simp; rfl)) ?aP (fun _ hk => hk.elim) ?aF ?aO ?aB ?aS ?aL ?_; (case aP => exact k42_mkM _ _ _ (⟨t145, t146, t147, t148, t149⟩ : S42)); (case aB => exact (by repeat (first | (with_reducible first | exact HB.out | apply below_alloc | apply pw_below_drewN | apply below_drew1 | refine below_set ?_ GE152.out) | exact HB.out))); (case aF => exact (fun k_ hk => Kd.freshB (g := gb152) (o := .cells #[.int .i64 t145, .int .i64 t146, .int .i64 t147, .int .i64 t148, .int .i64 t149] 42 (0, 0)) (by (with_reducible repeat (first | refine blk_drewN ?_ _ | refine blk_drew ?_ | refine blk_alloc ?_ _)); refine blk_put (cs := #[.int .i64 t145, .int .i64 t146, .int .i64 t147, .int .i64 t148, .int .i64 0]) ?_ 4 _ rfl; (with_reducible repeat (first | refine blk_drewN ?_ _ | refine blk_drew ?_ | refine blk_alloc ?_ _)); refine blk_put (cs := #[.int .i64 t145, .int .i64 t146, .int .i64 t147, .int .i64 0, .int .i64 0]) ?_ 3 _ rfl; (with_reducible repeat (first | refine blk_drewN ?_ _ | refine blk_drew ?_ | refine blk_alloc ?_ _)); refine blk_put (cs := #[.int .i64 t145, .int .i64 t146, .int .i64 0, .int .i64 0, .int .i64 0]) ?_ 2 _ rfl; (with_reducible repeat (first | refine blk_drewN ?_ _ | refine blk_drew ?_ | refine blk_alloc ?_ _)); refine blk_put (cs := #[.int .i64 t145, .int .i64 0, .int .i64 0, .int .i64 0, .int .i64 0]) ?_ 1 _ rfl; (with_reducible repeat (first | refine blk_drewN ?_ _ | refine blk_drew ?_ | refine blk_alloc ?_ _)); refine blk_put (cs := #[.int .i64 0, .int .i64 0, .int .i64 0, .int .i64 0, .int .i64 0]) ?_ 0 _ rfl; (with_reducible repeat (first | refine blk_drewN ?_ _ | refine blk_drew ?_ | refine blk_alloc ?_ _)); exact BK152.out) k_ hk)); (case aO => exact (by (with_reducible repeat (first | apply Kd.R_alloc | apply Kd.R_drewN | apply Kd.R_drew)); exact Kd.R_mono (Kd.R_far (p := ⟨gb152, 4, none⟩) (Kd.R_far (p := ⟨gb152, 3, none⟩) (Kd.R_far (p := ⟨gb152, 2, none⟩) (Kd.R_far (p := ⟨gb152, 1, none⟩) (Kd.R_far (p := ⟨gb152, 0, none⟩) (Kd.R_mono HO_5.out (fun k_ hk => (⟨hk, hk.2⟩ : _ ∧ k_ ≠ gb152))) (fun _ hk => hk.2) (.int .i64 t145)) (fun _ hk => hk.2) (.int .i64 t146)) (fun _ hk => hk.2) (.int .i64 t147)) (fun _ hk => hk.2) (.int .i64 t148)) (fun _ hk => hk.2) (.int .i64 t149)) (fun _ hk => hk.1.2))); (case aS => exact (below_size (by repeat (first | (with_reducible first | exact HB.out | apply below_alloc | apply pw_below_drewN | apply below_drew1 | refine below_set ?_ GE152.out) | exact HB.out)))); (case aL => have := LMc5.out; omega); intro v154 w10 ho hb hg hat; rw [← Ny153.out] at ho; have n0_ := Aside0.mk (Kd.R_over' (by (with_reducible repeat (first | apply Kd.R_alloc | apply Kd.R_drewN | apply Kd.R_drew)); exact (Kd.R_mono (Kd.R_far (p := ⟨gb152, 4, none⟩) (Kd.R_far (p := ⟨gb152, 3, none⟩) (Kd.R_far (p := ⟨gb152, 2, none⟩) (Kd.R_far (p := ⟨gb152, 1, none⟩) (Kd.R_far (p := ⟨gb152, 0, none⟩) (Kd.R_types HO_6.out BK152.out (by decide)) (fun _ hk => hk.2) (.int .i64 t145)) (fun _ hk => hk.2) (.int .i64 t146)) (fun _ hk => hk.2) (.int .i64 t147)) (fun _ hk => hk.2) (.int .i64 t148)) (fun _ hk => hk.2) (.int .i64 t149)) (fun _ h_ => h_.1))) (Kd.R_typed (by (with_reducible repeat (first | apply Kd.R_alloc | apply Kd.R_drewN | apply Kd.R_drew)); exact (Kd.R_mono (Kd.R_far (p := ⟨gb152, 4, none⟩) (Kd.R_far (p := ⟨gb152, 3, none⟩) (Kd.R_far (p := ⟨gb152, 2, none⟩) (Kd.R_far (p := ⟨gb152, 1, none⟩) (Kd.R_far (p := ⟨gb152, 0, none⟩) (Kd.R_mono HO_5.out (fun k_ hk => (⟨hk, hk.2⟩ : _ ∧ k_ ≠ gb152))) (fun _ hk => hk.2) (.int .i64 t145)) (fun _ hk => hk.2) (.int .i64 t146)) (fun _ hk => hk.2) (.int .i64 t147)) (fun _ hk => hk.2) (.int .i64 t148)) (fun _ hk => hk.2) (.int .i64 t149)) (fun _ h_ => h_.1)))) (by decide) hg); have n1_ := Aside0.mk (blk_grown (g := gb152) (o := .cells #[.int .i64 t145, .int .i64 t146, .int .i64 t147, .int .i64 t148, .int .i64 t149] 42 (0, 0)) (by (with_reducible repeat (first | refine blk_drewN ?_ _ | refine blk_drew ?_ | refine blk_alloc ?_ _)); refine blk_put (cs := #[.int .i64 t145, .int .i64 t146, .int .i64 t147, .int .i64 t148, .int .i64 0]) ?_ 4 _ rfl; (with_reducible repeat (first | refine blk_drewN ?_ _ | refine blk_drew ?_ | refine blk_alloc ?_ _)); refine blk_put (cs := #[.int .i64 t145, .int .i64 t146, .int .i64 t147, .int .i64 0, .int .i64 0]) ?_ 3 _ rfl; (with_reducible repeat (first | refine blk_drewN ?_ _ | refine blk_drew ?_ | refine blk_alloc ?_ _)); refine blk_put (cs := #[.int .i64 t145, .int .i64 t146, .int .i64 0, .int .i64 0, .int .i64 0]) ?_ 2 _ rfl; (with_reducible repeat (first | refine blk_drewN ?_ _ | refine blk_drew ?_ | refine blk_alloc ?_ _)); refine blk_put (cs := #[.int .i64 t145, .int .i64 0, .int .i64 0, .int .i64 0, .int .i64 0]) ?_ 1 _ rfl; (with_reducible repeat (first | refine blk_drewN ?_ _ | refine blk_drew ?_ | refine blk_alloc ?_ _)); refine blk_put (cs := #[.int .i64 0, .int .i64 0, .int .i64 0, .int .i64 0, .int .i64 0]) ?_ 0 _ rfl; (with_reducible repeat (first | refine blk_drewN ?_ _ | refine blk_drew ?_ | refine blk_alloc ?_ _)); exact BK152.out) hg (Kd.R_away HO_5.out (fun _ hk => hk.2))); have n2_ := Aside0.mk (hb); have n3_ := Aside0.mk (ho); clear HO_6; clear BK152; clear HB; clear HO_5; have HO_6 := n0_; have BK152 := n1_; have HB := n2_; have HO155 := n3_; clear n0_ n1_ n2_ n3_; clear ho hb hg hat) | ((with_reducible refine gate_builtin (b := .append) (xs := #[.tmp 29, .tmp 31]) rfl ?_); at_builtin; refine Kd.R_append (Kd.int .i64) (w0 := w) w.heap.size rfl (.tmp 29) (.tmp 31) 22 3 (.int .i64 0) 8 rfl Tryd.underlying22 info3 rfl (by decide) (by omega) u6 x6_1 x7_1 [.int .i64 x7_1] (fun _ => True) (fun _ => False) rfl rfl ?aP (fun _ hk => hk.elim) ?aF ?aO ?aB ?aS ?aL ?_; (case aP => exact rfl); (case aB => exact (by repeat (first | (with_reducible first | exact HB.out | apply below_alloc | apply pw_below_drewN | apply below_drew1 | refine below_set ?_ GE152.out) | exact HB.out))); (case aF => exact (fun _ _ => trivial)); (case aO => exact (by (with_reducible repeat (first | apply Kd.R_alloc | apply Kd.R_drewN | apply Kd.R_drew)); exact HO_6.out)); (case aS => exact (below_size (by repeat (first | (with_reducible first | exact HB.out | apply below_alloc | apply pw_below_drewN | apply below_drew1 | refine below_set ?_ GE152.out) | exact HB.out)))); (case aL => have := LMc6.out; omega); intro v157 w11 ho hb hg hat; rw [← Ny156.out] at ho; have n0_ := Aside0.mk (blk_grown (g := gb152) (o := .cells #[.int .i64 t145, .int .i64 t146, .int .i64 t147, .int .i64 t148, .int .i64 t149] 42 (0, 0)) (by (with_reducible repeat (first | refine blk_drewN ?_ _ | refine blk_drew ?_ | refine blk_alloc ?_ _)); exact BK152.out) hg (Kd.R_ne HO_6.out BK152.out (by decide))); have n1_ := Aside0.mk (Kd.R_over' (by (with_reducible repeat (first | apply Kd.R_alloc | apply Kd.R_drewN | apply Kd.R_drew)); exact HO155.out) (Kd.R_typed (by (with_reducible repeat (first | apply Kd.R_alloc | apply Kd.R_drewN | apply Kd.R_drew)); exact HO_6.out)) (by decide) hg); have n2_ := Aside0.mk (hb); have n3_ := Aside0.mk (ho); clear BK152; clear HO155; clear HB; clear HO_6; have BK152 := n0_; have HO155 := n1_; have HB := n2_; have HO158 := n3_; clear n0_ n1_ n2_ n3_; clear ho hb hg hat))
              go_roundg k1
              case measure => have := HK1.out; omega
              case rel => exact ⟨(y153), (y156), (wrap64 (x7_1 + t150)), (by first | rfl | (simp; done) | (simp [*]; done)), H', ⟨by have := HK1.out; omega⟩, ⟨by (with_reducible repeat (first | apply Kd.R_alloc | apply Kd.R_drewN | apply Kd.R_drew)); exact Kd.R_mono HO155.out (fun _ hk => trivial)⟩, ⟨by (with_reducible repeat (first | apply Kd.R_alloc | apply Kd.R_drewN | apply Kd.R_drew)); exact HO158.out⟩, ⟨by repeat (first | (with_reducible first | exact HB.out | apply below_alloc | apply pw_below_drewN | apply below_drew1 | refine below_set ?_ GE152.out) | exact HB.out)⟩⟩
            · rw [if_neg c6] at H
              exact absurd H (by simp)
          · rw [if_neg c5] at H
            exact absurd H (by simp)
        · rw [if_neg c4] at H
          have c4b0 : (t151 == 0) = false := beq_eq_false_iff_ne.mpr c4
          have c4b1 : (t151 != 0) = true := bne_iff_ne.mpr c4
          simp only [Option.some.injEq, Prod.mk.injEq] at H
          obtain ⟨rfl, rfl, rfl⟩ := H
          go_wp2_with (first | ((with_reducible refine gate_callee (f := 34) rfl ?_); refine goesL_ (some 18) rfl rfl Tryd.func34 (by kernel_rfl) rfl #[.slice A0 l0.length c0, .int .i64 x7_1] rfl (by (try simp only [List.map_toArray, List.map_cons, List.map_nil]); first | done | rfl | (simp only [List.length_drop, List.length_take]; rfl)) ?_; (with_reducible refine (encoding_Decode.calls k1 _ _ l0 x7_1 t145 t146 t147 t148 t149 t150 t151 _ ?side1 ?side2 A3.out ?side3).mono ?_); (case side1 => repeat (first | exact (Kd.C_below HR0.out HB.out) | (with_reducible refine Kd.C_alloc ?_ _) | (with_reducible refine Kd.C_drewN ?_ _) | (with_reducible refine Kd.C_drew ?_))); (case side2 => exact HC0.out); (case side3 => exact TabOK.aside HT.out (by repeat (first | (with_reducible first | exact HB.out | apply below_alloc | apply pw_below_drewN | apply below_drew1) | exact HB.out))); rintro e w12 ⟨rfl, hb⟩; refine ⟨_, rfl, ?_⟩; have n0_ := Aside0.mk (Kd.R_below (by (with_reducible repeat (first | apply Kd.R_alloc | apply Kd.R_drewN | apply Kd.R_drew)); exact HO_5.out) hb); have n1_ := Aside0.mk (Kd.R_below (by (with_reducible repeat (first | apply Kd.R_alloc | apply Kd.R_drewN | apply Kd.R_drew)); exact HO_6.out) hb); have n2_ := Aside0.mk (below_step (by repeat (first | (with_reducible first | exact HB.out | apply below_alloc | apply pw_below_drewN | apply below_drew1) | exact HB.out)) hb); clear HO_5; clear HO_6; clear HB; have HO_5 := n0_; have HO_6 := n1_; have HB := n2_; clear n0_ n1_ n2_; (try clear hb); (try clear hb2); (try clear hk); (try clear hi)) | ((with_reducible refine gate_dst (N := 8) rfl ?_); refine box_event ?hg (N := 8) ?hd (cs := #[.int .i64 0, .int .i64 0, .int .i64 0, .int .i64 0, .int .i64 0]) (t := 42) ?hr ?_; (case hd => rfl); (case hg => rfl); (case hr => first | (go_simp; done) | (go_simp; rfl)); intro gb152 hg w13 hbox hb; have n0_ := Aside0.mk (Kd.R_below (Kd.R_elderB (by (with_reducible repeat (first | apply Kd.R_alloc | apply Kd.R_drewN | apply Kd.R_drew)); exact HO_5.out) gb152 (Nat.le_of_eq hg.symm)) hb); have n1_ := Aside0.mk (Kd.R_below (by (with_reducible repeat (first | apply Kd.R_alloc | apply Kd.R_drewN | apply Kd.R_drew)); exact HO_6.out) hb); have n2_ := Aside0.mk (below_step (by repeat (first | (with_reducible first | exact HB.out | apply below_alloc | apply pw_below_drewN | apply below_drew1) | exact HB.out)) hb); have n3_ := Aside0.mk (hbox); have n4_ := Aside0.mk ((by rw [hg]; exact (below_size (by repeat (first | (with_reducible first | exact HB.out | apply below_alloc | apply pw_below_drewN | apply below_drew1) | exact HB.out))) : w.heap.size ≤ gb152)); have n5_ := Aside0.mk ((by rw [hg]; exact (below_size (by repeat (first | (with_reducible first | exact HB.out | apply below_alloc | apply pw_below_drewN | apply below_drew1) | exact HB.out))) : w.heap.size ≤ gb152)); clear HO_5; clear HO_6; clear HB; have HO_5 := n0_; have HO_6 := n1_; have HB := n2_; have BK152 := n3_; have GW152 := n4_; have GE152 := n5_; clear n0_ n1_ n2_ n3_ n4_ n5_; clear hb hbox hg; have hcz14_0 : w13.cell? ⟨gb152, 0, none⟩ = some (.int .i64 0) := (blk_cell BK152.out 0).trans rfl; have hcz14_1 : w13.cell? ⟨gb152, 1, none⟩ = some (.int .i64 0) := (blk_cell BK152.out 1).trans rfl; have hcz14_2 : w13.cell? ⟨gb152, 2, none⟩ = some (.int .i64 0) := (blk_cell BK152.out 2).trans rfl; have hcz14_3 : w13.cell? ⟨gb152, 3, none⟩ = some (.int .i64 0) := (blk_cell BK152.out 3).trans rfl; have hcz14_4 : w13.cell? ⟨gb152, 4, none⟩ = some (.int .i64 0) := (blk_cell BK152.out 4).trans rfl; have hfz14_0 := blk_frozen BK152.out 0; have hfz14_1 := blk_frozen BK152.out 1; have hfz14_2 := blk_frozen BK152.out 2; have hfz14_3 := blk_frozen BK152.out 3; have hfz14_4 := blk_frozen BK152.out 4))
          go_ret3
          exact ⟨_, _, by first | rfl | (simp [errW_none, errW_some] <;> rfl) | (simp [*, errW_none, errW_some] <;> rfl), by first | exact Kd.R_nil _ _ _ _ _ | exact Kd.N_nil _ _ _ _ _ | exact Kd.V_nil _ _ _ _ _ | exact Kd.Q_nil _ _ _ _ _ | exact Kd.S_nil _ _ _ _ _, by first | exact Kd.R_nil _ _ _ _ _ | exact Kd.N_nil _ _ _ _ _ | exact Kd.V_nil _ _ _ _ _ | exact Kd.Q_nil _ _ _ _ _ | exact Kd.S_nil _ _ _ _ _, by repeat (first | (with_reducible first | exact HB.out | apply below_alloc | apply pw_below_drewN | apply below_drew1 | refine below_set ?_ GE152.out) | exact HB.out)⟩
      · rw [if_neg c2] at H
        have c2b0 : decide (x7_1 < (l0.length : Int)) = false := decide_eq_false c2
        clear c2
        simp only [Option.some.injEq, Prod.mk.injEq] at H
        obtain ⟨rfl, rfl, rfl⟩ := H
        go_wp2
        go_ret3
        exact ⟨_, _, by first | rfl | (simp [errW_none, errW_some] <;> rfl) | (simp [*, errW_none, errW_some] <;> rfl), by (with_reducible repeat (first | apply Kd.R_alloc | apply Kd.R_drewN | apply Kd.R_drew)); exact HO_5.out, by (with_reducible repeat (first | apply Kd.R_alloc | apply Kd.R_drewN | apply Kd.R_drew)); exact HO_6.out, by repeat (first | (with_reducible first | exact HB.out | apply below_alloc | apply pw_below_drewN | apply below_drew1) | exact HB.out)⟩
end Go.Proofs.YtcjidibdidijaaaDoor.PCod
namespace Go.Proofs.YtcjidibdidijaaaDoor
open Go.RowKit Go.Proofs.YtcjidibdidijaaaDoor.PCod Go.Proofs.YtcjidibdidijaaaDoorW.PrintWords Go.Proofs.YtcjidibdidijaaaDoorW.PrintMore
set_option linter.unusedVariables false
set_option linter.unusedSimpArgs false
theorem dall_loop (w : List Int) (hw : u32s w) (hl : w.length < 3518437208883) : ∀ (n a : Nat) (is : List S42) (ps : List Int), a ≤ w.length → w.length - a < n → is.length ≤ a → ps.length ≤ a →
    Ev (fun k => encoding_DecodeAll.l0 k w is ps (a : Int)) (match decA w n a with | none => ([], [], 204) | some l => (is ++ l, ps ++ starts a l, 0))
  | 0, a, is, ps, ha, hn, hi, hp => by omega
  | n + 1, a, is, ps, ha, hn, hi, hp => by
    rw [decA]
    by_cases hlt : a < w.length
    · rw [if_pos hlt]
      refine Ev.step (f := fun k => (encoding_Decode.f k w (a : Int)).bind fun bt175 => (if bt175.2.2.2.2.2.2 = 0 then (if is.length < 3518437208883 then (if ps.length < 17592186044416 then (encoding_DecodeAll.l0 k w (is ++ [(⟨bt175.1, bt175.2.1, bt175.2.2.1, bt175.2.2.2.1, bt175.2.2.2.2.1⟩ : S42)]) (ps ++ [(a : Int)]) (wrap64 ((a : Int) + bt175.2.2.2.2.2.1))) else (none)) else (none)) else (some (([] : List (S42)), ([] : List Int), bt175.2.2.2.2.2.2)))) (fun k => ?_) ?_
      · rw [encoding_DecodeAll.l0, if_pos (by omega)]
      · refine Ev.bind (dec_ev w hw (by omega) a) ?_
        by_cases hk : okD w a
        · obtain ⟨hv, hs, _, hd⟩ := ok_words w hw a hk
          have hle := hk.2.1
          have h3 := wI_len3 hv
          have ih := dall_loop w hw hl n (a + (wI (decI w a)).length) (is ++ [decI w a]) (ps ++ [(a : Int)]) (by omega) (by omega) (by simp; omega) (by simp; omega)
          have e : decS w a = ((decI w a).f0, (decI w a).f1, (decI w a).f2, (decI w a).f3, (decI w a).f4, sizeI (rd w a % 64), 0) := if_pos hk
          rw [e, if_pos hk]
          simp only [if_true]
          rw [hs]
          refine Ev.congr (fun k => ?_) (f := fun k => encoding_DecodeAll.l0 k w (is ++ [decI w a]) (ps ++ [(a : Int)]) ((a + (wI (decI w a)).length : Nat) : Int)) ?_
          · rw [if_pos (by omega), if_pos (by omega), show wrap64 ((a : Int) + ((wI (decI w a)).length : Int)) = ((a + (wI (decI w a)).length : Nat) : Int) by unfold wrap64; omega]
          · cases hm : decA w n (a + (wI (decI w a)).length) with
            | none =>
              rw [hm] at ih
              exact ih
            | some l =>
              rw [hm] at ih
              simp only [Option.map_some, starts]
              simp only [List.append_assoc, List.cons_append, List.nil_append] at ih
              exact ih
        · rw [if_neg hk, show decS w a = errD from if_neg hk]
          refine Ev.congr (fun k => ?_) (Ev.now _)
          exact (if_neg (show ¬ errD.2.2.2.2.2.2 = 0 by decide)).trans rfl
    · rw [if_neg hlt]
      refine Ev.step (f := fun _ => some (is, ps, 0)) (fun k => ?_) ?_
      · rw [encoding_DecodeAll.l0, if_neg (by omega)]
      · simp only [starts, List.append_nil]
        exact Ev.now _
theorem dall_ev (w : List Int) (hw : u32s w) (hl : w.length < 3518437208883) : Ev (fun k => encoding_DecodeAll.f k w) (decR w) := by
  have h := dall_loop w hw hl (w.length + 1) 0 [] [] (by omega) (by omega) (by simp) (by simp)
  simp only [List.nil_append] at h
  exact h
end Go.Proofs.YtcjidibdidijaaaDoor
namespace Go.Proofs.YtcjidibdidijaaaDoor
open Go.RowKit Go.Proofs.YtcjidibdidijaaaDoor.PCod Go.Proofs.YtcjidibdidijaaaDoorW.PrintWords Go.Proofs.YtcjidibdidijaaaDoorW.PrintMore
set_option linter.unusedVariables false
set_option linter.unusedSimpArgs false
theorem within_any (n lo hi : Int) (w : World) : Calls Tryd.prog 75 #[.int .i64 n, .int .i64 lo, .int .i64 hi] w fun e w' => e = .returned (.bool (decide (lo ≤ n) && decide (n ≤ hi))) ∧ w = w' := by
  by_cases h1 : lo ≤ n
  · have t1 : decide (lo ≤ n) = true := decide_eq_true h1
    by_cases h2 : n ≤ hi
    · have t2 : decide (n ≤ hi) = true := decide_eq_true h2
      rw [t1, t2]
      go_enter Tryd.func75, Tryd.ntmps75
      go_wp2_with fail
      go_ret
      exact ⟨rfl, rfl⟩
    · have t2 : decide (n ≤ hi) = false := decide_eq_false h2
      rw [t1, t2]
      go_enter Tryd.func75, Tryd.ntmps75
      go_wp2_with fail
      go_ret
      exact ⟨rfl, rfl⟩
  · have t1 : decide (lo ≤ n) = false := decide_eq_false h1
    rw [t1]
    go_enter Tryd.func75, Tryd.ntmps75
    go_wp2_with fail
    go_ret
    exact ⟨rfl, rfl⟩
def beginB (bs : List Bool) (n : Int) : Bool := decide (0 ≤ n) && decide (n < bs.length) && bs.getD n.toNat false
theorem begin_any {g gb c : Nat} {bs : List Bool} (n : Int) {w : World} (hc : w.cell? ⟨gb, 0, none⟩ = some (.slice (some ⟨g, 0, none⟩) bs.length c)) (hb : w.heap[g]? = some (.cells (bs.map Value.bool).toArray 4 (0, 0))) :
    Calls Tryd.prog 77 #[.int .i64 n, .pointer (some ⟨gb, 0, none⟩)] w fun e w' => e = .returned (.bool (beginB bs n)) ∧ w = w' := by
  unfold beginB
  by_cases h1 : 0 ≤ n
  · have t1 : decide (0 ≤ n) = true := decide_eq_true h1
    by_cases h2 : n < (bs.length : Int)
    · have t2 : decide (n < (bs.length : Int)) = true := decide_eq_true h2
      have hk : n.toNat < bs.length := by omega
      obtain ⟨ad, had⟩ : ∃ ad : Addr, Hid ((⟨g, 0, none⟩ : Addr) = ad) := ⟨_, Lib.hid rfl⟩
      have hx : w.cell? (ad.add n.toNat) = some (.bool (bs.getD n.toNat false)) := by
        rw [← had.out, add_plain, blk_cell hb, List.getElem?_toArray, List.getElem?_map, List.getD_eq_getElem?_getD, List.getElem?_eq_getElem hk]
        rfl
      rw [had.out] at hc
      rw [t1, t2, Bool.true_and, Bool.true_and]
      generalize bs.getD n.toNat false = v at *
      clear hb hk
      go_enter Tryd.func77, Tryd.ntmps77
      go_wp2_with fail
      go_ret
      exact ⟨rfl, rfl⟩
    · have t2 : decide (n < (bs.length : Int)) = false := decide_eq_false h2
      rw [t1, t2, Bool.true_and, Bool.false_and]
      clear hb
      go_enter Tryd.func77, Tryd.ntmps77
      go_wp2_with fail
      go_ret
      exact ⟨rfl, rfl⟩
  · have t1 : decide (0 ≤ n) = false := decide_eq_false h1
    rw [t1, Bool.false_and, Bool.false_and]
    clear hb
    go_enter Tryd.func77, Tryd.ntmps77
    go_wp2_with fail
    go_ret
    exact ⟨rfl, rfl⟩
end Go.Proofs.YtcjidibdidijaaaDoor
namespace Go.Proofs.YtcjidibdidijaaaDoor
open Go.RowKit Go.Proofs.YtcjidibdidijaaaDoor.PCod Go.Proofs.YtcjidibdidijaaaDoorW.PrintWords Go.Proofs.YtcjidibdidijaaaDoorW.PrintMore
set_option linter.unusedVariables false
set_option linter.unusedSimpArgs false
def marksOn (b : List Bool) (l : List Int) : List Bool := l.foldl (fun b p => b.set p.toNat true) b
def marks (n : Nat) (l : List Int) : List Bool := marksOn (List.replicate n false) l
theorem marksOn_len : ∀ (l : List Int) (b : List Bool), (marksOn b l).length = b.length
  | [], b => rfl
  | p :: t, b => by
    show (marksOn (b.set p.toNat true) t).length = _
    rw [marksOn_len t, List.length_set]
theorem marks_len (n : Nat) (l : List Int) : (marks n l).length = n := by rw [marks, marksOn_len, List.length_replicate]
theorem marks_snoc (n : Nat) (l : List Int) (p : Int) : marks n (l ++ [p]) = (marks n l).set p.toNat true := by
  unfold marks marksOn
  rw [List.foldl_append]
  rfl
theorem marksOn_get : ∀ (l : List Int) (b : List Bool) (k : Nat), (∀ p ∈ l, 0 ≤ p) → k < b.length → (marksOn b l).getD k false = (b.getD k false || decide ((k : Int) ∈ l))
  | [], b, k, h, hk => by simp [marksOn]
  | p :: t, b, k, h, hk => by
    have hp := h p (by simp)
    show (marksOn (b.set p.toNat true) t).getD k false = _
    rw [marksOn_get t _ k (fun q hq => h q (by simp [hq])) (by rw [List.length_set]; exact hk)]
    simp only [List.getD_eq_getElem?_getD, List.getElem?_set]
    by_cases e : p.toNat = k
    · have e2 : (k : Int) = p := by omega
      simp [e, e2, hk]
    · have e2 : ¬ (k : Int) = p := by omega
      simp [e, e2]
theorem marks_get (n : Nat) (l : List Int) (k : Nat) (h : ∀ p ∈ l, 0 ≤ p) (hk : k < n) : (marks n l).getD k false = decide ((k : Int) ∈ l) := by
  rw [marks, marksOn_get l _ k h (by rw [List.length_replicate]; exact hk)]
  simp [List.getD_eq_getElem?_getD, List.getElem?_replicate, hk]
theorem starts_range : ∀ (a : Nat) (l : List S42), l.all vI = true → ∀ p ∈ starts a l, (a : Int) ≤ p ∧ p < (a + (l.flatMap wI).length : Nat)
  | a, [], h, p, hp => by simp [starts] at hp
  | a, i :: t, h, p, hp => by
    rw [List.all_cons, Bool.and_eq_true] at h
    have h3 := wI_len3 h.1
    rw [List.flatMap_cons, List.length_append]
    rw [starts, List.mem_cons] at hp
    rcases hp with rfl | hp
    · omega
    · have := starts_range _ t h.2 p hp
      omega
theorem begin_isStart (W : List Int) (hw : u32s W) (h : (decR W).2.2 = 0) (n : Int) : beginB (marks W.length (decR W).2.1) n = isStart W n := by
  obtain ⟨h1, h2, h3⟩ := decR_ok W hw h
  have hr : ∀ p ∈ (decR W).2.1, (0 : Int) ≤ p ∧ p < W.length := by
    intro p hp
    rw [h3] at hp
    have := starts_range 0 _ h1 p hp
    rw [← h2] at this
    omega
  unfold beginB isStart
  rw [marks_len]
  by_cases h0 : 0 ≤ n
  · by_cases hl : n < (W.length : Int)
    · rw [marks_get _ _ _ (fun p hp => (hr p hp).1) (by omega), show ((n.toNat : Nat) : Int) = n by omega]
      simp [h0, hl]
    · have : ¬ n ∈ (decR W).2.1 := fun hp => hl (hr n hp).2
      simp [h0, hl, this]
  · have : ¬ n ∈ (decR W).2.1 := fun hp => h0 (hr n hp).1
    simp [h0, this]
theorem decR_nonempty (W : List Int) (hw : u32s W) (h : (decR W).2.2 = 0) (hl : 1 ≤ W.length) : 0 < (decR W).1.length := by
  obtain ⟨h1, h2, h3⟩ := decR_ok W hw h
  rcases Nat.eq_zero_or_pos (decR W).1.length with h0 | h0
  · rw [List.eq_nil_of_length_eq_zero h0] at h2
    rw [h2] at hl
    simp at hl
  · exact h0
theorem validS_iff (W E P S A : List Int) : validS W E P S A = true ↔ okLens W E P S A = true ∧ (decR W).2.2 = 0 ∧ (decR W).1.getLast?.any cfOn = false ∧
    (∀ k, k < E.length → okFun W (rd E k) (rd P k) (rd S k) = true) ∧ (∀ k, k < A.length → 1 ≤ rd A (k : Nat) ∧ rd A (k : Nat) ≤ 16) ∧
    (∀ k i, (decR W).1[k]? = some i → okIns W P A.length (rd (decR W).2.1 (k : Nat)) i = true) := by
  unfold validS
  simp only [Bool.and_eq_true, decide_eq_true_eq, Bool.not_eq_true', List.all_eq_true, List.mem_range, and_assoc]
  constructor
  · rintro ⟨h1, h2, h3, h4, h5, h6⟩
    refine ⟨h1, h2, h3, h4, fun k hk => ?_, fun k i hi => ?_⟩
    · have := h5 A[k] (List.getElem_mem hk)
      unfold rd
      rw [Int.toNat_natCast, List.getD_eq_getElem?_getD, List.getElem?_eq_getElem hk]
      exact this
    · have := h6 k (List.getElem?_eq_some_iff.1 hi).1
      rw [hi] at this
      exact this
  · rintro ⟨h1, h2, h3, h4, h5, h6⟩
    refine ⟨h1, h2, h3, h4, fun n hn => ?_, fun k hk => ?_⟩
    · obtain ⟨k, hk, rfl⟩ := List.getElem_of_mem hn
      have := h5 k hk
      unfold rd at this
      rw [Int.toNat_natCast, List.getD_eq_getElem?_getD, List.getElem?_eq_getElem hk] at this
      exact this
    · rw [List.getElem?_eq_getElem hk]
      exact h6 k _ (List.getElem?_eq_getElem hk)
theorem validS_no {W E P S A : List Int} (h : ¬ validS W E P S A = true) : validS W E P S A = false := Bool.eq_false_iff.2 h
end Go.Proofs.YtcjidibdidijaaaDoor
namespace Go.Proofs.YtcjidibdidijaaaDoor
set_option linter.unusedVariables false
set_option linter.unusedSimpArgs false
open Go.RowKit Go.Proofs.YtcjidibdidijaaaDoorW.PrintWords
def pickN (n m : Int) : Int := if n.tmod m < 0 then wrap64 (n.tmod m + m) else n.tmod m
def nextN (n m : Int) : Int := wrap64 ((wrap64 (n - pickN n m)).tdiv m)
theorem pickN_range (n m : Int) (h : 0 < m) (h2 : m < 9223372036854775807) : 0 ≤ pickN n m ∧ pickN n m < m := by
  have h3 := Int.tmod_lt_of_pos n h
  have h4 : -m < n.tmod m := by
    have := Int.natAbs_tmod n m
    have h5 := Nat.mod_lt n.natAbs (show 0 < m.natAbs by omega)
    omega
  unfold pickN
  split
  · have : wrap64 (n.tmod m + m) = n.tmod m + m := by unfold wrap64; omega
    omega
  · omega
theorem pick_calls (n m : Int) (h0 : 0 < m) (w : World) : Calls Tryd.prog 19 #[.int .i64 n, .int .i64 m] w fun e w' => e = .returned (.int .i64 (pickN n m)) ∧ w = w' := by
  have h1 : ¬ m = 0 := by omega
  have h2 : (m == 0) = false := beq_eq_false_iff_ne.2 h1
  by_cases c : n.tmod m < 0
  · rw [show pickN n m = wrap64 (n.tmod m + m) by unfold pickN; rw [if_pos c]]
    go_enter Tryd.func19, Tryd.ntmps19
    go_wp2
    go_ret
    exact ⟨rfl, rfl⟩
  · rw [show pickN n m = n.tmod m by unfold pickN; rw [if_neg c]]
    have c' : decide (n.tmod m < 0) = false := decide_eq_false c
    go_enter Tryd.func19, Tryd.ntmps19
    go_wp2
    go_ret
    exact ⟨rfl, rfl⟩
theorem next_calls (n m : Int) (b : Nat) (h0 : 0 < m) (w : World) (hc : w.cell? ⟨b, 0, none⟩ = some (.int .i64 n)) (hf : w.frozen? ⟨b, 0, none⟩ = false) :
    Calls Tryd.prog 74 #[.pointer (some ⟨b, 0, none⟩), .int .i64 m] w fun e w' => e = .returned (.int .i64 (pickN n m)) ∧ w' = w.setCell ⟨b, 0, none⟩ (.int .i64 (nextN n m)) := by
  have h1 : ¬ m = 0 := by omega
  have hp := pick_calls n m h0
  have hn : nextN n m = wrap64 ((wrap64 (n - pickN n m)).tdiv m) := rfl
  generalize nextN n m = q at *
  generalize pickN n m = p at *
  go_enter Tryd.func74, Tryd.ntmps74
  go_wp2_with (go_at_call 19; refine (hp _).mono ?_; rintro e w2 ⟨rfl, rfl⟩)
  go_ret
  exact ⟨rfl, by rw [← hn]⟩
def edges : List Int := [0, 1, -1, 2, -9223372036854775808, 9223372036854775807, 4294967296, -2147483648, 63, 64]
def wordN (n raw : Int) : Int := if pickN n 24 < 10 then edges.getD (pickN n 24).toNat 0 else if pickN n 24 < 22 then wrap64 (pickN (wrap64 (n.tdiv 24)) 17 - 6) else raw
set_option maxRecDepth 100000 in
set_option maxHeartbeats 2000000 in
theorem word_calls (n raw : Int) (w : World) : Calls Tryd.prog 57 #[.int .i64 n, .int .i64 raw] w fun e w' => e = .returned (.int .i64 (wordN n raw)) ∧ Below w.heap.size w w' := by
  have hp := pick_calls n 24 (by omega)
  have hq := pick_calls (wrap64 (n.tdiv 24)) 17 (by omega)
  have hr := pickN_range n 24 (by omega) (by omega)
  unfold wordN
  generalize pickN (wrap64 (n.tdiv 24)) 17 = q at *
  generalize pickN n 24 = p at *
  by_cases c : p < 10
  · rw [if_pos c]
    have : p = 0 ∨ p = 1 ∨ p = 2 ∨ p = 3 ∨ p = 4 ∨ p = 5 ∨ p = 6 ∨ p = 7 ∨ p = 8 ∨ p = 9 := by omega
    rcases this with rfl | rfl | rfl | rfl | rfl | rfl | rfl | rfl | rfl | rfl
    all_goals
      go_enter Tryd.func57, Tryd.ntmps57
      go_wp2_with (go_at_call 19; refine (hp _).mono ?_; rintro e w2 ⟨rfl, rfl⟩)
      go_ret
      exact ⟨rfl, (Below.refl _ _).alloc (Nat.le_refl _) _⟩
  · rw [if_neg c]
    have c1 : decide (p < 10) = false := decide_eq_false c
    by_cases d : p < 22
    · rw [if_pos d]
      go_enter Tryd.func57, Tryd.ntmps57
      go_wp2_with (go_at_call 19; first | (with_reducible refine (hq _).mono ?_; rintro e w2 ⟨rfl, rfl⟩) | (with_reducible refine (hp _).mono ?_; rintro e w2 ⟨rfl, rfl⟩))
      go_ret
      exact ⟨rfl, (Below.refl _ _).alloc (Nat.le_refl _) _⟩
    · rw [if_neg d]
      have d1 : decide (p < 22) = false := decide_eq_false d
      go_enter Tryd.func57, Tryd.ntmps57
      go_wp2_with (go_at_call 19; refine (hp _).mono ?_; rintro e w2 ⟨rfl, rfl⟩)
      go_ret
      exact ⟨rfl, (Below.refl _ _).alloc (Nat.le_refl _) _⟩
end Go.Proofs.YtcjidibdidijaaaDoor
namespace Go.Proofs.YtcjidibdidijaaaDoor
set_option linter.unusedVariables false
set_option linter.unusedSimpArgs false
open Go.RowKit Go.Proofs.YtcjidibdidijaaaDoorW.PrintWords
def instrD (op n : Int) : Int × Int × Int × Int × Int :=
  let d1 := nextN n 37
  let f := formOf op
  let A := if hasA f then pickN d1 8 else 0
  let d2 := if hasA f then nextN d1 8 else d1
  let B := if hasB f then pickN d2 8 else 0
  let d3 := if hasB f then nextN d2 8 else d2
  let C := if hasC f then pickN d3 8 else 0
  let d4 := if hasC f then nextN d3 8 else d3
  if op = 4 then (op, A, B, C, wrap64 (1 + pickN d4 40))
  else if op = 6 then (op, pickN d4 3, B, C, pickN (nextN d4 3) 2)
  else if op = 34 ∨ op = 35 then (op, A, B, C, pickN d4 2)
  else if op = 36 ∨ op = 37 then (op, A, B, C, pickN d4 6)
  else if op = 14 then (op, A, B, C, wordN (pickN d4 500) n)
  else if op = 13 ∨ op = 33 ∨ op = 5 ∨ op = 7 ∨ op = 8 then (op, A, B, C, wrap64 (pickN d4 15 - 6))
  else (op, A, B, C, 0)
def instrF (n : Int) : Int × Int × Int × Int × Int := instrD (pickN n 37 + 1) n
def insV (i : Int × Int × Int × Int × Int) : Value := .agg #[.int .i64 i.1, .int .i64 i.2.1, .int .i64 i.2.2.1, .int .i64 i.2.2.2.1, .int .i64 i.2.2.2.2]
theorem kc {W w1 : World} (hb : Below W.heap.size W w1) (b o : Nat) (z : Int) (hc : W.cell? ⟨b, o, none⟩ = some (.int .i64 z)) (hf : W.frozen? ⟨b, o, none⟩ = false) : w1.cell? ⟨b, o, none⟩ = some (.int .i64 z) ∧ w1.frozen? ⟨b, o, none⟩ = false :=
  ⟨(hb.cell (World.block_lt_of_cell? _ _ hc)).trans hc, (hb.frozen (p := ⟨b, o, none⟩) (World.block_lt_of_cell? _ _ hc)).trans hf⟩
theorem next_any (n m p d : Int) (hp : Hid (pickN n m = p)) (hd : Hid (nextN n m = d)) (b : Nat) (h0 : 0 < m) (w : World) (hc : w.cell? ⟨b, 0, none⟩ = some (.int .i64 n)) (hf : w.frozen? ⟨b, 0, none⟩ = false) :
    Calls Tryd.prog 74 #[.pointer (some ⟨b, 0, none⟩), .int .i64 m] w fun e w' => e = .returned (.int .i64 p) ∧ w' = w.setCell ⟨b, 0, none⟩ (.int .i64 d) := by
  have h := next_calls n m b h0 w hc hf
  rw [hp.out, hd.out] at h
  exact h
theorem word_any (n raw x : Int) (hx : Hid (wordN n raw = x)) (w : World) : Calls Tryd.prog 57 #[.int .i64 n, .int .i64 raw] w fun e w' => e = .returned (.int .i64 x) ∧ Below w.heap.size w w' := by
  have h := word_calls n raw w
  rw [hx.out] at h
  exact h
theorem end39 {a : Act} {w W : World} (op A B C X : Int) {v : Value} (hp : a.tmps.getD 2 undef = .pointer (some ⟨w.heap.size, 0, none⟩)) (hd : a.defers = [])
    (c0 : W.cell? ⟨w.heap.size, 0, none⟩ = some (.int .i64 op)) (c1 : W.cell? ⟨w.heap.size, 1, none⟩ = some (.int .i64 A)) (c2 : W.cell? ⟨w.heap.size, 2, none⟩ = some (.int .i64 B))
    (c3 : W.cell? ⟨w.heap.size, 3, none⟩ = some (.int .i64 C)) (c4 : W.cell? ⟨w.heap.size, 4, none⟩ = some (.int .i64 X)) (hv : insV (op, A, B, C, X) = v) (hb : Below w.heap.size w W) :
    bodyPost Tryd.prog Tryd.f39 (fun e w' => e = .returned v ∧ Below w.heap.size w w') .ret a W := by
  subst hv
  refine bodyPost_ret (v := .agg #[.int .i64 op, .int .i64 A, .int .i64 B, .int .i64 C, .int .i64 X]) ?_ hd ⟨rfl, hb⟩
  have hp2 : a.tmps[2]?.getD undef = .pointer (some ⟨w.heap.size, 0, none⟩) := by simpa using hp
  simp [results, Tryd.results39, go_sem, hp, hp2, c0, c1, c2, c3, c4]
end Go.Proofs.YtcjidibdidijaaaDoor
