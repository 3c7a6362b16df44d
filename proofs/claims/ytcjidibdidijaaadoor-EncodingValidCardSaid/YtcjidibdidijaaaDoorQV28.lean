/- Parts of this proof in one text: CSta, RVb0. -/
import Derived.Test.YtcjidibdidijaaaDoorQV2
import Derived.Test.YtcjidibdidijaaaDoorQV24
import Derived.Test.YtcjidibdidijaaaDoorQV11
namespace Go.Proofs.YtcjidibdidijaaaDoor.PCod
open Go.RowKit Go.Proofs.YtcjidibdidijaaaDoorW.PrintWords Go.Proofs.YtcjidibdidijaaaDoorW.PrintLast Go.Proofs.YtcjidibdidijaaaDoorW.PrintMore
attribute [local go_sem] max2_int min2_int max_two min_two max_three min_three max_four min_four
set_option linter.unusedVariables false
set_option linter.unusedSimpArgs false
def fullingref29_Starts.l0 : Nat → List Bool → List Int → Int → Option (List Bool)
  | 0, _, _, _ => none
  | k + 1, x3, x5, x7 => if x7 < (x5.length : Int) then (if 0 ≤ x7 then (if 0 ≤ (rd x5 x7) then (if (rd x5 x7) < (x3.length : Int) then (fullingref29_Starts.l0 k (x3.set ((rd x5 x7) : Int).toNat true) x5 (wrap64 (x7 + 1))) else (none)) else (none)) else (none)) else (some x3)
def fullingref29_Starts.f (k : Nat) (l0 : List Int) : Option (List Bool) := if 0 ≤ (l0.length : Int) then (if ((l0.length : Int) : Int).toNat ≤ 281474976710656 then ((fullingref29_DecodeAll.f k l0).bind fun bt506 => (fullingref29_Starts.l0 k (List.replicate ((l0.length : Int) : Int).toNat false) bt506.2.1 0)) else (none)) else (none)
theorem fullingref29_Starts.mono_l : ∀ k, (∀ y0 y1 y2, LeO (fullingref29_Starts.l0 k y0 y1 y2) (fullingref29_Starts.l0 (k + 1) y0 y1 y2))
  | 0 => fun _ _ _ r h => by simp [fullingref29_Starts.l0] at h
  | k + 1 => by
    have ih0 := fullingref29_Starts.mono_l k
    · intro y0 y1 y2
      unfold fullingref29_Starts.l0
      repeat' first
      | (with_reducible exact ih0 _ _ _)
      | (with_reducible exact fullingref29_DecodeAll.mono _ _)
      | (with_reducible exact LeO.refl _)
      | (with_reducible exact LeO.none _)
      | (with_reducible refine LeO.ite ?_ ?_)
      | (with_reducible refine LeO.bind ?_ (fun _ => ?_))
      | exact ih0 _ _ _
      | exact fullingref29_DecodeAll.mono _ _
      | exact LeO.none _
      | refine LeO.ite ?_ ?_
      | refine LeO.bind ?_ (fun _ => ?_)
theorem fullingref29_Starts.mono : ∀ a0 k, LeO (fullingref29_Starts.f k a0) (fullingref29_Starts.f (k + 1) a0) := by
  intro a0 k
  have ih0 := fullingref29_Starts.mono_l k
  unfold fullingref29_Starts.f
  repeat' first
      | (with_reducible exact ih0 _ _ _)
      | (with_reducible exact fullingref29_DecodeAll.mono _ _)
      | (with_reducible exact LeO.refl _)
      | (with_reducible exact LeO.none _)
      | (with_reducible refine LeO.ite ?_ ?_)
      | (with_reducible refine LeO.bind ?_ (fun _ => ?_))
      | exact ih0 _ _ _
      | exact fullingref29_DecodeAll.mono _ _
      | exact LeO.none _
      | refine LeO.ite ?_ ?_
      | refine LeO.bind ?_ (fun _ => ?_)
set_option maxHeartbeats 8000000 in
set_option maxRecDepth 100000 in
theorem fullingref29_Starts.calls (k : Nat) (A0 : Option Addr) (c0 : Nat) (l0 : List Int) (r : List Bool) (w : World) (hr0 : Kd.C (Kd.int .u32) w A0 l0.length l0) (hc0 : l0.length ≤ c0) (h : fullingref29_Starts.f k l0 = some r) :
    Calls Tryd.prog 78 #[.slice A0 l0.length c0] w fun e w' => ∃ v0_ : Value, e = .returned (v0_) ∧ Kd.R Kd.bool 4 w' w.heap.size (fun _ => True) v0_ r ∧ Below w.heap.size w w' := by
  have HR0 := Aside0.mk hr0
  have HC0 := Aside0.mk hc0
  clear hr0 hc0
  have HB := Aside0.mk (Below.refl w.heap.size w)
  have H : (if 0 ≤ (l0.length : Int) then (if ((l0.length : Int) : Int).toNat ≤ 281474976710656 then ((fullingref29_DecodeAll.f k l0).bind fun bt506 => (fullingref29_Starts.l0 k (List.replicate ((l0.length : Int) : Int).toNat false) bt506.2.1 0)) else (none)) else (none)) = some r := h
  clear h
  by_cases c2 : 0 ≤ (l0.length : Int)
  · rw [if_pos c2] at H
    have c2b0 := eq_true c2
    have c2b1 : decide (0 ≤ (l0.length : Int)) = true := decide_eq_true c2
    clear c2
    by_cases c3 : ((l0.length : Int) : Int).toNat ≤ 281474976710656
    · rw [if_pos c3] at H
      have c3b0 := eq_true c3
      have c3b1 : decide (((l0.length : Int) : Int).toNat ≤ 281474976710656) = true := decide_eq_true c3
      clear c3
      obtain ⟨y503, hy503⟩ : ∃ y_ : List Bool, y_ = (List.replicate ((l0.length : Int) : Int).toNat false) := ⟨_, rfl⟩
      replace H : ((fullingref29_DecodeAll.f k l0).bind fun bt506 => (fullingref29_Starts.l0 k y503 bt506.2.1 0)) = some r := by first | (rw [hy503]; with_reducible exact H) | (have H2_ := (Option.bind_some _ _).symm.trans H; rw [hy503]; with_reducible exact H2_) | (have H2_ := (Option.bind_some _ _).symm.trans H; with_reducible exact H2_) | with_reducible exact H | (rw [hy503]; exact H) | exact H
      have Ny503 := Aside0.mk hy503
      clear hy503
      replace H := Option.bind_eq_some_iff.mp H
      obtain ⟨⟨t506, t507, t508⟩, A40, H⟩ := H
      replace H : (fullingref29_Starts.l0 k y503 t507 0) = some r := H
      have A4 := Aside0.mk A40
      clear A40
      have H' := Aside0.mk H
      clear H
      go_enter Tryd.func78, Tryd.ntmps78
      go_wp2_with (first | ((with_reducible refine gate_dst (N := 10) rfl ?_); refine Kd.R_make Kd.bool _ 4 rfl (N := 10) rfl 122 _ _ rfl (l0.length : Int) rfl rfl Tryd.underlying122 (.bool false) 1 info4 rfl (by decide) (by omega) false (ok := fun _ => True) (okp := fun _ => True) rfl (fun _ hk => hk) trivial (of_decide_eq_true (by first | (with_reducible assumption) | assumption)) (Nat.le_trans (Nat.mul_le_mul_right _ (of_decide_eq_true (by first | (with_reducible assumption) | assumption) : (l0.length : Int).toNat ≤ 281474976710656)) (by omega)) (Below.refl _ _) (Nat.le_refl _) ?_; intro v504 w5 ho6 hb hg_ hnew_; clear hg_ hnew_; (first | rw [← Ny503.out] at ho6 | (simp only [Int.reduceToNat] at ho6; rw [← Ny503.out] at ho6)); have n0_ := Aside0.mk (Kd.R_lower ho6 (below_size (by repeat (first | (with_reducible first | exact HB.out | apply below_alloc | apply pw_below_drewN | apply below_drew1) | exact HB.out)))); have n1_ := Aside0.mk (below_step (by repeat (first | (with_reducible first | exact HB.out | apply below_alloc | apply pw_below_drewN | apply below_drew1) | exact HB.out)) hb); clear HB; have HO505 := n0_; have HB := n1_; clear n0_ n1_; clear hb ho6) | ((with_reducible refine gate_callee (f := 42) rfl ?_); refine goesL_ (some 13) rfl rfl Tryd.func42 (by kernel_rfl) rfl #[.slice A0 l0.length c0] rfl (by (try simp only [List.map_toArray, List.map_cons, List.map_nil]); first | done | rfl | (simp only [List.length_drop, List.length_take]; rfl)) ?_; (with_reducible refine (fullingref29_DecodeAll.calls k _ _ l0 t506 t507 t508 _ ?side1 ?side2 A4.out).mono ?_); (case side1 => repeat (first | exact (Kd.C_below HR0.out HB.out) | (with_reducible refine Kd.C_alloc ?_ _) | (with_reducible refine Kd.C_drewN ?_ _) | (with_reducible refine Kd.C_drew ?_))); (case side2 => exact HC0.out); rintro e w7 ⟨v509, v511, rfl, ho0, ho1, hb⟩; refine ⟨_, rfl, ?_⟩; have n0_ := Aside0.mk (Kd.R_below (by (with_reducible repeat (first | apply Kd.R_alloc | apply Kd.R_drewN | apply Kd.R_drew)); exact HO505.out) hb); have n1_ := Aside0.mk (Kd.R_lower ho0 (below_size (by repeat (first | (with_reducible first | exact HB.out | apply below_alloc | apply pw_below_drewN | apply below_drew1) | exact HB.out)))); have n2_ := Aside0.mk (Kd.R_lower ho1 (below_size (by repeat (first | (with_reducible first | exact HB.out | apply below_alloc | apply pw_below_drewN | apply below_drew1) | exact HB.out)))); have n3_ := Aside0.mk (below_step (by repeat (first | (with_reducible first | exact HB.out | apply below_alloc | apply pw_below_drewN | apply below_drew1) | exact HB.out)) hb); clear HO505; clear HB; have HO505 := n0_; have HO510 := n1_; have HO512 := n2_; have HB := n3_; clear n0_ n1_ n2_ n3_; (try clear hb); (try clear hb2); (try clear hk); (try clear hi); (try clear ho0); (try clear ho1)))
      go_loopg [7] k (fun kq v7 w' => ∃ (x3_1 : List Bool) (x7_1 : Int), v7 = .int .i64 x7_1 ∧ Aside0 (fullingref29_Starts.l0 kq x3_1 t507 x7_1 = some r) ∧ Aside0 (kq ≤ k) ∧ Aside0 (Kd.R Kd.bool 4 w' w.heap.size (fun _ => True) v504 x3_1) ∧ Aside0 (Kd.R (Kd.int .i64) 3 w' w.heap.size (fun _ => True) v511 t507) ∧ Aside0 (Below w.heap.size w w'))
      case atStart => exact ⟨(y503), (0), (by first | rfl | (simp; done) | (simp [*]; done)), H', ⟨Nat.le_refl _⟩, ⟨by (with_reducible repeat (first | apply Kd.R_alloc | apply Kd.R_drewN | apply Kd.R_drew)); exact HO505.out⟩, ⟨by (with_reducible repeat (first | apply Kd.R_alloc | apply Kd.R_drewN | apply Kd.R_drew)); exact HO512.out⟩, ⟨by repeat (first | (with_reducible first | exact HB.out | apply below_alloc | apply pw_below_drewN | apply below_drew1) | exact HB.out)⟩⟩
      case round =>
        clear H'
        try clear c2
        try clear c2b0
        try clear c2b1
        try clear p2
        try clear c3
        try clear c3b0
        try clear c3b1
        try clear c4
        try clear c7
        obtain ⟨x3_1, x7_1, rfl, HA, HK1, HO_3, HO_5, HB⟩ := hrel
        cases gk with
        | zero => exact absurd HA.out (by simp [fullingref29_Starts.l0])
        | succ k1 =>
          have H := HA.out
          clear HA
          simp only [fullingref29_Starts.l0] at H
          by_cases c8 : x7_1 < (t507.length : Int)
          · rw [if_pos c8] at H
            have c8b0 : decide (x7_1 < (t507.length : Int)) = true := decide_eq_true c8
            clear c8
            by_cases c9 : 0 ≤ x7_1
            · rw [if_pos c9] at H
              have c9b0 : decide (0 ≤ x7_1) = true := decide_eq_true c9
              clear c9
              by_cases c10 : 0 ≤ (rd t507 x7_1)
              · rw [if_pos c10] at H
                have c10b0 : decide (0 ≤ (rd t507 x7_1)) = true := decide_eq_true c10
                clear c10
                by_cases c11 : (rd t507 x7_1) < (x3_1.length : Int)
                · rw [if_pos c11] at H
                  have c11b0 : decide ((rd t507 x7_1) < (x3_1.length : Int)) = true := decide_eq_true c11
                  clear c11
                  obtain ⟨y514, hy514⟩ : ∃ y_ : List Bool, y_ = (x3_1.set ((rd t507 x7_1) : Int).toNat true) := ⟨_, rfl⟩
                  replace H : (fullingref29_Starts.l0 k1 y514 t507 (wrap64 (x7_1 + 1))) = some r := by first | (rw [hy514]; with_reducible exact H) | (have H2_ := (Option.bind_some _ _).symm.trans H; rw [hy514]; with_reducible exact H2_) | (have H2_ := (Option.bind_some _ _).symm.trans H; with_reducible exact H2_) | with_reducible exact H | (rw [hy514]; exact H) | exact H
                  have Ny514 := Aside0.mk hy514
                  clear hy514
                  have H' := Aside0.mk H
                  clear H
                  obtain ⟨Ao13, co13, eo13⟩ := Kd.R_slice HO_5.out
                  subst eo13
                  have p513 : 0 ≤ (x7_1 : Int) := of_decide_eq_true (by first | (with_reducible assumption) | assumption)
                  have q513 : x7_1 < (t507.length : Int) := of_decide_eq_true (by first | (with_reducible assumption) | assumption)
                  obtain ⟨ad513, e513, hx513_0⟩ := Kd.at_int (Kd.R_reads' HO_5.out).2.2 x7_1 p513 q513
                  cases e513
                  replace p513 := eq_true p513
                  replace q513 := eq_true q513
                  have p12 : 0 ≤ ((rd t507 x7_1) : Int) := of_decide_eq_true (by first | (with_reducible assumption) | assumption)
                  have q12 : ((rd t507 x7_1) : Int) < ((x3_1.length : Int) : Int) := of_decide_eq_true (by first | (with_reducible assumption) | assumption)
                  obtain ⟨go12, co12, eo12, gb12, gl12, cl12, HG12⟩ := Kd.R_form HO_3.out (by omega)
                  (first | cases eo12 | (injection eo12 with ea_ en_ ec_; (first | subst ea_ | (injection ea_ with ea_; subst ea_)); subst ec_; clear en_))
                  have GB12 := Aside0.mk gb12
                  have GG12 := Aside0.mk HG12
                  clear gb12 gl12 HG12
                  obtain ⟨hx12_0, hf12_0⟩ := Kd.R_celln false HO_3.out ((rd t507 x7_1) : Int) p12 q12
                  replace p12 := eq_true p12
                  replace q12 := eq_true q12
                  have HP14 := Kd.R_putg HO_3.out ((rd t507 x7_1) : Int) true
                  go_wp2_with (first | ((with_reducible refine gate_store (t := 4) (p := 28) rfl ?_); refine store_event (t := 4) (p := 28) (v := ?vo_w15) (w1 := (wr.setCell ⟨go12, ((rd t507 x7_1) : Int).toNat, none⟩ (.bool true))) ?hg ?ho ?hn ?hr ?_; (case ho => rfl); (case hg => rfl); (case hn => rfl); (case hr => first | (go_simp; done) | (go_simp; rfl)); intro w15 hw; have hg : wr.grownBy w15 (some go12) := (by rw [hw]; exact HP14.2); have hp_ : Kd.R Kd.bool 4 w15 w.heap.size (fun _ => True) (.slice (some ⟨go12, 0, none⟩) x3_1.length co12) y514 := (by rw [hw, Ny514.out]; exact HP14.1); clear HP14; have n0_ := Aside0.mk (hp_); have n1_ := Aside0.mk (Kd.R_over' (v := (.slice (some ⟨go12, 0, none⟩) x3_1.length co12)) (by (with_reducible repeat (first | apply Kd.R_alloc | apply Kd.R_drewN | apply Kd.R_drew)); exact HO_5.out) (Kd.R_typed HO_3.out) (by decide) hg); have n2_ := Aside0.mk ((by rw [hw]; exact below_set (HB.out) GB12.out : Below w.heap.size w w15)); clear HO_3; clear HO_5; clear HB; have HO_3 := n0_; have HO_5 := n1_; have HB := n2_; clear n0_ n1_ n2_; clear hg hw hp_))
                  go_roundg k1
                  case measure => have := HK1.out; omega
                  case rel => exact ⟨(y514), (wrap64 (x7_1 + 1)), (by first | rfl | (simp; done) | (simp [*]; done)), H', ⟨by have := HK1.out; omega⟩, ⟨by (with_reducible repeat (first | apply Kd.R_alloc | apply Kd.R_drewN | apply Kd.R_drew)); exact HO_3.out⟩, ⟨by (with_reducible repeat (first | apply Kd.R_alloc | apply Kd.R_drewN | apply Kd.R_drew)); exact HO_5.out⟩, ⟨by repeat (first | (with_reducible first | exact HB.out | apply below_alloc | apply pw_below_drewN | apply below_drew1) | exact HB.out)⟩⟩
                · rw [if_neg c11] at H
                  exact absurd H (by simp)
              · rw [if_neg c10] at H
                exact absurd H (by simp)
            · rw [if_neg c9] at H
              exact absurd H (by simp)
          · rw [if_neg c8] at H
            have c8b0 : decide (x7_1 < (t507.length : Int)) = false := decide_eq_false c8
            clear c8
            obtain rfl := Option.some.inj H
            obtain ⟨Ao16, co16, eo16⟩ := Kd.R_slice HO_5.out
            subst eo16
            go_wp2
            go_ret
            exact ⟨_, by first | rfl | (simp [errW_none, errW_some] <;> rfl) | (simp [*, errW_none, errW_some] <;> rfl), by (with_reducible repeat (first | apply Kd.R_alloc | apply Kd.R_drewN | apply Kd.R_drew)); exact HO_3.out, by repeat (first | (with_reducible first | exact HB.out | apply below_alloc | apply pw_below_drewN | apply below_drew1) | exact HB.out)⟩
    · rw [if_neg c3] at H
      exact absurd H (by simp)
  · rw [if_neg c2] at H
    exact absurd H (by simp)
end Go.Proofs.YtcjidibdidijaaaDoor.PCod
namespace Go.Proofs.YtcjidibdidijaaaDoor
open Go.RowKit Go.Proofs.YtcjidibdidijaaaDoor.PCod Go.Proofs.YtcjidibdidijaaaDoorW.PrintWords Go.Proofs.YtcjidibdidijaaaDoorW.PrintMore Go.Proofs.YtcjidibdidijaaaDoor.DecL
set_option linter.unusedVariables false
set_option linter.unusedSimpArgs false
theorem starts_loop (n : Nat) (x : List Int) (hx : ∀ p ∈ x, (0 : Int) ≤ p ∧ p < (n : Int)) (hl : x.length < 9223372036854775807) : ∀ (d j : Nat), x.length - j = d → j ≤ x.length →
    Ev (fun k => fullingref29_Starts.l0 k (marks n (x.take j)) x (j : Int)) (marks n x)
  | 0, j, hd, hj => by
    refine Ev.step (f := fun _ => some (marks n (x.take j))) (fun k => ?_) ?_
    · rw [fullingref29_Starts.l0, if_neg (by omega)]
    · rw [List.take_of_length_le (by omega)]
      exact Ev.now _
  | d + 1, j, hd, hj => by
    have hlt : j < x.length := by omega
    have hm : rd x (j : Int) ∈ x := by
      unfold rd
      rw [Int.toNat_natCast, List.getD_eq_getElem?_getD, List.getElem?_eq_getElem hlt]
      exact List.getElem_mem hlt
    have hr := hx _ hm
    have e : x.take (j + 1) = x.take j ++ [rd x (j : Int)] := by
      rw [List.take_succ_eq_append_getElem hlt]
      unfold rd
      rw [Int.toNat_natCast, List.getD_eq_getElem?_getD, List.getElem?_eq_getElem hlt]
      rfl
    refine Ev.step (fun k => ?_) (starts_loop n x hx hl d (j + 1) (by omega) (by omega))
    rw [fullingref29_Starts.l0, if_pos (by omega), if_pos (by omega), if_pos hr.1, if_pos (by rw [marks_len]; exact hr.2), e, marks_snoc, wrap_succ j (by omega)]
theorem starts_ev (w : List Int) (hw : u32s w) (hl : w.length ≤ 60000) (h : (decR w).2.2 = 0) : Ev (fun k => fullingref29_Starts.f k w) (marks w.length (decR w).2.1) := by
  have hst : ∀ p ∈ (decR w).2.1, (0 : Int) ≤ p ∧ p < (w.length : Int) := by
    intro p hp
    obtain ⟨h1, h2, h3⟩ := decR_ok w hw h
    rw [h3] at hp
    have := starts_range 0 _ h1 p hp
    rw [← h2] at this
    omega
  refine Ev.congr (f := fun k => (fullingref29_DecodeAll.f k w).bind fun bt506 => (fullingref29_Starts.l0 k (List.replicate ((w.length : Int) : Int).toNat false) bt506.2.1 0)) (fun k => ?_) ?_
  · unfold fullingref29_Starts.f
    rw [if_pos (by omega), if_pos (by omega)]
  · refine Ev.bind (rdall_ev w hw (by omega)) ?_
    have := starts_loop w.length (decR w).2.1 hst (by have := (decR_len w).2; omega) _ 0 rfl (by omega)
    rw [Int.toNat_natCast]
    exact this
theorem rstarts_any {A : Option Addr} {n c : Nat} {l : List Int} {w : World} {x1 : List S42} {x2 : List Int} (hm : n ≤ 60000) (hr : decR l = (x1, x2, 0)) (h : SL w A n c l) :
    Calls Tryd.prog 78 #[.slice A n c] w fun e w' => ∃ A' c', e = .returned (.slice A' n c') ∧ n ≤ c' ∧ Kd.C Kd.bool w' A' n (marks n x2) ∧ Below w.heap.size w w' := by
  obtain ⟨hC, hc, rfl, hu, hl⟩ := h
  obtain ⟨k, hk⟩ := (starts_ev l hu hm (by rw [hr])).rounds
  rw [hr] at hk
  refine (fullingref29_Starts.calls k A c l _ w hC hc hk).mono fun e w' ⟨v, he, hR, hb⟩ => ?_
  obtain ⟨A', c', rfl, hc', hC'⟩ := Kd.R_reads hR
  rw [marks_len] at he hc' hC'
  exact ⟨A', c', he, hc', hC', hb⟩
end Go.Proofs.YtcjidibdidijaaaDoor
