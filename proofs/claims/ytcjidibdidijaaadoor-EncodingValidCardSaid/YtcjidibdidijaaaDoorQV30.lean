/- Parts of this proof in one text: ValLa. -/
import Derived.Test.YtcjidibdidijaaaDoorQV27
import Derived.Test.YtcjidibdidijaaaDoorQV29
import Derived.Deep.RegionHeld3
namespace Go.Proofs.YtcjidibdidijaaaDoor
open Go.RowKit Go.Proofs.YtcjidibdidijaaaDoor.PCod Go.Proofs.YtcjidibdidijaaaDoorW.PrintWords Go.Proofs.YtcjidibdidijaaaDoorW.PrintMore Go.Proofs.YtcjidibdidijaaaDoor.DecL
set_option linter.unusedVariables false
set_option linter.unusedSimpArgs false
theorem valid_at {v : Value} {W E P S A : List Int} {w : World} (h : BinAt w v W E P S A) (HT : Aside0 (TabOK w)) : Calls Tryd.prog 46 #[v] w (BoolPost w (validS W E P S A)) := by
  obtain ⟨A0, n0, c0, A1, n1, c1, A2, n2, c2, A3, n3, c3, A4, n4, c4, rfl, h0, h1, h2, h3, h4⟩ := h
  exact valid_any w h0 h1 h2 h3 h4 HT
theorem rvalid_at {v : Value} {W E P S A : List Int} {w : World} (h : BinAt w v W E P S A) (hW : W.length ≤ 60000) : Calls Tryd.prog 47 #[v] w (BoolPost w (validS W E P S A)) := by
  obtain ⟨A0, n0, c0, A1, n1, c1, A2, n2, c2, A3, n3, c3, A4, n4, c4, rfl, h0, h1, h2, h3, h4⟩ := h
  exact rvalid_any w (by rw [← h0.len]; exact hW) h0 h1 h2 h3 h4
theorem valid_atb {v : Value} {W E P S A : List Int} {w : World} {b : Bool} (hb : Hid (validS W E P S A = b)) (h : BinAt w v W E P S A) (HT : Aside0 (TabOK w)) : Calls Tryd.prog 46 #[v] w fun e w' => e = .returned (.bool b) ∧ Below w.heap.size w w' :=
  (valid_at h HT).mono fun e w' ⟨he, hw⟩ => ⟨by rw [he, hb.out], hw⟩
theorem rvalid_atb {v : Value} {W E P S A : List Int} {w : World} {b : Bool} (hb : Hid (validS W E P S A = b)) (h : BinAt w v W E P S A) (hW : W.length ≤ 60000) : Calls Tryd.prog 47 #[v] w fun e w' => e = .returned (.bool b) ∧ Below w.heap.size w w' :=
  (rvalid_at h hW).mono fun e w' ⟨he, hw⟩ => ⟨by rw [he, hb.out], hw⟩
set_option maxRecDepth 100000 in
set_option maxHeartbeats 8000000 in
theorem law_valid {A0 A1 A2 A3 A4 AL : Option Addr} {n0 n1 n2 n3 n4 nl c0 c1 c2 c3 c4 cl : Nat} {l0 l1 l2 l3 l4 l : List Int} (how at_ by_ : Int) (w : World) (h0C : Kd.C (Kd.int .u32) w A0 n0 l0) (h0c : n0 ≤ c0) (h0u : u32s l0) (h1 : SI w A1 n1 c1 l1) (h2 : SI w A2 n2 c2 l2) (h3 : SI w A3 n3 c3 l3) (h4 : SI w A4 n4 c4 l4)
    (hl : SI w AL nl cl l) (hwf : ∀ x ∈ l, (Lit.int .i64 x).wf = true) (HT : Aside0 (TabOK w)) :
    Calls Tryd.prog 11 #[.agg #[.slice A0 n0 c0, .slice A1 n1 c1, .slice A2 n2 c2, .slice A3 n3 c3, .slice A4 n4 c4], .slice AL nl cl, .int .i64 how, .int .i64 at_, .int .i64 by_] w (BoolPost w true) := by
  have hR : n0 ≤ 100 → BinAt w (.agg #[.slice A0 n0 c0, .slice A1 n1 c1, .slice A2 n2 c2, .slice A3 n3 c3, .slice A4 n4 c4]) l0 l1 l2 l3 l4 := fun h => ⟨_, _, _, _, _, _, _, _, _, _, _, _, _, _, _, rfl, ⟨h0C, h0c, Kd.C_len h0C, h0u, by omega⟩, h1, h2, h3, h4⟩
  have hn0 := Kd.C_max h0C
  have hn1 := h1.sm
  have hlen := Kd.C_len h0C
  have HRn := Aside0.mk hR
  have HL := Aside0.mk hl
  have HF := Aside0.mk hwf
  have HLN := Lib.hid hlen
  clear h0C h0c h0u h1 h2 h3 h4 hl hwf hR hlen
  go_enter Tryd.func11, Tryd.ntmps11
  go_wp2_with fail
  have B5 := blk_new w (.cells #[.slice A0 n0 c0, .slice A1 n1 c1, .slice A2 n2 c2, .slice A3 n3 c3, .slice A4 n4 c4] 25 (0, 0))
  have HBa : Below w.heap.size w (w.alloc (.cells #[.slice A0 n0 c0, .slice A1 n1 c1, .slice A2 n2 c2, .slice A3 n3 c3, .slice A4 n4 c4] 25 (0, 0))) := below_alloc (Below.refl _ _) _
  generalize hW : w.alloc (.cells #[.slice A0 n0 c0, .slice A1 n1 c1, .slice A2 n2 c2, .slice A3 n3 c3, .slice A4 n4 c4] 25 (0, 0)) = W at *
  clear hW
  generalize w.heap.size = g5 at B5 ⊢
  refine (bin_any (HL.out.below HBa) HF.out).mono ?_
  rintro e wa ⟨v, rfl, hb, hba⟩
  have hV := hb
  obtain ⟨X0, m0, d0, X1, m1, d1, X2, m2, d2, X3, m3, d3, X4, m4, d4, rfl, -, -, -, -, -⟩ := hb
  replace B5 := Aside0.mk (blk_below B5 hba)
  have HB := Aside0.mk (below_step HBa hba)
  have HV := Aside0.mk hV
  clear hV HBa hba
  have b0 := (blk_cell B5.out 0).trans rfl
  have b1 := (blk_cell B5.out 1).trans rfl
  have h5l := blk_lt B5.out
  have hne : g5 ≠ wa.heap.size := by omega
  by_cases q0 : 100 < n0
  · have t0 : decide ((100 : Int) < (n0 : Int)) = true := decide_eq_true (by omega)
    go_wp2_with fail
    generalize hWx : wa.alloc _ = wx
    have HBx : Below w.heap.size w wx := by rw [← hWx]; exact below_alloc HB.out _
    replace HBx := Aside0.mk HBx
    clear hWx
    refine (exa_calls true _ rfl (TabOK.aside HT.out HBx.out)).mono ?_
    rintro e we ⟨rfl, hbx⟩
    replace HBx := Aside0.mk (below_step HBx.out hbx)
    clear hbx
    go_wp2_with fail
    go_ret
    exact ⟨rfl, HBx.out⟩
  · have t0 : decide ((100 : Int) < (n0 : Int)) = false := decide_eq_false (by omega)
    by_cases q1 : 20 < n1
    · have t1 : decide ((20 : Int) < (n1 : Int)) = true := decide_eq_true (by omega)
      go_wp2_with fail
      generalize hWx : wa.alloc _ = wx
      have HBx : Below w.heap.size w wx := by rw [← hWx]; exact below_alloc HB.out _
      replace HBx := Aside0.mk HBx
      clear hWx
      refine (exa_calls true _ rfl (TabOK.aside HT.out HBx.out)).mono ?_
      rintro e we ⟨rfl, hbx⟩
      replace HBx := Aside0.mk (below_step HBx.out hbx)
      clear hbx
      go_wp2_with fail
      go_ret
      exact ⟨rfl, HBx.out⟩
    · have t1 : decide ((20 : Int) < (n1 : Int)) = false := decide_eq_false (by omega)
      go_wp2_with fail
      have B11 := blk_new wa (.cells #[.slice X0 m0 d0, .slice X1 m1 d1, .slice X2 m2 d2, .slice X3 m3 d3, .slice X4 m4 d4] 25 (0, 0))
      have HBx : Below wa.heap.size wa (wa.alloc (.cells #[.slice X0 m0 d0, .slice X1 m1 d1, .slice X2 m2 d2, .slice X3 m3 d3, .slice X4 m4 d4] 25 (0, 0))) := below_alloc (Below.refl _ _) _
      generalize hWx : wa.alloc _ = wx at B11 HBx ⊢
      replace B5 := Aside0.mk (blk_below B5.out HBx)
      replace B11 := Aside0.mk B11
      replace HV := Aside0.mk (HV.out.below HBx)
      replace HB := Aside0.mk (below_step HB.out HBx)
      clear hWx HBx b0 b1 h5l hne
      generalize wa.heap.size = g11 at B11 ⊢
      have b0 := (blk_cell B5.out 0).trans rfl
      have b1 := (blk_cell B5.out 1).trans rfl
      have b2 := (blk_cell B5.out 2).trans rfl
      have b3 := (blk_cell B5.out 3).trans rfl
      have b4 := (blk_cell B5.out 4).trans rfl
      have x0 := (blk_cell B11.out 0).trans rfl
      have x1 := (blk_cell B11.out 1).trans rfl
      have x2 := (blk_cell B11.out 2).trans rfl
      have x3 := (blk_cell B11.out 3).trans rfl
      have x4 := (blk_cell B11.out 4).trans rfl
      have hBr := Below.refl wx.heap.size wx
      have hBr2 := below_drew (Below.refl wx.heap.size wx)
      go_region_held3 (fun w' => Below wx.heap.size wx w' ∧ w'.cell? ⟨g5, 0, none⟩ = some (.slice A0 n0 c0) ∧ w'.cell? ⟨g5, 1, none⟩ = some (.slice A1 n1 c1) ∧ w'.cell? ⟨g5, 2, none⟩ = some (.slice A2 n2 c2) ∧ w'.cell? ⟨g5, 3, none⟩ = some (.slice A3 n3 c3) ∧ w'.cell? ⟨g5, 4, none⟩ = some (.slice A4 n4 c4) ∧ w'.cell? ⟨g11, 0, none⟩ = some (.slice X0 m0 d0) ∧ w'.cell? ⟨g11, 1, none⟩ = some (.slice X1 m1 d1) ∧ w'.cell? ⟨g11, 2, none⟩ = some (.slice X2 m2 d2) ∧ w'.cell? ⟨g11, 3, none⟩ = some (.slice X3 m3 d3) ∧ w'.cell? ⟨g11, 4, none⟩ = some (.slice X4 m4 d4))
        (first | assumption | ((try dsimp only); (repeat' apply And.intro) <;> first | assumption | exact below_alloc hbb _ | exact below_drew hbb | exact below_drew (by assumption) | exact below_alloc (by assumption) _ | exact (blk_cell (blk_below B5.out hbb) _).trans rfl | exact (blk_cell (blk_below B11.out hbb) _).trans rfl | exact (blk_cell (blk_alloc (blk_below B5.out hbb) _) _).trans rfl | exact (blk_cell (blk_alloc (blk_below B11.out hbb) _) _).trans rfl))
        (first | (go_at_call 45; refine (mutate_any (HV.out.below ‹Below wx.heap.size wx _›) (by have := binW_len l HF.out; omega) (show 1 ≤ 2 by omega) rfl how at_ by_).mono ?_; rintro e w' ⟨v, Wm, Em, Pm, Sm, Am, rfl, hbm, hWm, hbb⟩; have HBM := Aside0.mk (And.intro hbm hWm); obtain ⟨Y0, p0, e0, Y1, p1, e1, Y2, p2, e2, Y3, p3, e3, Y4, p4, e4, hve, -, -, -, -, -⟩ := hbm; subst hve; replace hbb := below_step ‹Below wx.heap.size wx _› hbb))
      go_wp2_with fail
      clear b0 b1 b2 b3 b4 x0 x1 x2 x3 x4 hBr hBr2 t0 t1
      have BQ := blk_new w' (.cells #[.slice A0 n0 c0, .slice A1 n1 c1, .slice A2 n2 c2, .slice A3 n3 c3, .slice A4 n4 c4, .slice X0 m0 d0, .slice X1 m1 d1, .slice X2 m2 d2, .slice X3 m3 d3, .slice X4 m4 d4, .slice Y0 p0 e0, .slice Y1 p1 e1, .slice Y2 p2 e2, .slice Y3 p3 e3, .slice Y4 p4 e4] 25 (0, 0))
      have HBq : Below wx.heap.size wx (w'.alloc (.cells #[.slice A0 n0 c0, .slice A1 n1 c1, .slice A2 n2 c2, .slice A3 n3 c3, .slice A4 n4 c4, .slice X0 m0 d0, .slice X1 m1 d1, .slice X2 m2 d2, .slice X3 m3 d3, .slice X4 m4 d4, .slice Y0 p0 e0, .slice Y1 p1 e1, .slice Y2 p2 e2, .slice Y3 p3 e3, .slice Y4 p4 e4] 25 (0, 0))) := below_alloc hbb _
      have HBw : Below w'.heap.size w' (w'.alloc (.cells #[.slice A0 n0 c0, .slice A1 n1 c1, .slice A2 n2 c2, .slice A3 n3 c3, .slice A4 n4 c4, .slice X0 m0 d0, .slice X1 m1 d1, .slice X2 m2 d2, .slice X3 m3 d3, .slice X4 m4 d4, .slice Y0 p0 e0, .slice Y1 p1 e1, .slice Y2 p2 e2, .slice Y3 p3 e3, .slice Y4 p4 e4] 25 (0, 0))) := below_alloc (Below.refl _ _) _
      generalize hwq : w'.alloc _ = wq at BQ HBq HBw ⊢
      obtain ⟨hbm, hWm⟩ := HBM.out
      have HVq := Aside0.mk (HV.out.below HBq)
      have HBM' := Aside0.mk (hbm.below HBw)
      have hWm' := Aside0.mk hWm
      replace HB := Aside0.mk (below_step HB.out HBq)
      have HRq := Aside0.mk ((HRn.out (by omega)).below HB.out)
      have HTq := TabOK.aside HT.out HB.out
      replace B11 := Aside0.mk (blk_below B11.out HBq)
      have hR0 : Aside0 (l0.length ≤ 60000) := ⟨by have := HLN.out; omega⟩
      clear hwq HBq HBw hbm hWm HBM HV HRn HT hbb B5 hn0 hn1 q0 q1
      generalize w'.heap.size = gq at BQ ⊢
      have row : Aside0 (∀ i : Nat, i < 3 → ∃ Z0 k0 f0 Z1 k1 f1 Z2 k2 f2 Z3 k3 f3 Z4 k4 f4 Wl El Pl Sl Al, wq.cell? ⟨gq, i * 5, none⟩ = some (.slice Z0 k0 f0) ∧ wq.cell? ⟨gq, i * 5 + 1, none⟩ = some (.slice Z1 k1 f1) ∧ wq.cell? ⟨gq, i * 5 + 2, none⟩ = some (.slice Z2 k2 f2) ∧ wq.cell? ⟨gq, i * 5 + 3, none⟩ = some (.slice Z3 k3 f3) ∧ wq.cell? ⟨gq, i * 5 + 4, none⟩ = some (.slice Z4 k4 f4) ∧
          BinAt wq (.agg #[.slice Z0 k0 f0, .slice Z1 k1 f1, .slice Z2 k2 f2, .slice Z3 k3 f3, .slice Z4 k4 f4]) Wl El Pl Sl Al ∧ Wl.length ≤ 60000) := by
        refine ⟨fun i hi => ?_⟩
        rcases (by omega : i = 0 ∨ i = 1 ∨ i = 2) with rfl | rfl | rfl
        · exact ⟨_, _, _, _, _, _, _, _, _, _, _, _, _, _, _, _, _, _, _, _, (blk_cell BQ 0).trans rfl, (blk_cell BQ 1).trans rfl, (blk_cell BQ 2).trans rfl, (blk_cell BQ 3).trans rfl, (blk_cell BQ 4).trans rfl, HRq.out, hR0.out⟩
        · exact ⟨_, _, _, _, _, _, _, _, _, _, _, _, _, _, _, _, _, _, _, _, (blk_cell BQ 5).trans rfl, (blk_cell BQ 6).trans rfl, (blk_cell BQ 7).trans rfl, (blk_cell BQ 8).trans rfl, (blk_cell BQ 9).trans rfl, HVq.out, by have := binW_len l HF.out; omega⟩
        · exact ⟨_, _, _, _, _, _, _, _, _, _, _, _, _, _, _, _, _, _, _, _, (blk_cell BQ 10).trans rfl, (blk_cell BQ 11).trans rfl, (blk_cell BQ 12).trans rfl, (blk_cell BQ 13).trans rfl, (blk_cell BQ 14).trans rfl, HBM'.out, hWm'.out⟩
      clear BQ
      go_loopg [36] 3 (fun kq v36 wr => ∃ i : Nat, v36 = .int .i64 (i : Int) ∧ Aside0 (i + kq = 3) ∧ Aside0 (Below wq.heap.size wq wr))
      case atStart => exact ⟨0, rfl, ⟨by omega⟩, ⟨Below.refl _ _⟩⟩
      case round =>
        obtain ⟨i, rfl, Hi, HS⟩ := hrel
        by_cases hi : i < 3
        · have ti : decide ((i : Int) < 3) = true := decide_eq_true (by omega)
          cases gk with
          | zero => have := Hi.out; omega
          | succ k1_ =>
            obtain ⟨Z0, k0, f0, Z1, k1, f1, Z2, k2, f2, Z3, k3, f3, Z4, k4, f4, Wl, El, Pl, Sl, Al, y0, y1, y2, y3, y4, hbz, hwl⟩ := row.out i hi
            replace y0 := pw_cell_below HS.out y0
            replace y1 := pw_cell_below HS.out y1
            replace y2 := pw_cell_below HS.out y2
            replace y3 := pw_cell_below HS.out y3
            replace y4 := pw_cell_below HS.out y4
            go_wp2_with fail
            have B13 := blk_new wr (.cells #[.slice Z0 k0 f0, .slice Z1 k1 f1, .slice Z2 k2 f2, .slice Z3 k3 f3, .slice Z4 k4 f4] 25 (0, 0))
            have HSy := below_alloc HS.out (.cells #[.slice Z0 k0 f0, .slice Z1 k1 f1, .slice Z2 k2 f2, .slice Z3 k3 f3, .slice Z4 k4 f4] 25 (0, 0))
            generalize hwy : wr.alloc _ = wy at B13 HSy ⊢
            clear hwy y0 y1 y2 y3 y4
            generalize wr.heap.size = g13 at B13 ⊢
            replace B13 := Aside0.mk B13
            have HZ := Aside0.mk (hbz.below HSy)
            have HTy := TabOK.aside HTq.out HSy
            replace HSy := Aside0.mk HSy
            replace hwl := Aside0.mk hwl
            clear hbz
            obtain ⟨b, hb⟩ : ∃ b, validS Wl El Pl Sl Al = b := ⟨_, rfl⟩
            have HBB := Lib.hid hb
            clear hb
            have y0 := (blk_cell B13.out 0).trans rfl
            have y1 := (blk_cell B13.out 1).trans rfl
            have y2 := (blk_cell B13.out 2).trans rfl
            have y3 := (blk_cell B13.out 3).trans rfl
            have y4 := (blk_cell B13.out 4).trans rfl
            have hBr := Below.refl wy.heap.size wy
            have hBr2 := below_drew (Below.refl wy.heap.size wy)
            go_region_held3 (fun w' => Below wy.heap.size wy w' ∧ w'.cell? ⟨g13, 0, none⟩ = some (.slice Z0 k0 f0) ∧ w'.cell? ⟨g13, 1, none⟩ = some (.slice Z1 k1 f1) ∧ w'.cell? ⟨g13, 2, none⟩ = some (.slice Z2 k2 f2) ∧ w'.cell? ⟨g13, 3, none⟩ = some (.slice Z3 k3 f3) ∧ w'.cell? ⟨g13, 4, none⟩ = some (.slice Z4 k4 f4))
              (first | assumption | ((try dsimp only); (repeat' apply And.intro) <;> first | assumption | exact (blk_cell (blk_below B13.out (by assumption)) _).trans rfl))
              (first | (go_at_call 46; refine (valid_atb HBB (HZ.out.below (by assumption)) (TabOK.aside HTy.out (by assumption))).mono ?_; rintro e w' ⟨rfl, hbb⟩; have hbc := below_step (by assumption) hbb) | (go_at_call 47; refine (rvalid_atb HBB (HZ.out.below (by assumption)) hwl.out).mono ?_; rintro e w' ⟨rfl, hbb⟩; have hbc := below_step (by assumption) hbb))
            all_goals
              have tb : (b != b) = false := bne_self_eq_false b
              have HF2 := Aside0.mk (below_step HSy.out hbc)
              clear y0 y1 y2 y3 y4 hBr hBr2 hbc hbb
              go_wp2_with fail
              go_roundg k1_
              case measure => omega
              case rel => exact ⟨i + 1, by go_num, ⟨by have := Hi.out; omega⟩, HF2⟩
        · have hie : i = 3 := by have := Hi.out; omega
          subst hie
          have ti : decide ((3 : Int) < 3) = false := by decide
          have x0 := (blk_cell (blk_below B11.out HS.out) 0).trans rfl
          have x1 := (blk_cell (blk_below B11.out HS.out) 1).trans rfl
          have x2 := (blk_cell (blk_below B11.out HS.out) 2).trans rfl
          have x3 := (blk_cell (blk_below B11.out HS.out) 3).trans rfl
          have x4 := (blk_cell (blk_below B11.out HS.out) 4).trans rfl
          clear hi
          go_wp2_with fail
          refine (valid_atb (b := true) (Lib.hid (bin_valid l HF.out)) (HVq.out.below HS.out) (TabOK.aside HTq.out HS.out)).mono ?_
          rintro e we ⟨rfl, hbe⟩
          replace HS := Aside0.mk (below_step HS.out hbe)
          clear hbe x0 x1 x2 x3 x4 ti
          go_wp2_with fail
          refine (exa_calls true _ rfl (TabOK.aside HTq.out HS.out)).mono ?_
          rintro e wf ⟨rfl, hbe⟩
          replace HS := Aside0.mk (below_step HS.out hbe)
          clear hbe
          go_wp2_with fail
          go_ret
          exact ⟨rfl, below_step HB.out HS.out⟩
end Go.Proofs.YtcjidibdidijaaaDoor
