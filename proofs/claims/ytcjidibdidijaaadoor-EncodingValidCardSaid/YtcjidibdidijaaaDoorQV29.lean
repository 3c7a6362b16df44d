/- Parts of this proof in one text: RVb. -/
import Derived.Test.YtcjidibdidijaaaDoorQV28
import Derived.Test.YtcjidibdidijaaaDoorQV25
import Derived.Deep.QuietTactic
import Derived.BigQuiet
import Derived.Deep.LoopGhost
namespace Go.Proofs.YtcjidibdidijaaaDoor
open Go.RowKit Go.Proofs.YtcjidibdidijaaaDoor.PCod Go.Proofs.YtcjidibdidijaaaDoorW.PrintWords Go.Proofs.YtcjidibdidijaaaDoorW.PrintMore Go.Proofs.YtcjidibdidijaaaDoor.DecL
set_option linter.unusedVariables false
set_option linter.unusedSimpArgs false
set_option maxRecDepth 100000 in
set_option maxHeartbeats 40000000 in
theorem rvalid_any {A0 A1 A2 A3 A4 : Option Addr} {n0 n1 n2 n3 n4 c0 c1 c2 c3 c4 : Nat} {l0 l1 l2 l3 l4 : List Int} (w : World) (hm : n0 ≤ 60000) (h0 : SL w A0 n0 c0 l0) (h1 : SI w A1 n1 c1 l1) (h2 : SI w A2 n2 c2 l2) (h3 : SI w A3 n3 c3 l3) (h4 : SI w A4 n4 c4 l4) :
    Calls Tryd.prog 47 #[.agg #[.slice A0 n0 c0, .slice A1 n1 c1, .slice A2 n2 c2, .slice A3 n3 c3, .slice A4 n4 c4]] w (BoolPost w (validS l0 l1 l2 l3 l4)) := by
  have HL : okLens l0 l1 l2 l3 l4 = lensB n0 n1 n2 n3 n4 := by
    unfold okLens lensB
    rw [h0.len, h1.len, h2.len, h3.len, h4.len]
  obtain ⟨r, hr⟩ : ∃ r, decR l0 = r := ⟨_, rfl⟩
  obtain ⟨x1, x2, x3⟩ := r
  have NOL : Aside0 (lensB n0 n1 n2 n3 n4 = false → validS l0 l1 l2 l3 l4 = false) := ⟨fun hb => validS_no fun h => by
    have := ((validS_iff _ _ _ _ _).1 h).1
    rw [HL, hb] at this
    cases this⟩
  have YESL : Aside0 (lensB n0 n1 n2 n3 n4 = true → okLens l0 l1 l2 l3 l4 = true) := ⟨fun hb => HL.trans hb⟩
  have NOX : Aside0 (x3 ≠ 0 → validS l0 l1 l2 l3 l4 = false) := ⟨fun hb => validS_no fun h => by
    have := ((validS_iff _ _ _ _ _).1 h).2.1
    rw [hr] at this
    exact hb this⟩
  clear HL
  replace hr := Aside0.mk hr
  have H0 := Aside0.mk h0
  have H1 := Aside0.mk h1
  have H2 := Aside0.mk h2
  have H3 := Aside0.mk h3
  have H4 := Aside0.mk h4
  clear h0 h1 h2 h3 h4
  go_enter Tryd.func47, Tryd.ntmps47
  go_wp2_with fail
  have B0 := blk_new w (.cells #[.slice A0 n0 c0, .slice A1 n1 c1, .slice A2 n2 c2, .slice A3 n3 c3, .slice A4 n4 c4] 25 (0, 0))
  have HBa : Below w.heap.size w (w.alloc (.cells #[.slice A0 n0 c0, .slice A1 n1 c1, .slice A2 n2 c2, .slice A3 n3 c3, .slice A4 n4 c4] 25 (0, 0))) := below_alloc (Below.refl _ _) _
  generalize hW : w.alloc (.cells #[.slice A0 n0 c0, .slice A1 n1 c1, .slice A2 n2 c2, .slice A3 n3 c3, .slice A4 n4 c4] 25 (0, 0)) = W at *
  clear hW
  generalize hG : w.heap.size = g0 at B0 ⊢
  have HG := Lib.hid hG
  clear hG
  replace H0 := Aside0.mk (H0.out.below HBa)
  replace H1 := Aside0.mk (H1.out.below HBa)
  replace H2 := Aside0.mk (H2.out.below HBa)
  replace H3 := Aside0.mk (H3.out.below HBa)
  replace H4 := Aside0.mk (H4.out.below HBa)
  have HB := Aside0.mk HBa
  clear HBa
  refine (rdall_anyD hm hr.out H0.out).mono ?_
  rintro e wa ⟨A5, c5, A6, c6, rfl, k1, k2, k3, k4, hba⟩
  have K1 : Aside0 (Kd.C k42 wa A5 x1.length x1 ∧ x1.length ≤ c5 ∧ Kd.C (Kd.int .i64) wa A6 x2.length x2 ∧ x2.length ≤ c6) := ⟨k1, k2, k3, k4⟩
  replace H0 := Aside0.mk (H0.out.below hba)
  replace H1 := Aside0.mk (H1.out.below hba)
  replace H2 := Aside0.mk (H2.out.below hba)
  replace H3 := Aside0.mk (H3.out.below hba)
  replace H4 := Aside0.mk (H4.out.below hba)
  replace B0 := blk_below B0 hba
  replace HB := Aside0.mk (below_step HB.out hba)
  clear k1 k2 k3 k4 hba W
  have b0 : wa.cell? ⟨g0, 0, none⟩ = some (.slice A0 n0 c0) := (blk_cell B0 0).trans rfl
  have b1 : wa.cell? ⟨g0, 1, none⟩ = some (.slice A1 n1 c1) := (blk_cell B0 1).trans rfl
  have b2 : wa.cell? ⟨g0, 2, none⟩ = some (.slice A2 n2 c2) := (blk_cell B0 2).trans rfl
  have b3 : wa.cell? ⟨g0, 3, none⟩ = some (.slice A3 n3 c3) := (blk_cell B0 3).trans rfl
  have b4 : wa.cell? ⟨g0, 4, none⟩ = some (.slice A4 n4 c4) := (blk_cell B0 4).trans rfl
  have hn0 : n0 ≤ 60000 := hm
  have hn1 := H1.out.sm
  have hn2 := H2.out.sm
  have hn3 := H3.out.sm
  have hn4 := H4.out.sm
  have tq2 : decide ((60000 : Int) < (n0 : Int)) = false := decide_eq_false (by omega)
  by_cases q1 : n0 < 1
  · have tq : decide ((n0 : Int) < 1) = true := decide_eq_true (by omega)
    have EE := Lib.hid (NOL.out (by unfold lensB; rw [decide_eq_false (show ¬ 1 ≤ n0 by omega)]; simp))
    go_wp2_with fail
    go_ret
    exact ⟨ret_b EE.out.symm, HB.out⟩
  · have tq1 : decide ((n0 : Int) < 1) = false := decide_eq_false (by omega)
    by_cases qx : x3 ≠ 0
    · have tq : (x3 != 0) = true := bne_iff_ne.2 qx
      have EE := Lib.hid (NOX.out qx)
      clear qx
      go_wp2_with fail
      go_ret
      exact ⟨ret_b EE.out.symm, HB.out⟩
    · obtain rfl : x3 = 0 := Decidable.of_not_not qx
      by_cases q3 : n1 < 1
      · have tq : decide ((n1 : Int) < 1) = true := decide_eq_true (by omega)
        have EE := Lib.hid (NOL.out (by unfold lensB; rw [decide_eq_false (show ¬ 1 ≤ n1 by omega)]; simp))
        go_wp2_with fail
        go_ret
        exact ⟨ret_b EE.out.symm, HB.out⟩
      · have tq3 : decide ((n1 : Int) < 1) = false := decide_eq_false (by omega)
        by_cases q4 : 8 < n1
        · have tq : decide ((8 : Int) < (n1 : Int)) = true := decide_eq_true (by omega)
          have EE := Lib.hid (NOL.out (by unfold lensB; rw [decide_eq_false (show ¬ n1 ≤ 8 by omega)]; simp))
          go_wp2_with fail
          go_ret
          exact ⟨ret_b EE.out.symm, HB.out⟩
        · have tq4 : decide ((8 : Int) < (n1 : Int)) = false := decide_eq_false (by omega)
          by_cases q5 : n2 ≠ n1
          · have tq : ((n2 : Int) != (n1 : Int)) = true := bne_iff_ne.2 (by omega)
            have EE := Lib.hid (NOL.out (by unfold lensB; rw [decide_eq_false (show ¬ n2 = n1 by omega)]; simp))
            clear q5
            go_wp2_with fail
            go_ret
            exact ⟨ret_b EE.out.symm, HB.out⟩
          · have tq5 : ((n2 : Int) != (n1 : Int)) = false := bne_eq_false_iff_eq.2 (by omega)
            by_cases q6 : n3 ≠ n1
            · have tq : ((n3 : Int) != (n1 : Int)) = true := bne_iff_ne.2 (by omega)
              have EE := Lib.hid (NOL.out (by unfold lensB; rw [decide_eq_false (show ¬ n3 = n1 by omega)]; simp))
              clear q6
              go_wp2_with fail
              go_ret
              exact ⟨ret_b EE.out.symm, HB.out⟩
            · have tq6 : ((n3 : Int) != (n1 : Int)) = false := bne_eq_false_iff_eq.2 (by omega)
              by_cases q7 : 4 < n4
              · have tq : decide ((4 : Int) < (n4 : Int)) = true := decide_eq_true (by omega)
                have EE := Lib.hid (NOL.out (by unfold lensB; rw [decide_eq_false (show ¬ n4 ≤ 4 by omega)]; simp))
                go_wp2_with fail
                go_ret
                exact ⟨ret_b EE.out.symm, HB.out⟩
              · have tq7 : decide ((4 : Int) < (n4 : Int)) = false := decide_eq_false (by omega)
                have HLT := Aside0.mk (YESL.out (by
                  unfold lensB
                  rw [decide_eq_true (show 1 ≤ n0 by omega), decide_eq_true (show n0 ≤ 60000 by omega), decide_eq_true (show 1 ≤ n1 by omega), decide_eq_true (show n1 ≤ 8 by omega), decide_eq_true (show n2 = n1 by omega), decide_eq_true (show n3 = n1 by omega), decide_eq_true (show n4 ≤ 4 by omega)]
                  rfl))
                have hok := decR_ok l0 H0.out.u (by rw [hr.out])
                have hne : 0 < x1.length := by have := decR_nonempty l0 H0.out.u (by rw [hr.out]) (by rw [H0.out.len]; omega); rw [hr.out] at this; exact this
                rw [hr.out] at hok
                have hx2 : x2.length = x1.length := by have := congrArg List.length hok.2.2; rw [starts_len] at this; exact this
                have hx60 : x1.length ≤ 60001 := by
                  have h1 : x1.length ≤ l0.length + 1 := by have := (decR_len l0).1; rw [hr.out] at this; exact this
                  rw [H0.out.len] at h1
                  omega
                have HX2 := Lib.hid hx2
                have OK := Aside0.mk hok
                clear hok hx2 NOL YESL NOX
                obtain ⟨ad5, e5, f0, f1, f2, f3, f4⟩ := at_T42 K1.out.1 ((x1.length - 1 : Nat) : Int) (by omega) (by omega)
                subst e5
                rw [Int.toNat_natCast] at f0 f1 f2 f3 f4
                have hla : x1.getLast? = some (rd_T42 x1 ((x1.length - 1 : Nat) : Int)) := by
                  unfold rd_T42
                  rw [List.getLast?_eq_getElem?, Int.toNat_natCast, List.getD_eq_getElem?_getD, List.getElem?_eq_getElem (by omega)]
                  rfl
                have HLA := Lib.hid hla
                clear hla
                generalize rd_T42 x1 ((x1.length - 1 : Nat) : Int) = i0 at *
                go_wp2_with fail
                refine (rcf_any i0 _).mono ?_
                rintro e wb ⟨rfl, hba⟩
                have E0 := Kd.C_below K1.out.1 hba
                have E1 := Kd.C_below K1.out.2.2.1 hba
                replace K1 := Aside0.mk (And.intro E0 (And.intro K1.out.2.1 (And.intro E1 K1.out.2.2.2)))
                clear E0 E1
                replace H0 := Aside0.mk (H0.out.below hba)
                replace H1 := Aside0.mk (H1.out.below hba)
                replace H2 := Aside0.mk (H2.out.below hba)
                replace H3 := Aside0.mk (H3.out.below hba)
                replace H4 := Aside0.mk (H4.out.below hba)
                replace B0 := blk_below B0 hba
                replace HB := Aside0.mk (below_step HB.out hba)
                clear hba f0 f1 f2 f3 f4 b0 b1 b2 b3 b4 wa
                cases hcf : cfOn i0 with
                | true =>
                  have e : validS l0 l1 l2 l3 l4 = false := validS_no fun h => by
                    have := ((validS_iff _ _ _ _ _).1 h).2.2.1
                    rw [hr.out] at this
                    rw [HLA.out] at this
                    rw [Option.any_some, hcf] at this
                    cases this
                  have EE := Lib.hid e
                  clear e hcf
                  go_wp2_with fail
                  go_ret
                  exact ⟨ret_b EE.out.symm, HB.out⟩
                | false =>
                  have HCF := Lib.hid hcf
                  clear hcf
                  have b0 : wb.cell? ⟨g0, 0, none⟩ = some (.slice A0 n0 c0) := (blk_cell B0 0).trans rfl
                  go_wp2_with fail
                  refine (rstarts_any hm hr.out H0.out).mono ?_
                  rintro e wc ⟨A9, c9, rfl, h9, k9, hba⟩
                  have K9 := Aside0.mk (And.intro h9 k9)
                  have E0 := Kd.C_below K1.out.1 hba
                  have E1 := Kd.C_below K1.out.2.2.1 hba
                  replace K1 := Aside0.mk (And.intro E0 (And.intro K1.out.2.1 (And.intro E1 K1.out.2.2.2)))
                  clear E0 E1
                  replace H0 := Aside0.mk (H0.out.below hba)
                  replace H1 := Aside0.mk (H1.out.below hba)
                  replace H2 := Aside0.mk (H2.out.below hba)
                  replace H3 := Aside0.mk (H3.out.below hba)
                  replace H4 := Aside0.mk (H4.out.below hba)
                  replace B0 := blk_below B0 hba
                  replace HB := Aside0.mk (below_step HB.out hba)
                  clear hba h9 k9 b0 wb
                  have HVI : Aside0 (∀ i, i < x1.length → vI (rd_T42 x1 (i : Nat)) = true ∧ x1[i]? = some (rd_T42 x1 (i : Nat))) := by
                    refine ⟨fun i hi => ?_⟩
                    have e : rd_T42 x1 (i : Nat) = x1[i] := by
                      unfold rd_T42
                      rw [Int.toNat_natCast, List.getD_eq_getElem?_getD, List.getElem?_eq_getElem hi]
                      rfl
                    rw [e]
                    exact ⟨List.all_eq_true.1 OK.out.1 _ (List.getElem_mem hi), List.getElem?_eq_getElem hi⟩
                  have HBS : Aside0 (∀ n, beginB (marks n0 x2) n = isStart l0 n) := by
                    refine ⟨fun n => ?_⟩
                    have := begin_isStart l0 H0.out.u (by rw [hr.out]) n
                    rw [hr.out, H0.out.len] at this
                    exact this
                  have HN := Aside0.mk (And.intro (show n2 = n1 by omega) (show n3 = n1 by omega))
                  clear q1 qx q3 q4 q5 q6 q7
                  clear tq1 tq3 tq4 tq5 tq6 tq7 tq2
                  replace B0 := Aside0.mk B0
                  obtain ⟨wz, hwz⟩ : ∃ wz, wz = wc := ⟨_, rfl⟩
                  subst hwz
                  go_wp2_with fail
                  go_loopg [10] n1 (fun kq v10 wr => ∃ i : Nat, v10 = .int .i64 (i : Int) ∧ Aside0 (i + kq = n1) ∧ Aside0 (∀ j : Nat, j < i → okFun l0 (rd l1 j) (rd l2 j) (rd l3 j) = true) ∧ Aside0 (Below wz.heap.size wz wr))
                  case atStart => exact ⟨0, rfl, ⟨by omega⟩, ⟨fun j hj => absurd hj (by omega)⟩, ⟨Below.refl _ _⟩⟩
                  case round =>
                    obtain ⟨i, rfl, Hi, Hall, HR⟩ := hrel
                    by_cases hi : i < n1
                    · have ti : decide (i < n1) = true := decide_eq_true hi
                      cases gk with
                      | zero => have := Hi.out; omega
                      | succ k1 =>
                        have hq2 : n2 = n1 := HN.out.1
                        have hq3 : n3 = n1 := HN.out.2
                        obtain ⟨ad1, e1, hx1⟩ := Kd.at_int (Kd.C_below H1.out.C HR.out) (i : Int) (by omega) (by omega)
                        obtain ⟨ad2, e2, hx2⟩ := Kd.at_int (Kd.C_below H2.out.C HR.out) (i : Int) (by omega) (by omega)
                        obtain ⟨ad3, e3, hx3⟩ := Kd.at_int (Kd.C_below H3.out.C HR.out) (i : Int) (by omega) (by omega)
                        subst e1 e2 e3
                        rw [Int.toNat_natCast] at hx1 hx2 hx3
                        have hi2 : i < n2 := by omega
                        have hi3 : i < n3 := by omega
                        have b1 : wr.cell? ⟨g0, 1, none⟩ = some (.slice (some ad1) n1 c1) := (blk_cell (blk_below B0.out HR.out) 1).trans rfl
                        have b2 : wr.cell? ⟨g0, 2, none⟩ = some (.slice (some ad2) n2 c2) := (blk_cell (blk_below B0.out HR.out) 2).trans rfl
                        have b3 : wr.cell? ⟨g0, 3, none⟩ = some (.slice (some ad3) n3 c3) := (blk_cell (blk_below B0.out HR.out) 3).trans rfl
                        have okE : okFun l0 (rd l1 (i : Nat)) (rd l2 (i : Nat)) (rd l3 (i : Nat)) = (isStart l0 (rd l1 (i : Nat)) && (decide (0 ≤ rd l2 (i : Nat)) && decide (rd l2 (i : Nat) ≤ 6)) && (decide (0 ≤ rd l3 (i : Nat)) && decide (rd l3 (i : Nat) ≤ 3000))) := by
                          unfold okFun
                          simp only [Bool.and_assoc]
                        have NO : Aside0 (okFun l0 (rd l1 (i : Nat)) (rd l2 (i : Nat)) (rd l3 (i : Nat)) = false → validS l0 l1 l2 l3 l4 = false) := by
                          refine ⟨fun hno => validS_no fun h => ?_⟩
                          have := ((validS_iff _ _ _ _ _).1 h).2.2.2.1 i (by rw [H1.out.len]; exact hi)
                          rw [hno] at this
                          cases this
                        have YES : Aside0 (okFun l0 (rd l1 (i : Nat)) (rd l2 (i : Nat)) (rd l3 (i : Nat)) = true → ∀ j : Nat, j < i + 1 → okFun l0 (rd l1 j) (rd l2 j) (rd l3 j) = true) := by
                          refine ⟨fun hy j hj => ?_⟩
                          by_cases e : j = i
                          · rw [e]; exact hy
                          · exact Hall.out j (by omega)
                        generalize okFun l0 (rd l1 (i : Nat)) (rd l2 (i : Nat)) (rd l3 (i : Nat)) = ok at NO YES okE
                        generalize rd l1 (i : Nat) = E at *
                        generalize rd l2 (i : Nat) = Q at *
                        generalize rd l3 (i : Nat) = S at *
                        have hbs := HBS.out E
                        unfold beginB at hbs
                        rw [marks_len] at hbs
                        rw [← hbs] at okE
                        clear hbs hq2 hq3
                        have OKE := Lib.hid okE
                        clear okE
                        by_cases p1 : E < 0
                        · have tq : decide (E < 0) = true := decide_eq_true p1
                          have EE := Lib.hid (NO.out (by rw [OKE.out]; rw [decide_eq_false (show ¬ 0 ≤ E by omega)]; simp))
                          clear NO YES
                          go_wp2_with fail
                          go_ret
                          exact ⟨ret_b EE.out.symm, below_step HB.out HR.out⟩
                        · have tp1 : decide (E < 0) = false := decide_eq_false p1
                          by_cases p2 : (n0 : Int) ≤ E
                          · have tq : decide ((n0 : Int) ≤ E) = true := decide_eq_true p2
                            have EE := Lib.hid (NO.out (by rw [OKE.out]; rw [decide_eq_false (show ¬ E < (n0 : Int) by omega)]; simp))
                            clear NO YES
                            go_wp2_with fail
                            go_ret
                            exact ⟨ret_b EE.out.symm, below_step HB.out HR.out⟩
                          · have tp2 : decide ((n0 : Int) ≤ E) = false := decide_eq_false p2
                            obtain ⟨ad9, e9, hx9⟩ := Kd.at_bool (Kd.C_below K9.out.2 HR.out) E (by omega) (by omega)
                            cases e9
                            replace hx9 : wr.cell? (ad9.add E.toNat) = some (.bool ((marks n0 x2).getD E.toNat false)) := hx9
                            obtain ⟨v9, hv9⟩ : ∃ v, (marks n0 x2).getD E.toNat false = v := ⟨_, rfl⟩
                            rw [hv9] at hx9
                            have HV := Lib.hid hv9
                            clear hv9
                            have hE0 : 0 ≤ E := by omega
                            have hE1 : E < (n0 : Int) := by omega
                            cases v9 with
                            | false =>
                              have EE := Lib.hid (NO.out (by rw [OKE.out]; rw [HV.out]; simp))
                              clear NO YES
                              go_wp2_with fail
                              go_ret
                              exact ⟨ret_b EE.out.symm, below_step HB.out HR.out⟩
                            | true =>
                              by_cases p4 : Q < 0
                              · have tq : decide (Q < 0) = true := decide_eq_true p4
                                have EE := Lib.hid (NO.out (by rw [OKE.out]; rw [decide_eq_false (show ¬ 0 ≤ Q by omega)]; simp))
                                clear NO YES
                                go_wp2_with fail
                                go_ret
                                exact ⟨ret_b EE.out.symm, below_step HB.out HR.out⟩
                              · have tp4 : decide (Q < 0) = false := decide_eq_false p4
                                by_cases p5 : 6 < Q
                                · have tq : decide (6 < Q) = true := decide_eq_true p5
                                  have EE := Lib.hid (NO.out (by rw [OKE.out]; rw [decide_eq_false (show ¬ Q ≤ 6 by omega)]; simp))
                                  clear NO YES
                                  go_wp2_with fail
                                  go_ret
                                  exact ⟨ret_b EE.out.symm, below_step HB.out HR.out⟩
                                · have tp5 : decide (6 < Q) = false := decide_eq_false p5
                                  by_cases p6 : S < 0
                                  · have tq : decide (S < 0) = true := decide_eq_true p6
                                    have EE := Lib.hid (NO.out (by rw [OKE.out]; rw [decide_eq_false (show ¬ 0 ≤ S by omega)]; simp))
                                    clear NO YES
                                    go_wp2_with fail
                                    go_ret
                                    exact ⟨ret_b EE.out.symm, below_step HB.out HR.out⟩
                                  · have tp6 : decide (S < 0) = false := decide_eq_false p6
                                    by_cases p7 : 3000 < S
                                    · have tq : decide (3000 < S) = true := decide_eq_true p7
                                      have EE := Lib.hid (NO.out (by rw [OKE.out]; rw [decide_eq_false (show ¬ S ≤ 3000 by omega)]; simp))
                                      clear NO YES
                                      go_wp2_with fail
                                      go_ret
                                      exact ⟨ret_b EE.out.symm, below_step HB.out HR.out⟩
                                    · have tp7 : decide (3000 < S) = false := decide_eq_false p7
                                      have YY := Aside0.mk (YES.out (by
                                        rw [OKE.out, decide_eq_true (show 0 ≤ E by omega), decide_eq_true (show E < (n0 : Int) by omega), HV.out, decide_eq_true (show 0 ≤ Q by omega), decide_eq_true (show Q ≤ 6 by omega), decide_eq_true (show 0 ≤ S by omega), decide_eq_true (show S ≤ 3000 by omega)]
                                        rfl))
                                      clear NO YES
                                      go_wp2_with fail
                                      go_roundg k1
                                      case measure => omega
                                      case rel => exact ⟨i + 1, by go_num, ⟨by have := Hi.out; omega⟩, YY, HR⟩
                    · have hie : n1 = i := by have := Hi.out; omega
                      subst hie
                      have ti : decide (n1 < n1) = false := decide_eq_false hi
                      have b4 : wr.cell? ⟨g0, 4, none⟩ = some (.slice A4 n4 c4) := (blk_cell (blk_below B0.out HR.out) 4).trans rfl
                      clear hi
                      go_wp2_with fail
                      clear ti b4
                      go_loopg [11] n4 (fun kq v11 wr => ∃ i : Nat, v11 = .int .i64 (i : Int) ∧ Aside0 (i + kq = n4) ∧ Aside0 (∀ j : Nat, j < i → 1 ≤ rd l4 j ∧ rd l4 j ≤ 16) ∧ Aside0 (Below wz.heap.size wz wr))
                      case atStart => exact ⟨0, rfl, ⟨by omega⟩, ⟨fun j hj => absurd hj (by omega)⟩, HR⟩
                      case round =>
                        clear HR
                        obtain ⟨i, rfl, Hi4, Hall4, HR⟩ := hrel
                        have b4 : wr.cell? ⟨g0, 4, none⟩ = some (.slice A4 n4 c4) := (blk_cell (blk_below B0.out HR.out) 4).trans rfl
                        by_cases hi : i < n4
                        · have ti : decide (i < n4) = true := decide_eq_true hi
                          cases gk with
                          | zero => have := Hi4.out; omega
                          | succ k1 =>
                            obtain ⟨ad1, e1, hx1⟩ := Kd.at_int (Kd.C_below H4.out.C HR.out) (i : Int) (by omega) (by omega)
                            subst e1
                            rw [Int.toNat_natCast] at hx1
                            have NO : Aside0 ((decide (1 ≤ rd l4 (i : Nat)) && decide (rd l4 (i : Nat) ≤ 16)) = false → validS l0 l1 l2 l3 l4 = false) := by
                              refine ⟨fun hno => validS_no fun h => ?_⟩
                              have := ((validS_iff _ _ _ _ _).1 h).2.2.2.2.1 i (by rw [H4.out.len]; exact hi)
                              rw [decide_eq_true this.1, decide_eq_true this.2] at hno
                              cases hno
                            have YES : Aside0 (1 ≤ rd l4 (i : Nat) → rd l4 (i : Nat) ≤ 16 → ∀ j : Nat, j < i + 1 → 1 ≤ rd l4 j ∧ rd l4 j ≤ 16) := by
                              refine ⟨fun hy hy2 j hj => ?_⟩
                              by_cases e : j = i
                              · rw [e]; exact ⟨hy, hy2⟩
                              · exact Hall4.out j (by omega)
                            generalize rd l4 (i : Nat) = E at *
                            by_cases p1 : E < 1
                            · have tq : decide (E < 1) = true := decide_eq_true p1
                              have EE := Lib.hid (NO.out (by rw [decide_eq_false (show ¬ 1 ≤ E by omega)]; rfl))
                              clear NO YES
                              go_wp2_with fail
                              go_ret
                              exact ⟨ret_b EE.out.symm, below_step HB.out HR.out⟩
                            · have tp1 : decide (E < 1) = false := decide_eq_false p1
                              by_cases p2 : 16 < E
                              · have tq : decide (16 < E) = true := decide_eq_true p2
                                have EE := Lib.hid (NO.out (by rw [decide_eq_false (show ¬ E ≤ 16 by omega)]; simp))
                                clear NO YES
                                go_wp2_with fail
                                go_ret
                                exact ⟨ret_b EE.out.symm, below_step HB.out HR.out⟩
                              · have tp2 : decide (16 < E) = false := decide_eq_false p2
                                have YY := Aside0.mk (YES.out (by omega) (by omega))
                                clear NO YES
                                go_wp2_with fail
                                go_roundg k1
                                case measure => omega
                                case rel => exact ⟨i + 1, by go_num, ⟨by have := Hi4.out; omega⟩, YY, HR⟩
                        · have hie : n4 = i := by have := Hi4.out; omega
                          subst hie
                          have ti : decide (n4 < n4) = false := decide_eq_false hi
                          clear hi
                          go_wp2_with fail
                          clear ti b4 Hi Hi4
                          go_loopg [12] x1.length (fun kq v12 wr => ∃ i : Nat, v12 = .int .i64 (i : Int) ∧ Aside0 (i + kq = x1.length) ∧ Aside0 (∀ j : Nat, j < i → okIns l0 l2 l4.length (rd x2 (j : Nat)) (rd_T42 x1 (j : Nat)) = true) ∧ Aside0 (Below wz.heap.size wz wr))
                          case atStart => exact ⟨0, rfl, ⟨by omega⟩, ⟨fun j hj => absurd hj (by omega)⟩, HR⟩
                          case round =>
                            clear HR
                            obtain ⟨i, rfl, Hi5, Hall5, HR⟩ := hrel
                            by_cases hi : i < x1.length
                            · have ti : decide (i < x1.length) = true := decide_eq_true hi
                              cases gk with
                              | zero => have := Hi5.out; omega
                              | succ k1 =>
                                rename_i z0 z1 z2 z3 z4 z5 z6 z7 z8 z9 z10 z11 z12 z13 z14 z15 z16 z17 z18 z19 z20 z21 z22 z23 z24
                                (try clear z18); (try clear z17); (try clear z16); (try clear z15); (try clear z14); (try clear z13); (try clear z12); (try clear z11); (try clear z10); (try clear z9); (try clear z8); (try clear z7); (try clear z6); (try clear z5); (try clear z4); (try clear z3); (try clear z2); (try clear z1); (try clear z0)
                                have hv := (HVI.out i hi).1
                                obtain ⟨ad7, e7, f0, f1, f2, f3, f4⟩ := at_T42 (Kd.C_below K1.out.1 HR.out) (i : Int) (by omega) (by omega)
                                cases e7
                                rw [Int.toNat_natCast] at f0 f1 f2 f3 f4
                                obtain ⟨ad6, e6, hx⟩ := Kd.at_int (Kd.C_below K1.out.2.2.1 HR.out) (i : Int) (by omega) (by have := HX2.out; omega)
                                subst e6
                                rw [Int.toNat_natCast] at hx
                                have hi2 : i < x2.length := by have := HX2.out; omega
                                have hx6 : x2.length ≤ 60001 := by have := HX2.out; omega
                                have b2 : wr.cell? ⟨g0, 2, none⟩ = some (.slice A2 n2 c2) := (blk_cell (blk_below B0.out HR.out) 2).trans rfl
                                have b4 : wr.cell? ⟨g0, 4, none⟩ = some (.slice A4 n4 c4) := (blk_cell (blk_below B0.out HR.out) 4).trans rfl
                                have NO : Aside0 (okIns l0 l2 l4.length (rd x2 (i : Nat)) (rd_T42 x1 (i : Nat)) = false → validS l0 l1 l2 l3 l4 = false) := by
                                  refine ⟨fun hno => validS_no fun h => ?_⟩
                                  have := ((validS_iff _ _ _ _ _).1 h).2.2.2.2.2 i (rd_T42 x1 (i : Nat)) (by rw [hr.out]; exact (HVI.out i hi).2)
                                  rw [hr.out, hno] at this
                                  cases this
                                have YES : Aside0 (okIns l0 l2 l4.length (rd x2 (i : Nat)) (rd_T42 x1 (i : Nat)) = true → ∀ j : Nat, j < i + 1 → okIns l0 l2 l4.length (rd x2 (j : Nat)) (rd_T42 x1 (j : Nat)) = true) := by
                                  refine ⟨fun hy j hj => ?_⟩
                                  by_cases e : j = i
                                  · rw [e]; exact hy
                                  · exact Hall5.out j (by omega)
                                generalize rd x2 (i : Nat) = p at *
                                generalize rd_T42 x1 (i : Nat) = i1 at *
                                obtain ⟨op, A, B, C, X⟩ := i1
                                replace hv := Aside0.mk hv
                                go_wp2_with fail
                                have BI := blk_new wr (.cells #[.int .i64 op, .int .i64 A, .int .i64 B, .int .i64 C, .int .i64 X] 42 (0, 0))
                                have HRa : Below wr.heap.size wr (wr.alloc (.cells #[.int .i64 op, .int .i64 A, .int .i64 B, .int .i64 C, .int .i64 X] 42 (0, 0))) := below_alloc (Below.refl _ _) _
                                refine (rcf_any ⟨op, A, B, C, X⟩ _).mono ?_
                                rintro e wv ⟨rfl, hba⟩
                                replace BI := blk_below BI hba
                                replace HRa := below_step HRa hba
                                have hx' := pw_cell_below HRa hx
                                have b2' := pw_cell_below HRa b2
                                have b4' := pw_cell_below HRa b4
                                have HR' := Aside0.mk (below_step HR.out HRa)
                                have i0_ := (blk_cell BI 0).trans rfl
                                have i1_ := (blk_cell BI 1).trans rfl
                                have i4_ := (blk_cell BI 4).trans rfl
                                generalize wr.heap.size = gi at BI HRa i0_ i1_ i4_ ⊢
                                clear hx b2 b4 f0 f1 f2 f3 f4 BI HRa HR hba wr
                                have hJ : cfJump ⟨op, A, B, C, X⟩ = (op == 5 || op == 7 || op == 8) := by
                                  unfold cfJump
                                  rw [hv.out, Bool.true_and]
                                rw [hJ]
                                clear hJ
                                obtain ⟨T, hT⟩ : ∃ T, IntKind.i64.wrap (p + X) = T := ⟨_, rfl⟩
                                by_cases h5 : op = 5 ∨ op = 7 ∨ op = 8
                                · have tj : (op == 5 || op == 7 || op == 8) = true := by rcases h5 with rfl | rfl | rfl <;> rfl
                                  rw [tj]
                                  have t6 : (op == 6) = false := by rcases h5 with rfl | rfl | rfl <;> rfl
                                  have t34 : (op == 34) = false := by rcases h5 with rfl | rfl | rfl <;> rfl
                                  have t35 : (op == 35) = false := by rcases h5 with rfl | rfl | rfl <;> rfl
                                  have okE : okIns l0 l2 l4.length p ⟨op, A, B, C, X⟩ = (decide (0 ≤ T) && decide (T < (n0 : Int)) && (marks n0 x2).getD T.toNat false) := by
                                    have h1 := HBS.out T
                                    unfold beginB at h1
                                    rw [marks_len] at h1
                                    rw [h1, ← hT, i64w]
                                    rcases h5 with rfl | rfl | rfl <;> simp [okIns]
                                  clear tj h5
                                  have OKE := Lib.hid okE
                                  clear okE
                                  by_cases p1 : T < 0
                                  · have tq : decide (T < 0) = true := decide_eq_true p1
                                    have EE := Lib.hid (NO.out (by rw [OKE.out, decide_eq_false (show ¬ 0 ≤ T by omega)]; rfl))
                                    clear NO YES
                                    clear p1
                                    go_wp2_with fail
                                    go_quiet (fail)
                                    try clear hT
                                    go_wp2_with fail
                                    go_ret
                                    exact ⟨ret_b EE.out.symm, below_step HB.out (by first | exact HR'.out | exact below_drew HR'.out | exact pw_below_drewN HR'.out _ | exact pw_below_drewN (pw_below_drewN HR'.out _) _)⟩
                                  · have tp1 : decide (T < 0) = false := decide_eq_false p1
                                    by_cases p2 : (n0 : Int) ≤ T
                                    · have tq : decide ((n0 : Int) ≤ T) = true := decide_eq_true p2
                                      have EE := Lib.hid (NO.out (by rw [OKE.out, decide_eq_false (show ¬ T < (n0 : Int) by omega)]; simp))
                                      clear NO YES
                                      clear p1 p2
                                      go_wp2_with fail
                                      go_quiet (fail)
                                      try clear hT
                                      go_wp2_with fail
                                      go_ret
                                      exact ⟨ret_b EE.out.symm, below_step HB.out (by first | exact HR'.out | exact below_drew HR'.out | exact pw_below_drewN HR'.out _ | exact pw_below_drewN (pw_below_drewN HR'.out _) _)⟩
                                    · have tp2 : decide ((n0 : Int) ≤ T) = false := decide_eq_false p2
                                      have hE0 : 0 ≤ T := by omega
                                      have hE1 : T < (n0 : Int) := by omega
                                      clear p1 p2
                                      obtain ⟨ad9, e9, hx9⟩ := Kd.at_bool (Kd.C_below K9.out.2 HR'.out) T hE0 hE1
                                      cases e9
                                      replace hx9 : wv.cell? (ad9.add T.toNat) = some (.bool ((marks n0 x2).getD T.toNat false)) := hx9
                                      rw [decide_eq_true hE0, decide_eq_true hE1] at OKE
                                      generalize (marks n0 x2).getD T.toNat false = v9 at hx9 OKE
                                      cases v9 with
                                      | false =>
                                        have EE := Lib.hid (NO.out (by rw [OKE.out]; rfl))
                                        clear NO YES
                                        go_wp2_with fail
                                        go_quiet (fail)
                                        try clear hT
                                        go_wp2_with fail
                                        go_ret
                                        exact ⟨ret_b EE.out.symm, below_step HB.out (by first | exact HR'.out | exact below_drew HR'.out | exact pw_below_drewN HR'.out _ | exact pw_below_drewN (pw_below_drewN HR'.out _) _)⟩
                                      | true =>
                                        have YY := Aside0.mk (YES.out (by rw [OKE.out]; rfl))
                                        clear NO YES
                                        go_wp2_with fail
                                        go_quiet (fail)
                                        try clear hT
                                        go_wp2_with fail
                                        go_quiet (fail)
                                        go_wp2_with fail
                                        go_roundg k1
                                        case measure => omega
                                        case rel => exact ⟨i + 1, by go_num, ⟨by have := Hi5.out; omega⟩, YY, ⟨by first | exact HR'.out | exact below_drew HR'.out | exact pw_below_drewN HR'.out _ | exact pw_below_drewN (pw_below_drewN HR'.out _) _⟩⟩
                                · have tj : (op == 5 || op == 7 || op == 8) = false := by
                                    rw [beq_eq_false_iff_ne.2 (fun h => h5 (.inl h)), beq_eq_false_iff_ne.2 (fun h => h5 (.inr (.inl h))), beq_eq_false_iff_ne.2 (fun h => h5 (.inr (.inr h)))]
                                    rfl
                                  rw [tj]
                                  have HJ := Lib.hid tj
                                  clear tj h5
                                  by_cases h6 : op = 6
                                  · subst h6
                                    have okE : okIns l0 l2 l4.length p ⟨6, A, B, C, X⟩ = (decide (X < l2.length) && rd l2 X == A) := by simp [okIns]
                                    rw [H2.out.len, HN.out.1] at okE
                                    have hX0 : 0 ≤ X := by
                                      have h1 := (vI_val hv.out).2.2.2.2.2.2.2.2.2.2.2.2 (by show hasN (formOf 6) = true; decide +kernel)
                                      have h2 : loN (6 : Int) = 0 := by decide +kernel
                                      simp only at h1
                                      omega
                                    by_cases hX : X < (n1 : Int)
                                    · have tX : decide ((n1 : Int) ≤ X) = false := decide_eq_false (by omega)
                                      rw [decide_eq_true hX, Bool.true_and] at okE
                                      obtain ⟨ad2, e2, hx2⟩ := Kd.at_int (Kd.C_below H2.out.C HR'.out) X hX0 (by have := HN.out.1; omega)
                                      subst e2
                                      have hX2 : X < (n2 : Int) := by have := HN.out.1; omega
                                      generalize rd l2 X = Q at *
                                      obtain ⟨v1, hv1⟩ : ∃ v, (Q != A) = v := ⟨_, rfl⟩
                                      have hq : (Q == A) = !v1 := by rw [← hv1]; simp [bne]
                                      rw [hq] at okE
                                      have OKE := Lib.hid okE
                                      clear hq okE
                                      cases v1 with
                                      | true =>
                                        have EE := Lib.hid (NO.out (by rw [OKE.out]; rfl))
                                        clear NO YES
                                        go_wp2_with fail
                                        go_quiet (fail)
                                        try clear hT
                                        go_wp2_with fail
                                        go_quiet (fail)
                                        go_wp2_with fail
                                        go_ret
                                        exact ⟨ret_b EE.out.symm, below_step HB.out (by first | exact HR'.out | exact below_drew HR'.out | exact pw_below_drewN HR'.out _ | exact pw_below_drewN (pw_below_drewN HR'.out _) _)⟩
                                      | false =>
                                        have YY := Aside0.mk (YES.out (by rw [OKE.out]; rfl))
                                        clear NO YES
                                        go_wp2_with fail
                                        go_quiet (fail)
                                        try clear hT
                                        go_wp2_with fail
                                        go_quiet (fail)
                                        go_wp2_with fail
                                        go_roundg k1
                                        case measure => omega
                                        case rel => exact ⟨i + 1, by go_num, ⟨by have := Hi5.out; omega⟩, YY, ⟨by first | exact HR'.out | exact below_drew HR'.out | exact pw_below_drewN HR'.out _ | exact pw_below_drewN (pw_below_drewN HR'.out _) _⟩⟩
                                    · have tX : decide ((n1 : Int) ≤ X) = true := decide_eq_true (by omega)
                                      rw [decide_eq_false hX, Bool.false_and] at okE
                                      have OKE := Lib.hid okE
                                      clear okE hX
                                      have EE := Lib.hid (NO.out (by rw [OKE.out]))
                                      clear NO YES
                                      go_wp2_with fail
                                      go_quiet (fail)
                                      try clear hT
                                      go_wp2_with fail
                                      go_quiet (fail)
                                      go_wp2_with fail
                                      go_ret
                                      exact ⟨ret_b EE.out.symm, below_step HB.out (by first | exact HR'.out | exact below_drew HR'.out | exact pw_below_drewN HR'.out _ | exact pw_below_drewN (pw_below_drewN HR'.out _) _)⟩
                                  · have t6 : (op == 6) = false := beq_eq_false_iff_ne.2 h6
                                    by_cases h34 : op = 34 ∨ op = 35
                                    · have okE : okIns l0 l2 l4.length p ⟨op, A, B, C, X⟩ = decide (X < l4.length) := by rcases h34 with rfl | rfl <;> simp [okIns]
                                      replace okE : okIns l0 l2 l4.length p ⟨op, A, B, C, X⟩ = decide (X < (n4 : Int)) := by rw [okE, H4.out.len]
                                      have OKE := Lib.hid okE
                                      clear okE h6
                                      by_cases hX : X < (n4 : Int)
                                      · have tX : decide ((n4 : Int) ≤ X) = false := decide_eq_false (by omega)
                                        rw [decide_eq_true hX] at OKE
                                        clear hX
                                        rcases h34 with rfl | rfl
                                        · have YY := Aside0.mk (YES.out (by rw [OKE.out]))
                                          clear NO YES
                                          go_wp2_with fail
                                          go_quiet (fail)
                                          try clear hT
                                          go_wp2_with fail
                                          go_quiet (fail)
                                          go_wp2_with fail
                                          go_roundg k1
                                          case measure => omega
                                          case rel => exact ⟨i + 1, by go_num, ⟨by have := Hi5.out; omega⟩, YY, ⟨by first | exact HR'.out | exact below_drew HR'.out | exact pw_below_drewN HR'.out _ | exact pw_below_drewN (pw_below_drewN HR'.out _) _⟩⟩
                                        · have YY := Aside0.mk (YES.out (by rw [OKE.out]))
                                          clear NO YES
                                          go_wp2_with fail
                                          go_quiet (fail)
                                          try clear hT
                                          go_wp2_with fail
                                          go_quiet (fail)
                                          go_wp2_with fail
                                          go_roundg k1
                                          case measure => omega
                                          case rel => exact ⟨i + 1, by go_num, ⟨by have := Hi5.out; omega⟩, YY, ⟨by first | exact HR'.out | exact below_drew HR'.out | exact pw_below_drewN HR'.out _ | exact pw_below_drewN (pw_below_drewN HR'.out _) _⟩⟩
                                      · have tX : decide ((n4 : Int) ≤ X) = true := decide_eq_true (by omega)
                                        rw [decide_eq_false hX] at OKE
                                        clear hX
                                        rcases h34 with rfl | rfl
                                        · have EE := Lib.hid (NO.out (by rw [OKE.out]))
                                          clear NO YES
                                          go_wp2_with fail
                                          go_quiet (fail)
                                          try clear hT
                                          go_wp2_with fail
                                          go_quiet (fail)
                                          go_wp2_with fail
                                          go_ret
                                          exact ⟨ret_b EE.out.symm, below_step HB.out (by first | exact HR'.out | exact below_drew HR'.out | exact pw_below_drewN HR'.out _ | exact pw_below_drewN (pw_below_drewN HR'.out _) _)⟩
                                        · have EE := Lib.hid (NO.out (by rw [OKE.out]))
                                          clear NO YES
                                          go_wp2_with fail
                                          go_quiet (fail)
                                          try clear hT
                                          go_wp2_with fail
                                          go_quiet (fail)
                                          go_wp2_with fail
                                          go_ret
                                          exact ⟨ret_b EE.out.symm, below_step HB.out (by first | exact HR'.out | exact below_drew HR'.out | exact pw_below_drewN HR'.out _ | exact pw_below_drewN (pw_below_drewN HR'.out _) _)⟩
                                    · have t34 : (op == 34) = false := beq_eq_false_iff_ne.2 fun h => h34 (.inl h)
                                      have t35 : (op == 35) = false := beq_eq_false_iff_ne.2 fun h => h34 (.inr h)
                                      have okE : okIns l0 l2 l4.length p ⟨op, A, B, C, X⟩ = true := by
                                        have h := HJ.out
                                        simp only [okIns]
                                        rw [h, t6, t34, t35]
                                        rfl
                                      have OKE := Lib.hid okE
                                      clear okE h6 h34
                                      have YY := Aside0.mk (YES.out (by rw [OKE.out]))
                                      clear NO YES
                                      go_wp2_with fail
                                      go_quiet (fail)
                                      try clear hT
                                      go_wp2_with fail
                                      go_quiet (fail)
                                      go_wp2_with fail
                                      go_roundg k1
                                      case measure => omega
                                      case rel => exact ⟨i + 1, by go_num, ⟨by have := Hi5.out; omega⟩, YY, ⟨by first | exact HR'.out | exact below_drew HR'.out | exact pw_below_drewN HR'.out _ | exact pw_below_drewN (pw_below_drewN HR'.out _) _⟩⟩
                            · have hie : i = x1.length := by have := Hi5.out; omega
                              subst hie
                              have ti : decide (x1.length < x1.length) = false := decide_eq_false hi
                              have e : validS l0 l1 l2 l3 l4 = true := (validS_iff _ _ _ _ _).2 (by
                                rw [hr.out]
                                refine ⟨HLT.out, rfl, by rw [HLA.out, Option.any_some]; exact HCF.out, fun k hk => Hall.out k (by rw [H1.out.len] at hk; exact hk), fun k hk => Hall4.out k (by rw [H4.out.len] at hk; exact hk), fun k i hk => ?_⟩
                                have hk2 := (List.getElem?_eq_some_iff.1 hk).1
                                have h5 := Hall5.out k hk2
                                have h6 := (HVI.out k hk2).2
                                rw [show (x1, x2, (0 : Int)).1[k]? = some i from hk] at *
                                rw [show i = rd_T42 x1 (k : Nat) from Option.some.inj (hk.symm.trans h6)]
                                exact h5)
                              have EE := Lib.hid e
                              clear e hi
                              go_wp2_with fail
                              go_ret
                              exact ⟨ret_b EE.out.symm, below_step HB.out HR.out⟩
end Go.Proofs.YtcjidibdidijaaaDoor
