/- Parts of this proof in one text: VaL2. -/
import Derived.Test.YtcjidibdidijaaaDoorQV19
import Derived.Test.YtcjidibdidijaaaDoorQV11
import Derived.Test.YtcjidibdidijaaaDoorQV24
import Derived.Deep.LoopGhost
import Derived.Deep.QuietTactic
import Derived.BigQuiet
namespace Go.Proofs.YtcjidibdidijaaaDoor
open Go.RowKit Go.Proofs.YtcjidibdidijaaaDoor.PCod Go.Proofs.YtcjidibdidijaaaDoorW.PrintWords Go.Proofs.YtcjidibdidijaaaDoorW.PrintMore Go.Proofs.YtcjidibdidijaaaDoor.DecL
set_option linter.unusedVariables false
set_option linter.unusedSimpArgs false
structure SI (w : World) (A : Option Addr) (n c : Nat) (l : List Int) : Prop where
  C : Kd.C (Kd.int .i64) w A n l
  le : n ≤ c
  len : l.length = n
  sm : n ≤ 9223372036854775807
theorem SI.below {w w' : World} {A : Option Addr} {n c : Nat} {l : List Int} (h : SI w A n c l) (hb : Below w.heap.size w w') : SI w' A n c l := ⟨Kd.C_below h.C hb, h.le, h.len, h.sm⟩
def BoolPost (w : World) (b : Bool) (e : Ending) (w' : World) : Prop := e = .returned (.bool b) ∧ Below w.heap.size w w'
theorem ret_b {a b : Bool} (h : a = b) : Ending.returned (.bool a) = .returned (.bool b) := by rw [h]
theorem begin_v {g gb c : Nat} {bs : List Bool} {n : Int} {v : Bool} {w : World} (hv : beginB bs n = v) (hc : w.cell? ⟨gb, 0, none⟩ = some (.slice (some ⟨g, 0, none⟩) bs.length c)) (hb : w.heap[g]? = some (.cells (bs.map Value.bool).toArray 4 (0, 0))) :
    Calls Tryd.prog 77 #[.int .i64 n, .pointer (some ⟨gb, 0, none⟩)] w fun e w' => e = .returned (.bool v) ∧ w' = w :=
  (begin_any n hc hb).mono fun e w' ⟨he, hw⟩ => ⟨by rw [he, hv], hw.symm⟩
theorem bools_made (m : Nat) : madeCells #[.bool false] m = ((marks m []).map Value.bool).toArray := by
  apply Array.ext'
  simp [madeCells, marks, marksOn, List.map_replicate, Array.toList_range]
  apply List.ext_getElem
  · simp
  · intro i h1 h2
    simp [Nat.mod_one]
set_option maxRecDepth 100000 in
set_option maxHeartbeats 40000000 in
set_option pp.maxSteps 20000 in
theorem valid_any {A0 A1 A2 A3 A4 : Option Addr} {n0 n1 n2 n3 n4 c0 c1 c2 c3 c4 : Nat} {l0 l1 l2 l3 l4 : List Int} (w : World) (h0 : SL w A0 n0 c0 l0) (h1 : SI w A1 n1 c1 l1) (h2 : SI w A2 n2 c2 l2) (h3 : SI w A3 n3 c3 l3) (h4 : SI w A4 n4 c4 l4) (HT : Aside0 (TabOK w)) :
    Calls Tryd.prog 46 #[.agg #[.slice A0 n0 c0, .slice A1 n1 c1, .slice A2 n2 c2, .slice A3 n3 c3, .slice A4 n4 c4]] w (BoolPost w (validS l0 l1 l2 l3 l4)) := by
  have HL : okLens l0 l1 l2 l3 l4 = lensB n0 n1 n2 n3 n4 := by
    unfold okLens lensB
    rw [h0.len, h1.len, h2.len, h3.len, h4.len]
  cases hb : lensB n0 n1 n2 n3 n4 with
  | false =>
    have e : validS l0 l1 l2 l3 l4 = false := validS_no fun h => by
      have := ((validS_iff _ _ _ _ _).1 h).1
      rw [HL, hb] at this
      cases this
    rw [e]
    exact valid_lens A0 A1 A2 A3 A4 n0 n1 n2 n3 n4 c0 c1 c2 c3 c4 w hb
  | true =>
    have hl := hb
    unfold lensB at hl
    simp only [Bool.and_eq_true, decide_eq_true_eq] at hl
    obtain ⟨⟨⟨⟨⟨⟨q1, q2⟩, q3⟩, q4⟩, q5⟩, q6⟩, q7⟩ := hl
    subst q5
    obtain rfl : n2 = n3 := q6.symm
    have HLT := Aside0.mk (HL.trans hb)
    clear HL hb
    obtain ⟨r, hr⟩ : ∃ r, decR l0 = r := ⟨_, rfl⟩
    obtain ⟨x1, x2, x3⟩ := r
    have V1 : (decide ((1:Int) ≤ n0) && decide ((n0:Int) ≤ 60000)) = true := by
      rw [decide_eq_true (by omega), decide_eq_true (by omega)]; rfl
    have V2 : (decide ((1:Int) ≤ n2) && decide ((n2:Int) ≤ 8)) = true := by
      rw [decide_eq_true (by omega), decide_eq_true (by omega)]; rfl
    have HV1 := Lib.hid V1
    have HV2 := Lib.hid V2
    have HQ := Aside0.mk (And.intro q1 (And.intro q2 (And.intro q3 (And.intro q4 q7))))
    have t4 : decide ((4 : Int) < (n4 : Int)) = false := decide_eq_false (by omega)
    clear V1 V2 q1 q2 q3 q4 q7
    replace hr := Aside0.mk hr
    have H0 := Aside0.mk h0
    have H1 := Aside0.mk h1
    have H2 := Aside0.mk h2
    have H3 := Aside0.mk h3
    have H4 := Aside0.mk h4
    clear h0 h1 h2 h3 h4
    go_enter Tryd.func46, Tryd.ntmps46
    go_wp2_with fail
    refine (within_any _ _ _ _).mono ?_
    rintro e w1 ⟨rfl, rfl⟩
    rw [HV1.out]
    go_wp2_with fail
    refine (within_any _ _ _ _).mono ?_
    rintro e w1 ⟨rfl, rfl⟩
    rw [HV2.out]
    go_wp2_with fail
    have B0 := blk_new w (.cells #[.slice A0 n0 c0, .slice A1 n2 c1, .slice A2 n2 c2, .slice A3 n2 c3, .slice A4 n4 c4] 25 (0, 0))
    have HBa : Below w.heap.size w (w.alloc (.cells #[.slice A0 n0 c0, .slice A1 n2 c1, .slice A2 n2 c2, .slice A3 n2 c3, .slice A4 n4 c4] 25 (0, 0))) := below_alloc (Below.refl _ _) _
    generalize hW : w.alloc (.cells #[.slice A0 n0 c0, .slice A1 n2 c1, .slice A2 n2 c2, .slice A3 n2 c3, .slice A4 n4 c4] 25 (0, 0)) = W at *
    clear hW
    generalize hG : w.heap.size = g0 at B0 ⊢
    have HG := Lib.hid hG
    clear hG
    replace H0 := Aside0.mk (H0.out.below HBa)
    replace H1 := Aside0.mk (H1.out.below HBa)
    replace H2 := Aside0.mk (H2.out.below HBa)
    replace H3 := Aside0.mk (H3.out.below HBa)
    replace H4 := Aside0.mk (H4.out.below HBa)
    replace HT := TabOK.aside HT.out HBa
    have HB := Aside0.mk HBa
    clear HBa
    refine (dall_anyD HQ.out.2.1 hr.out H0.out HT).mono ?_
    rintro e wa ⟨A5, c5, A6, c6, rfl, k1, k2, k3, k4, hba⟩
    have K1 : Aside0 (Kd.C k42 wa A5 x1.length x1 ∧ x1.length ≤ c5 ∧ Kd.C (Kd.int .i64) wa A6 x2.length x2 ∧ x2.length ≤ c6) := ⟨k1, k2, k3, k4⟩
    replace H0 := Aside0.mk (H0.out.below hba)
    replace H1 := Aside0.mk (H1.out.below hba)
    replace H2 := Aside0.mk (H2.out.below hba)
    replace H3 := Aside0.mk (H3.out.below hba)
    replace H4 := Aside0.mk (H4.out.below hba)
    replace HT := TabOK.aside HT.out hba
    replace B0 := blk_below B0 hba
    replace HB := Aside0.mk (below_step HB.out hba)
    clear k1 k2 k3 k4 hba
    by_cases hx : x3 = 0
    · subst hx
      have hok := decR_ok l0 H0.out.u (by rw [hr.out])
      have hne : 0 < x1.length := by have := decR_nonempty l0 H0.out.u (by rw [hr.out]) (by rw [H0.out.len]; exact HQ.out.1); rw [hr.out] at this; exact this
      rw [hr.out] at hok
      have hx2 : x2.length = x1.length := by have := congrArg List.length hok.2.2; rw [starts_len] at this; exact this
      have hx60 : x1.length ≤ 60001 := by
        have h1 : x1.length ≤ l0.length + 1 := by have := (decR_len l0).1; rw [hr.out] at this; exact this
        rw [H0.out.len] at h1
        have := HQ.out.2.1
        omega
      have OK := Aside0.mk hok
      have HX2 := Lib.hid hx2
      clear hok hx2
      obtain ⟨ad5, e5, f0, f1, f2, f3, f4⟩ := at_T42 K1.out.1 ((x1.length - 1 : Nat) : Int) (by omega) (by omega)
      subst e5
      rw [Int.toNat_natCast] at f0 f1 f2 f3 f4
      have hla : x1.getLast? = some (rd_T42 x1 ((x1.length - 1 : Nat) : Int)) := by
        unfold rd_T42
        rw [List.getLast?_eq_getElem?, Int.toNat_natCast, List.getD_eq_getElem?_getD, List.getElem?_eq_getElem (by omega)]
        rfl
      have HLA := Lib.hid hla
      clear hla
      generalize rd_T42 x1 ((x1.length - 1 : Nat) : Int) = i0 at *
      go_wp2_with fail
      refine (pcf_any i0 _ HT).mono ?_
      rintro e wb ⟨rfl, hba⟩
      have E0 := Kd.C_below K1.out.1 hba
      have E1 := Kd.C_below K1.out.2.2.1 hba
      replace K1 := Aside0.mk (And.intro E0 (And.intro K1.out.2.1 (And.intro E1 K1.out.2.2.2)))
      clear E0 E1
      replace H0 := Aside0.mk (H0.out.below hba)
      replace H1 := Aside0.mk (H1.out.below hba)
      replace H2 := Aside0.mk (H2.out.below hba)
      replace H3 := Aside0.mk (H3.out.below hba)
      replace H4 := Aside0.mk (H4.out.below hba)
      replace B0 := blk_below B0 hba
      replace HB := Aside0.mk (below_step HB.out hba)
      clear hba f0 f1 f2 f3 f4 HT wa
      cases hcf : cfOn i0 with
      | true =>
        have e : validS l0 l1 l2 l3 l4 = false := validS_no fun h => by
          have := ((validS_iff _ _ _ _ _).1 h).2.2.1
          rw [hr.out] at this
          rw [HLA.out] at this
          rw [Option.any_some, hcf] at this
          cases this
        have E := Lib.hid e
        clear e hcf
        go_wp2_with fail
        go_ret
        exact ⟨ret_b E.out.symm, HB.out⟩
      | false =>
        have HCF := Lib.hid hcf
        clear hcf
        have hmk := run_make_row' (P := Tryd.prog) 122 4 (.bool false) 1 Tryd.underlying122 info4 rfl .i64 .i64 n0 (by have := HQ.out.2.1; omega) (by have := HQ.out.2.1; omega)
        rw [bools_made] at hmk
        have b0 : wb.cell? ⟨g0, 0, none⟩ = some (.slice A0 n0 c0) := (blk_cell B0 0).trans rfl
        go_wp2_with fail
        have hx6 : x2.length ≤ 60001 := by have := HX2.out; omega
        have hst : ∀ p ∈ x2, (0 : Int) ≤ p ∧ p < (n0 : Int) := by
          intro p hp
          have h1 := OK.out
          have h2 := H0.out.len
          rw [show x2 = starts 0 x1 from h1.2.2] at hp
          have h3 := starts_range 0 x1 h1.1 p hp
          rw [← show l0 = x1.flatMap wI from h1.2.1, h2] at h3
          omega
        have HST := Aside0.mk hst
        clear hst b0 hmk
        have Bg := blk_alloc (blk_new wb (.cells ((marks n0 []).map Value.bool).toArray 4 (0, 0))) (.cells #[.slice (some ⟨wb.heap.size, 0, none⟩) n0 n0] 122 (0, 0))
        have B8 : ((wb.alloc (.cells ((marks n0 []).map Value.bool).toArray 4 (0, 0))).alloc (.cells #[.slice (some ⟨wb.heap.size, 0, none⟩) n0 n0] 122 (0, 0))).heap[wb.heap.size + 1]? = some (.cells #[.slice (some ⟨wb.heap.size, 0, none⟩) n0 n0] 122 (0, 0)) := by
          simpa using blk_new (wb.alloc (.cells ((marks n0 []).map Value.bool).toArray 4 (0, 0))) (.cells #[.slice (some ⟨wb.heap.size, 0, none⟩) n0 n0] 122 (0, 0))
        have HR0 : Below wb.heap.size wb ((wb.alloc (.cells ((marks n0 []).map Value.bool).toArray 4 (0, 0))).alloc (.cells #[.slice (some ⟨wb.heap.size, 0, none⟩) n0 n0] 122 (0, 0))) := below_alloc (below_alloc (Below.refl _ _) _) _
        generalize hwc : (wb.alloc (.cells ((marks n0 []).map Value.bool).toArray 4 (0, 0))).alloc (.cells #[.slice (some ⟨wb.heap.size, 0, none⟩) n0 n0] 122 (0, 0)) = wc at Bg B8 HR0 ⊢
        clear hwc
        obtain ⟨gb, hgb⟩ : ∃ gb, wb.heap.size = gb := ⟨_, rfl⟩
        rw [hgb] at Bg B8
        rw [hgb]
        have HGB := Lib.hid hgb
        clear hgb
        replace Bg := Aside0.mk Bg
        replace B8 := Aside0.mk B8
        replace HR0 := Aside0.mk HR0
        go_loopg [79] x2.length (fun kq v79 wr => ∃ i : Nat, v79 = .int .i64 (i : Int) ∧ Aside0 (i + kq = x2.length) ∧ Aside0 (wr.heap[gb]? = some (.cells ((marks n0 (x2.take i)).map Value.bool).toArray 4 (0, 0))) ∧ Aside0 (wr.heap[gb + 1]? = some (.cells #[.slice (some ⟨gb, 0, none⟩) n0 n0] 122 (0, 0))) ∧ Aside0 (Below wb.heap.size wb wr))
        case atStart => exact ⟨0, rfl, ⟨by omega⟩, Bg, B8, HR0⟩
        case round =>
          clear Bg B8 HR0
          obtain ⟨i, rfl, Hi, Gg, G8, HR⟩ := hrel
          by_cases hi : i < x2.length
          · have ti : decide (i < x2.length) = true := decide_eq_true hi
            obtain ⟨ad6, e6, hx⟩ := Kd.at_int (Kd.C_below K1.out.2.2.1 HR.out) (i : Int) (by omega) (by omega)
            subst e6
            rw [Int.toNat_natCast] at hx
            have hpm : rd x2 (i : Int) ∈ x2 := by
              unfold rd
              rw [Int.toNat_natCast, List.getD_eq_getElem?_getD, List.getElem?_eq_getElem hi]
              exact List.getElem_mem hi
            obtain ⟨p0, p1⟩ := HST.out _ hpm
            have htk : x2.take (i + 1) = x2.take i ++ [rd x2 (i : Int)] := by
              rw [List.take_succ_eq_append_getElem hi]
              unfold rd
              rw [Int.toNat_natCast, List.getD_eq_getElem?_getD, List.getElem?_eq_getElem hi]
              rfl
            have HTK := Lib.hid htk
            clear htk hpm
            generalize rd x2 (i : Int) = p at *
            have hlm := marks_len n0 (x2.take i)
            have hk : p.toNat < ((marks n0 (x2.take i)).map Value.bool).length := by rw [List.length_map, hlm]; omega
            have hxp : wr.cell? ⟨gb, p.toNat, none⟩ = some ((((marks n0 (x2.take i)).map Value.bool))[p.toNat]) := by
              rw [blk_cell Gg.out, List.getElem?_toArray, List.getElem?_eq_getElem hk]
            have hxf := blk_frozen Gg.out p.toNat
            generalize (((marks n0 (x2.take i)).map Value.bool))[p.toNat] = vo at hxp
            have c8 : wr.cell? ⟨gb + 1, 0, none⟩ = some (.slice (some ⟨gb, 0, none⟩) n0 n0) := (blk_cell G8.out 0).trans rfl
            clear hlm hk
            cases gk with
            | zero => have := Hi.out; omega
            | succ k1 =>
              go_wp2_with fail
              have N1 : (wr.setCell ⟨gb, p.toNat, none⟩ (.bool true)).heap[gb]? = some (.cells ((marks n0 (x2.take (i + 1))).map Value.bool).toArray 4 (0, 0)) := by
                refine blk_put Gg.out p.toNat (.bool true) ?_
                rw [HTK.out, marks_snoc, List.map_set, List.setIfInBounds_toArray]
              have N2 := blk_far G8.out (p := ⟨gb, p.toNat, none⟩) (by simp) (.bool true)
              have N3 : Below wb.heap.size wb (wr.setCell ⟨gb, p.toNat, none⟩ (.bool true)) := HR.out.setCell (by show wb.heap.size ≤ gb; have := HGB.out; omega) _
              go_roundg k1
              case measure => omega
              case rel => exact ⟨i + 1, by go_num, ⟨by have := Hi.out; omega⟩, ⟨N1⟩, ⟨N2⟩, ⟨N3⟩⟩
          · have hie : i = x2.length := by have := Hi.out; omega
            subst hie
            have ti : decide (x2.length < x2.length) = false := decide_eq_false hi
            rw [List.take_length] at Gg
            have hmf : ∀ (fn : Fn) (first cap : Array Value) (w : World), (Instr.makeFunc fn first cap).run Tryd.prog w = .ok (.func fn first cap) w := fun _ _ _ _ => rfl
            have b1 : wr.cell? ⟨g0, 1, none⟩ = some (.slice A1 n2 c1) := (blk_cell (blk_below B0 HR.out) 1).trans rfl
            go_wp2_with fail
            clear ti hi hmf b1
            have K1r : Aside0 (Kd.C k42 wr (some ad5) x1.length x1 ∧ x1.length ≤ c5 ∧ Kd.C (Kd.int .i64) wr A6 x2.length x2 ∧ x2.length ≤ c6) := ⟨Kd.C_below K1.out.1 HR.out, K1.out.2.1, Kd.C_below K1.out.2.2.1 HR.out, K1.out.2.2.2⟩
            replace H1 := Aside0.mk (H1.out.below HR.out)
            replace H2 := Aside0.mk (H2.out.below HR.out)
            replace H3 := Aside0.mk (H3.out.below HR.out)
            replace H4 := Aside0.mk (H4.out.below HR.out)
            have B0r := Aside0.mk (blk_below B0 HR.out)
            have HBr := Aside0.mk (below_step HB.out HR.out)
            have HBS : Aside0 (∀ n, beginB (marks n0 x2) n = isStart l0 n) := by
              refine ⟨fun n => ?_⟩
              have := begin_isStart l0 H0.out.u (by rw [hr.out]) n
              rw [hr.out, H0.out.len] at this
              exact this
            have HVI : Aside0 (∀ i, i < x1.length → vI (rd_T42 x1 (i : Nat)) = true ∧ x1[i]? = some (rd_T42 x1 (i : Nat))) := by
              refine ⟨fun i hi => ?_⟩
              have e : rd_T42 x1 (i : Nat) = x1[i] := by
                unfold rd_T42
                rw [Int.toNat_natCast, List.getD_eq_getElem?_getD, List.getElem?_eq_getElem hi]
                rfl
              rw [e]
              exact ⟨List.all_eq_true.1 OK.out.1 _ (List.getElem_mem hi), List.getElem?_eq_getElem hi⟩
            clear HR HB K1 Hi B0 HGB HST
            obtain ⟨wz, hwz⟩ : ∃ wz, wz = wr := ⟨_, rfl⟩
            subst hwz
            go_loopg [91] n2 (fun kq v91 wr => ∃ i : Nat, v91 = .int .i64 (i : Int) ∧ Aside0 (i + kq = n2) ∧ Aside0 (∀ j : Nat, j < i → okFun l0 (rd l1 j) (rd l2 j) (rd l3 j) = true) ∧ Aside0 (Below wz.heap.size wz wr))
            case atStart => exact ⟨0, rfl, ⟨by omega⟩, ⟨fun j hj => absurd hj (by omega)⟩, ⟨Below.refl _ _⟩⟩
            case round =>
              obtain ⟨i, rfl, Hi, Hall, HR⟩ := hrel
              by_cases hi : i < n2
              · have ti : decide (i < n2) = true := decide_eq_true hi
                have H6 := HX2.out
                cases gk with
                | zero => have := Hi.out; omega
                | succ k1 =>
                  obtain ⟨ad1, e1, hx1⟩ := Kd.at_int (Kd.C_below H1.out.C HR.out) (i : Int) (by omega) (by omega)
                  obtain ⟨ad2, e2, hx2⟩ := Kd.at_int (Kd.C_below H2.out.C HR.out) (i : Int) (by omega) (by omega)
                  obtain ⟨ad3, e3, hx3⟩ := Kd.at_int (Kd.C_below H3.out.C HR.out) (i : Int) (by omega) (by omega)
                  subst e1 e2 e3
                  rw [Int.toNat_natCast] at hx1 hx2 hx3
                  have b1 : wr.cell? ⟨g0, 1, none⟩ = some (.slice (some ad1) n2 c1) := (blk_cell (blk_below B0r.out HR.out) 1).trans rfl
                  have b2 : wr.cell? ⟨g0, 2, none⟩ = some (.slice (some ad2) n2 c2) := (blk_cell (blk_below B0r.out HR.out) 2).trans rfl
                  have b3 : wr.cell? ⟨g0, 3, none⟩ = some (.slice (some ad3) n2 c3) := (blk_cell (blk_below B0r.out HR.out) 3).trans rfl
                  have G1 : wr.cell? ⟨gb + 1, 0, none⟩ = some (.slice (some ⟨gb, 0, none⟩) (marks n0 x2).length n0) := by rw [marks_len]; exact (blk_cell (blk_below G8.out HR.out) 0).trans rfl
                  replace G1 := Aside0.mk G1
                  have okE : okFun l0 (rd l1 (i : Nat)) (rd l2 (i : Nat)) (rd l3 (i : Nat)) = (isStart l0 (rd l1 (i : Nat)) && (decide (0 ≤ rd l2 (i : Nat)) && decide (rd l2 (i : Nat) ≤ 6)) && (decide (0 ≤ rd l3 (i : Nat)) && decide (rd l3 (i : Nat) ≤ 3000))) := by
                    unfold okFun
                    simp only [Bool.and_assoc]
                  have NO : Aside0 (okFun l0 (rd l1 (i : Nat)) (rd l2 (i : Nat)) (rd l3 (i : Nat)) = false → validS l0 l1 l2 l3 l4 = false) := by
                    refine ⟨fun hno => validS_no fun h => ?_⟩
                    have := ((validS_iff _ _ _ _ _).1 h).2.2.2.1 i (by rw [H1.out.len]; exact hi)
                    rw [hno] at this
                    cases this
                  have YES : Aside0 (okFun l0 (rd l1 (i : Nat)) (rd l2 (i : Nat)) (rd l3 (i : Nat)) = true → ∀ j : Nat, j < i + 1 → okFun l0 (rd l1 j) (rd l2 j) (rd l3 j) = true) := by
                    refine ⟨fun hy j hj => ?_⟩
                    by_cases e : j = i
                    · rw [e]; exact hy
                    · exact Hall.out j (by omega)
                  generalize okFun l0 (rd l1 (i : Nat)) (rd l2 (i : Nat)) (rd l3 (i : Nat)) = ok at NO YES okE
                  generalize rd l1 (i : Nat) = E at *
                  generalize rd l2 (i : Nat) = Q at *
                  generalize rd l3 (i : Nat) = S at *
                  obtain ⟨v1, hv1⟩ : ∃ v, isStart l0 E = v := ⟨_, rfl⟩
                  obtain ⟨v2, hv2⟩ : ∃ v, (decide (0 ≤ Q) && decide (Q ≤ 6)) = v := ⟨_, rfl⟩
                  obtain ⟨v3, hv3⟩ : ∃ v, (decide (0 ≤ S) && decide (S ≤ 3000)) = v := ⟨_, rfl⟩
                  rw [hv1, hv2, hv3] at okE
                  have OKE := Lib.hid okE
                  replace hv1 := Lib.hid hv1
                  replace hv2 := Lib.hid hv2
                  replace hv3 := Lib.hid hv3
                  clear okE H6
                  go_wp2_with fail
                  refine (begin_any E G1.out (blk_below Gg.out HR.out)).mono ?_
                  rintro e w' ⟨rfl, rfl⟩
                  rw [HBS.out, hv1.out]
                  cases v1 with
                  | false =>
                    have EE := Lib.hid (NO.out (OKE.out.trans rfl))
                    go_wp2_with fail
                    go_ret
                    exact ⟨ret_b EE.out.symm, below_step HBr.out HR.out⟩
                  | true =>
                    go_wp2_with fail
                    refine (within_any _ _ _ _).mono ?_
                    rintro e w' ⟨rfl, rfl⟩
                    rw [hv2.out]
                    cases v2 with
                    | false =>
                      have EE := Lib.hid (NO.out (OKE.out.trans rfl))
                      go_wp2_with fail
                      go_ret
                      exact ⟨ret_b EE.out.symm, below_step HBr.out HR.out⟩
                    | true =>
                      go_wp2_with fail
                      refine (within_any _ _ _ _).mono ?_
                      rintro e w' ⟨rfl, rfl⟩
                      rw [hv3.out]
                      cases v3 with
                      | false =>
                        have EE := Lib.hid (NO.out (OKE.out.trans rfl))
                        go_wp2_with fail
                        go_ret
                        exact ⟨ret_b EE.out.symm, below_step HBr.out HR.out⟩
                      | true =>
                        have YY := Aside0.mk (YES.out (OKE.out.trans rfl))
                        have hn2 := H1.out.sm
                        go_wp2_with fail
                        go_roundg k1
                        case measure => omega
                        case rel => exact ⟨i + 1, by go_num, ⟨by have := Hi.out; omega⟩, YY, HR⟩
              · have hie : n2 = i := by have := Hi.out; omega
                subst hie
                have ti : decide (n2 < n2) = false := decide_eq_false hi
                have b4 : wr.cell? ⟨g0, 4, none⟩ = some (.slice A4 n4 c4) := (blk_cell (blk_below B0r.out HR.out) 4).trans rfl
                clear hi
                have hn4 : n4 ≤ 9223372036854775807 := H4.out.sm
                go_wp2_with fail
                clear ti b4
                go_loopg [124] n4 (fun kq v124 wr => ∃ i : Nat, v124 = .int .i64 (i : Int) ∧ Aside0 (i + kq = n4) ∧ Aside0 (∀ j : Nat, j < i → 1 ≤ rd l4 j ∧ rd l4 j ≤ 16) ∧ Aside0 (Below wz.heap.size wz wr))
                case atStart => exact ⟨0, rfl, ⟨by omega⟩, ⟨fun j hj => absurd hj (by omega)⟩, HR⟩
                case round =>
                  clear HR
                  obtain ⟨i, rfl, Hi4, Hall4, HR⟩ := hrel
                  by_cases hi : i < n4
                  · have ti : decide (i < n4) = true := decide_eq_true hi
                    cases gk with
                    | zero => have := Hi4.out; omega
                    | succ k1 =>
                      obtain ⟨ad1, e1, hx1⟩ := Kd.at_int (Kd.C_below H4.out.C HR.out) (i : Int) (by omega) (by omega)
                      subst e1
                      rw [Int.toNat_natCast] at hx1
                      have NO : Aside0 ((decide (1 ≤ rd l4 (i : Nat)) && decide (rd l4 (i : Nat) ≤ 16)) = false → validS l0 l1 l2 l3 l4 = false) := by
                        refine ⟨fun hno => validS_no fun h => ?_⟩
                        have := ((validS_iff _ _ _ _ _).1 h).2.2.2.2.1 i (by rw [H4.out.len]; exact hi)
                        rw [decide_eq_true this.1, decide_eq_true this.2] at hno
                        cases hno
                      have YES : Aside0 ((decide (1 ≤ rd l4 (i : Nat)) && decide (rd l4 (i : Nat) ≤ 16)) = true → ∀ j : Nat, j < i + 1 → 1 ≤ rd l4 j ∧ rd l4 j ≤ 16) := by
                        refine ⟨fun hy j hj => ?_⟩
                        by_cases e : j = i
                        · rw [e]; simpa using hy
                        · exact Hall4.out j (by omega)
                      generalize rd l4 (i : Nat) = E at *
                      obtain ⟨v1, hv1⟩ : ∃ v, (decide (1 ≤ E) && decide (E ≤ 16)) = v := ⟨_, rfl⟩
                      rw [hv1] at NO YES
                      replace hv1 := Lib.hid hv1
                      go_wp2_with fail
                      refine (within_any _ _ _ _).mono ?_
                      rintro e w' ⟨rfl, rfl⟩
                      rw [hv1.out]
                      cases v1 with
                      | false =>
                        have EE := Lib.hid (NO.out rfl)
                        go_wp2_with fail
                        go_ret
                        exact ⟨ret_b EE.out.symm, below_step HBr.out HR.out⟩
                      | true =>
                        have YY := Aside0.mk (YES.out rfl)
                        go_wp2_with fail
                        go_roundg k1
                        case measure => omega
                        case rel => exact ⟨i + 1, by go_num, ⟨by have := Hi4.out; omega⟩, YY, HR⟩
                  · have hie : n4 = i := by have := Hi4.out; omega
                    subst hie
                    have ti : decide (n4 < n4) = false := decide_eq_false hi
                    go_wp2_with fail
                    clear ti hi
                    clear Hi Hi4
                    have hx5 : x1.length ≤ 60001 := hx60
                    go_loopg [134] x1.length (fun kq v134 wr => ∃ i : Nat, v134 = .int .i64 (i : Int) ∧ Aside0 (i + kq = x1.length) ∧ Aside0 (∀ j : Nat, j < i → okIns l0 l2 l4.length (rd x2 (j : Nat)) (rd_T42 x1 (j : Nat)) = true) ∧ Aside0 (Below wz.heap.size wz wr))
                    case atStart => exact ⟨0, rfl, ⟨by omega⟩, ⟨fun j hj => absurd hj (by omega)⟩, HR⟩
                    case round =>
                      clear HR
                      obtain ⟨i, rfl, Hi5, Hall5, HR⟩ := hrel
                      by_cases hi : i < x1.length
                      · have ti : decide (i < x1.length) = true := decide_eq_true hi
                        cases gk with
                        | zero => have := Hi5.out; omega
                        | succ k1 =>
                          have hv := (HVI.out i hi).1
                          obtain ⟨ad7, e7, f0, f1, f2, f3, f4⟩ := at_T42 (Kd.C_below K1r.out.1 HR.out) (i : Int) (by omega) (by omega)
                          cases e7
                          rw [Int.toNat_natCast] at f0 f1 f2 f3 f4
                          obtain ⟨ad6, e6, hx⟩ := Kd.at_int (Kd.C_below K1r.out.2.2.1 HR.out) (i : Int) (by omega) (by have := HX2.out; omega)
                          subst e6
                          rw [Int.toNat_natCast] at hx
                          have G1 : wr.cell? ⟨gb + 1, 0, none⟩ = some (.slice (some ⟨gb, 0, none⟩) (marks n0 x2).length n0) := by rw [marks_len]; exact (blk_cell (blk_below G8.out HR.out) 0).trans rfl
                          replace G1 := Aside0.mk G1
                          have b1 : wr.cell? ⟨g0, 1, none⟩ = some (.slice A1 n2 c1) := (blk_cell (blk_below B0r.out HR.out) 1).trans rfl
                          have b2 : wr.cell? ⟨g0, 2, none⟩ = some (.slice A2 n2 c2) := (blk_cell (blk_below B0r.out HR.out) 2).trans rfl
                          have b4 : wr.cell? ⟨g0, 4, none⟩ = some (.slice A4 n4 c4) := (blk_cell (blk_below B0r.out HR.out) 4).trans rfl
                          have NO : Aside0 (okIns l0 l2 l4.length (rd x2 (i : Nat)) (rd_T42 x1 (i : Nat)) = false → validS l0 l1 l2 l3 l4 = false) := by
                            refine ⟨fun hno => validS_no fun h => ?_⟩
                            have := ((validS_iff _ _ _ _ _).1 h).2.2.2.2.2 i (rd_T42 x1 (i : Nat)) (by rw [hr.out]; exact (HVI.out i hi).2)
                            rw [hr.out, hno] at this
                            cases this
                          have YES : Aside0 (okIns l0 l2 l4.length (rd x2 (i : Nat)) (rd_T42 x1 (i : Nat)) = true → ∀ j : Nat, j < i + 1 → okIns l0 l2 l4.length (rd x2 (j : Nat)) (rd_T42 x1 (j : Nat)) = true) := by
                            refine ⟨fun hy j hj => ?_⟩
                            by_cases e : j = i
                            · rw [e]; exact hy
                            · exact Hall5.out j (by omega)
                          generalize rd x2 (i : Nat) = p at *
                          generalize rd_T42 x1 (i : Nat) = i1 at *
                          obtain ⟨op, A, B, C, X⟩ := i1
                          replace hv := Aside0.mk hv
                          rename_i z0 z1 z2 z3 z4 z5 z6 z7 z8 z9 z10 z11 z12 z13 z14 z15 z16 z17 z18 z19 z20 z21 z22 z23 z24 z25 z26 z27 z28 z29 z30
                          (try clear z24); (try clear z23); (try clear z22); (try clear z21); (try clear z20); (try clear z19); (try clear z18); (try clear z17); (try clear z16); (try clear z15); (try clear z14); (try clear z13); (try clear z12); (try clear z11); (try clear z10); (try clear z9); (try clear z8); (try clear z7); (try clear z6); (try clear z5); (try clear z4); (try clear z3); (try clear z2); (try clear z1); (try clear z0)
                          have hi2 : i < x2.length := by have := HX2.out; omega
                          have hgl := blk_lt (blk_below B0r.out HR.out)
                          by_cases h5 : op = 5 ∨ op = 7 ∨ op = 8
                          · have okE : okIns l0 l2 l4.length p ⟨op, A, B, C, X⟩ = isStart l0 (wrap64 (p + X)) := by rcases h5 with rfl | rfl | rfl <;> simp [okIns]
                            rw [okE] at NO YES
                            clear okE
                            obtain ⟨v1, hv1⟩ : ∃ v, isStart l0 (wrap64 (p + X)) = v := ⟨_, rfl⟩
                            rw [hv1] at NO YES
                            replace hv1 : Hid (beginB (marks n0 x2) (IntKind.i64.wrap (p + X)) = v1) := Lib.hid (by rw [HBS.out, i64w]; exact hv1)
                            rcases h5 with rfl | rfl | rfl
                            · have BI := blk_new wr (.cells #[.int .i64 5, .int .i64 A, .int .i64 B, .int .i64 C, .int .i64 X] 42 (0, 0))
                              have HRa : Below wr.heap.size wr (wr.alloc (.cells #[.int .i64 5, .int .i64 A, .int .i64 B, .int .i64 C, .int .i64 X] 42 (0, 0))) := below_alloc (Below.refl _ _) _
                              go_wp2_with fail
                              generalize hwv : wr.alloc _ = wv at BI HRa ⊢
                              have hx' := pw_cell_below HRa hx
                              have b1' := pw_cell_below HRa b1
                              have b2' := pw_cell_below HRa b2
                              have G1' := Aside0.mk (pw_cell_below HRa G1.out)
                              have HR' := Aside0.mk (below_step HR.out HRa)
                              have i0_ := (blk_cell BI 0).trans rfl
                              have i1_ := (blk_cell BI 1).trans rfl
                              have i4_ := (blk_cell BI 4).trans rfl
                              generalize wr.heap.size = gi at BI HRa i0_ i1_ i4_ ⊢
                              clear hx b1 b2 b4 G1 f0 f1 f2 f3 f4 BI HRa hwv HR hgl
                              refine wp_region_still_lit (by kernel_rfl) (by kernel_rfl) ?_
                              repeat still_step
                              refine wpStill_step (fun K hK => ?_)
                              go_simp
                              refine ⟨_, begin_v hv1.out (show wv.drew.cell? _ = _ from G1'.out) (blk_drew (blk_below Gg.out HR'.out)), hK _ ?_⟩
                              clear hK K
                              repeat still_step
                              refine wpStill_nil ?_
                              cases v1 with
                              | false =>
                                have EE := Lib.hid (NO.out rfl)
                                go_wp2_with fail
                                go_ret
                                exact ⟨ret_b EE.out.symm, below_step HBr.out (by first | exact HR'.out | exact below_drew HR'.out | exact pw_below_drewN HR'.out _ | exact below_alloc HR.out _)⟩
                              | true =>
                                have YY := Aside0.mk (YES.out rfl)
                                go_wp2_with fail
                                go_roundg k1
                                case measure => omega
                                case rel => exact ⟨i + 1, by go_num, ⟨by have := Hi5.out; omega⟩, YY, ⟨by first | exact HR'.out | exact below_drew HR'.out | exact pw_below_drewN HR'.out _ | exact below_alloc HR.out _⟩⟩
                            · have BI := blk_new wr (.cells #[.int .i64 7, .int .i64 A, .int .i64 B, .int .i64 C, .int .i64 X] 42 (0, 0))
                              have HRa : Below wr.heap.size wr (wr.alloc (.cells #[.int .i64 7, .int .i64 A, .int .i64 B, .int .i64 C, .int .i64 X] 42 (0, 0))) := below_alloc (Below.refl _ _) _
                              go_wp2_with fail
                              generalize hwv : wr.alloc _ = wv at BI HRa ⊢
                              have hx' := pw_cell_below HRa hx
                              have b1' := pw_cell_below HRa b1
                              have b2' := pw_cell_below HRa b2
                              have G1' := Aside0.mk (pw_cell_below HRa G1.out)
                              have HR' := Aside0.mk (below_step HR.out HRa)
                              have i0_ := (blk_cell BI 0).trans rfl
                              have i1_ := (blk_cell BI 1).trans rfl
                              have i4_ := (blk_cell BI 4).trans rfl
                              generalize wr.heap.size = gi at BI HRa i0_ i1_ i4_ ⊢
                              clear hx b1 b2 b4 G1 f0 f1 f2 f3 f4 BI HRa hwv HR hgl
                              refine wp_region_still_lit (by kernel_rfl) (by kernel_rfl) ?_
                              repeat still_step
                              refine wpStill_step (fun K hK => ?_)
                              go_simp
                              refine ⟨_, begin_v hv1.out (show wv.drew.cell? _ = _ from G1'.out) (blk_drew (blk_below Gg.out HR'.out)), hK _ ?_⟩
                              clear hK K
                              repeat still_step
                              refine wpStill_nil ?_
                              cases v1 with
                              | false =>
                                have EE := Lib.hid (NO.out rfl)
                                go_wp2_with fail
                                go_ret
                                exact ⟨ret_b EE.out.symm, below_step HBr.out (by first | exact HR'.out | exact below_drew HR'.out | exact pw_below_drewN HR'.out _ | exact below_alloc HR.out _)⟩
                              | true =>
                                have YY := Aside0.mk (YES.out rfl)
                                go_wp2_with fail
                                go_roundg k1
                                case measure => omega
                                case rel => exact ⟨i + 1, by go_num, ⟨by have := Hi5.out; omega⟩, YY, ⟨by first | exact HR'.out | exact below_drew HR'.out | exact pw_below_drewN HR'.out _ | exact below_alloc HR.out _⟩⟩
                            · have BI := blk_new wr (.cells #[.int .i64 8, .int .i64 A, .int .i64 B, .int .i64 C, .int .i64 X] 42 (0, 0))
                              have HRa : Below wr.heap.size wr (wr.alloc (.cells #[.int .i64 8, .int .i64 A, .int .i64 B, .int .i64 C, .int .i64 X] 42 (0, 0))) := below_alloc (Below.refl _ _) _
                              go_wp2_with fail
                              generalize hwv : wr.alloc _ = wv at BI HRa ⊢
                              have hx' := pw_cell_below HRa hx
                              have b1' := pw_cell_below HRa b1
                              have b2' := pw_cell_below HRa b2
                              have G1' := Aside0.mk (pw_cell_below HRa G1.out)
                              have HR' := Aside0.mk (below_step HR.out HRa)
                              have i0_ := (blk_cell BI 0).trans rfl
                              have i1_ := (blk_cell BI 1).trans rfl
                              have i4_ := (blk_cell BI 4).trans rfl
                              generalize wr.heap.size = gi at BI HRa i0_ i1_ i4_ ⊢
                              clear hx b1 b2 b4 G1 f0 f1 f2 f3 f4 BI HRa hwv HR hgl
                              refine wp_region_still_lit (by kernel_rfl) (by kernel_rfl) ?_
                              repeat still_step
                              refine wpStill_step (fun K hK => ?_)
                              go_simp
                              refine ⟨_, begin_v hv1.out (show wv.drew.cell? _ = _ from G1'.out) (blk_drew (blk_below Gg.out HR'.out)), hK _ ?_⟩
                              clear hK K
                              repeat still_step
                              refine wpStill_nil ?_
                              cases v1 with
                              | false =>
                                have EE := Lib.hid (NO.out rfl)
                                go_wp2_with fail
                                go_ret
                                exact ⟨ret_b EE.out.symm, below_step HBr.out (by first | exact HR'.out | exact below_drew HR'.out | exact pw_below_drewN HR'.out _ | exact below_alloc HR.out _)⟩
                              | true =>
                                have YY := Aside0.mk (YES.out rfl)
                                go_wp2_with fail
                                go_roundg k1
                                case measure => omega
                                case rel => exact ⟨i + 1, by go_num, ⟨by have := Hi5.out; omega⟩, YY, ⟨by first | exact HR'.out | exact below_drew HR'.out | exact pw_below_drewN HR'.out _ | exact below_alloc HR.out _⟩⟩
                          · by_cases h6 : op = 6
                            · subst h6
                              have okE : okIns l0 l2 l4.length p ⟨6, A, B, C, X⟩ = (decide (X < l2.length) && rd l2 X == A) := by simp [okIns]
                              rw [H2.out.len] at okE
                              have hX0 : 0 ≤ X := by
                                have h1 := (vI_val hv.out).2.2.2.2.2.2.2.2.2.2.2.2 (by show hasN (formOf 6) = true; decide +kernel)
                                have h2 : loN (6 : Int) = 0 := by decide +kernel
                                simp only at h1
                                omega
                              have BI := blk_new wr (.cells #[.int .i64 6, .int .i64 A, .int .i64 B, .int .i64 C, .int .i64 X] 42 (0, 0))
                              have HRa : Below wr.heap.size wr (wr.alloc (.cells #[.int .i64 6, .int .i64 A, .int .i64 B, .int .i64 C, .int .i64 X] 42 (0, 0))) := below_alloc (Below.refl _ _) _
                              by_cases hX : X < (n2 : Int)
                              · have tX : decide ((n2 : Int) ≤ X) = false := decide_eq_false (by omega)
                                have hX' : X < (n2 : Int) := hX
                                rw [decide_eq_true hX, Bool.true_and] at okE
                                obtain ⟨ad2, e2, hx2⟩ := Kd.at_int (Kd.C_below H2.out.C HR.out) X hX0 hX
                                subst e2
                                rw [okE] at NO YES
                                clear okE
                                generalize rd l2 X = Q at *
                                obtain ⟨v1, hv1⟩ : ∃ v, (Q != A) = v := ⟨_, rfl⟩
                                have hq : (Q == A) = !v1 := by rw [← hv1]; simp [bne]
                                rw [hq] at NO YES
                                clear hq
                                go_wp2_with fail
                                generalize hwv : wr.alloc _ = wv at BI HRa ⊢
                                have hx' := pw_cell_below HRa hx
                                have b1' := pw_cell_below HRa b1
                                have b2' := pw_cell_below HRa b2
                                have G1' := Aside0.mk (pw_cell_below HRa G1.out)
                                have HR' := Aside0.mk (below_step HR.out HRa)
                                have i0_ := (blk_cell BI 0).trans rfl
                                have i1_ := (blk_cell BI 1).trans rfl
                                have i4_ := (blk_cell BI 4).trans rfl
                                have hx2' := pw_cell_below HRa hx2
                                clear hx2
                                generalize wr.heap.size = gi at BI HRa i0_ i1_ i4_ ⊢
                                clear hx b1 b2 b4 G1 f0 f1 f2 f3 f4 BI HRa hwv HR hgl
                                go_still (by kernel_rfl)
                                cases v1 with
                                | true =>
                                  have EE := Lib.hid (NO.out rfl)
                                  go_wp2_with fail
                                  go_ret
                                  exact ⟨ret_b EE.out.symm, below_step HBr.out (by first | exact HR'.out | exact below_drew HR'.out | exact pw_below_drewN HR'.out _ | exact below_alloc HR.out _)⟩
                                | false =>
                                  have YY := Aside0.mk (YES.out rfl)
                                  go_wp2_with fail
                                  go_roundg k1
                                  case measure => omega
                                  case rel => exact ⟨i + 1, by go_num, ⟨by have := Hi5.out; omega⟩, YY, ⟨by first | exact HR'.out | exact below_drew HR'.out | exact pw_below_drewN HR'.out _ | exact below_alloc HR.out _⟩⟩
                              · have tX : decide ((n2 : Int) ≤ X) = true := decide_eq_true (by omega)
                                have hX' : (n2 : Int) ≤ X := by omega
                                rw [decide_eq_false hX, Bool.false_and] at okE
                                rw [okE] at NO YES
                                clear okE hX
                                have EE := Lib.hid (NO.out rfl)
                                clear NO YES hv hX'
                                go_wp2_with fail
                                generalize hwv : wr.alloc _ = wv at BI HRa ⊢
                                have hx' := pw_cell_below HRa hx
                                have b1' := pw_cell_below HRa b1
                                have b2' := pw_cell_below HRa b2
                                have G1' := Aside0.mk (pw_cell_below HRa G1.out)
                                have HR' := Aside0.mk (below_step HR.out HRa)
                                have i0_ := (blk_cell BI 0).trans rfl
                                have i1_ := (blk_cell BI 1).trans rfl
                                have i4_ := (blk_cell BI 4).trans rfl
                                generalize wr.heap.size = gi at BI HRa i0_ i1_ i4_ ⊢
                                clear hx b1 b2 b4 G1 f0 f1 f2 f3 f4 BI HRa hwv HR hgl
                                go_quiet (fail)
                                go_wp2_with fail
                                go_ret
                                exact ⟨ret_b EE.out.symm, below_step HBr.out (by first | exact HR'.out | exact below_drew HR'.out | exact pw_below_drewN HR'.out _ | exact below_alloc HR.out _)⟩
                            · by_cases h34 : op = 34 ∨ op = 35
                              · have okE : okIns l0 l2 l4.length p ⟨op, A, B, C, X⟩ = decide (X < l4.length) := by rcases h34 with rfl | rfl <;> simp [okIns]
                                replace okE : okIns l0 l2 l4.length p ⟨op, A, B, C, X⟩ = decide (X < (n4 : Int)) := by rw [okE, H4.out.len]
                                by_cases hX : X < (n4 : Int)
                                · have tX : decide ((n4 : Int) ≤ X) = false := decide_eq_false (by omega)
                                  have hX' : X < (n4 : Int) := hX
                                  rw [okE, decide_eq_true hX] at NO YES
                                  clear okE hX
                                  rcases h34 with rfl | rfl
                                  · have YY := Aside0.mk (YES.out rfl)
                                    go_wp2_with fail
                                    go_roundg k1
                                    case measure => omega
                                    case rel => exact ⟨i + 1, by go_num, ⟨by have := Hi5.out; omega⟩, YY, ⟨by first | exact HR'.out | exact below_drew HR'.out | exact pw_below_drewN HR'.out _ | exact below_alloc HR.out _⟩⟩
                                  · have YY := Aside0.mk (YES.out rfl)
                                    go_wp2_with fail
                                    go_roundg k1
                                    case measure => omega
                                    case rel => exact ⟨i + 1, by go_num, ⟨by have := Hi5.out; omega⟩, YY, ⟨by first | exact HR'.out | exact below_drew HR'.out | exact pw_below_drewN HR'.out _ | exact below_alloc HR.out _⟩⟩
                                · have tX : decide ((n4 : Int) ≤ X) = true := decide_eq_true (by omega)
                                  have hX' : (n4 : Int) ≤ X := by omega
                                  rw [okE, decide_eq_false hX] at NO YES
                                  clear okE hX
                                  rcases h34 with rfl | rfl
                                  · have EE := Lib.hid (NO.out rfl)
                                    go_wp2_with fail
                                    go_ret
                                    exact ⟨ret_b EE.out.symm, below_step HBr.out (by first | exact HR'.out | exact below_drew HR'.out | exact pw_below_drewN HR'.out _ | exact below_alloc HR.out _)⟩
                                  · have EE := Lib.hid (NO.out rfl)
                                    go_wp2_with fail
                                    go_ret
                                    exact ⟨ret_b EE.out.symm, below_step HBr.out (by first | exact HR'.out | exact below_drew HR'.out | exact pw_below_drewN HR'.out _ | exact below_alloc HR.out _)⟩
                              · have h5' : op ≠ 5 ∧ op ≠ 7 ∧ op ≠ 8 := ⟨fun h => h5 (.inl h), fun h => h5 (.inr (.inl h)), fun h => h5 (.inr (.inr h))⟩
                                have t5 : (op == 5) = false := beq_eq_false_iff_ne.2 h5'.1
                                have t7 : (op == 7) = false := beq_eq_false_iff_ne.2 h5'.2.1
                                have t8 : (op == 8) = false := beq_eq_false_iff_ne.2 h5'.2.2
                                have t6 : (op == 6) = false := beq_eq_false_iff_ne.2 h6
                                have t34 : (op == 34) = false := beq_eq_false_iff_ne.2 fun h => h34 (.inl h)
                                have t35 : (op == 35) = false := beq_eq_false_iff_ne.2 fun h => h34 (.inr h)
                                have okE : okIns l0 l2 l4.length p ⟨op, A, B, C, X⟩ = true := by simp [okIns, t5, t7, t8, t6, t34, t35]
                                rw [okE] at NO YES
                                clear okE h5' h5 h6 h34
                                have YY := Aside0.mk (YES.out rfl)
                                go_wp2_with fail
                                go_roundg k1
                                case measure => omega
                                case rel => exact ⟨i + 1, by go_num, ⟨by have := Hi5.out; omega⟩, YY, ⟨by first | exact HR'.out | exact below_drew HR'.out | exact pw_below_drewN HR'.out _ | exact below_alloc HR.out _⟩⟩
                      · have hie : i = x1.length := by have := Hi5.out; omega
                        subst hie
                        have ti : decide (x1.length < x1.length) = false := decide_eq_false hi
                        have e : validS l0 l1 l2 l3 l4 = true := (validS_iff _ _ _ _ _).2 (by
                          rw [hr.out]
                          refine ⟨HLT.out, rfl, by rw [HLA.out, Option.any_some]; exact HCF.out, fun k hk => Hall.out k (by rw [H1.out.len] at hk; exact hk), fun k hk => Hall4.out k (by rw [H4.out.len] at hk; exact hk), fun k i hk => ?_⟩
                          have hk2 := (List.getElem?_eq_some_iff.1 hk).1
                          have h5 := Hall5.out k hk2
                          have h6 := (HVI.out k hk2).2
                          rw [show (x1, x2, (0 : Int)).1[k]? = some i from hk] at *
                          rw [show i = rd_T42 x1 (k : Nat) from Option.some.inj (hk.symm.trans h6)]
                          exact h5)
                        have E := Lib.hid e
                        clear e hi
                        go_wp2_with fail
                        go_ret
                        exact ⟨ret_b E.out.symm, below_step HBr.out HR.out⟩
    · have tx : (x3 != 0) = true := bne_iff_ne.2 hx
      have e : validS l0 l1 l2 l3 l4 = false := validS_no fun h => by
        have := ((validS_iff _ _ _ _ _).1 h).2.1
        rw [hr.out] at this
        exact hx this
      have E := Lib.hid e
      clear hx e
      go_wp2_with fail
      go_ret
      exact ⟨ret_b E.out.symm, HB.out⟩
end Go.Proofs.YtcjidibdidijaaaDoor
