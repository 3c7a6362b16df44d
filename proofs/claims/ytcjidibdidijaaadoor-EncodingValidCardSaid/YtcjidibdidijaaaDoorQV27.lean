/- Parts of this proof in one text: Mut. -/
import Derived.Test.YtcjidibdidijaaaDoorQV26
import Derived.StillTailTactics
namespace Go.Proofs.YtcjidibdidijaaaDoor
open Go.RowKit Go.Proofs.YtcjidibdidijaaaDoor.PCod Go.Proofs.YtcjidibdidijaaaDoorW.PrintWords Go.Proofs.YtcjidibdidijaaaDoorW.PrintMore Go.Proofs.YtcjidibdidijaaaDoor.DecL
set_option linter.unusedVariables false
set_option linter.unusedSimpArgs false
theorem flip2_any {w : World} {A : Option Addr} {n c : Nat} {l : List Int} (h : SL w A n c l) (p q : Int) :
    Calls Tryd.prog 40 #[.slice A n c, .int .i64 p, .int .i64 q] w fun e w' => ∃ A' c' l', e = .returned (.slice A' n c') ∧ SL w' A' n c' l' ∧ (∀ ad, A' = some ad → 0 < n → w.heap.size ≤ ad.block) ∧ Below w.heap.size w w' := by
  obtain ⟨hC, hc, rfl, hu, hl⟩ := h
  refine (fullingkeep2_FlipBit.calls A c l p q _ w hC hc (flip_f l p q (by omega))).mono fun e w' ⟨v, he, hR, hb⟩ => ?_
  obtain ⟨A', c', rfl, hc', hC'⟩ := Kd.R_reads hR
  rw [flip_len] at he hc' hC'
  refine ⟨A', c', _, he, ⟨hC', hc', flip_len l p q, flip_u32 l hu p q, hl⟩, fun ad e0 hp => ?_, hb⟩
  obtain ⟨g1, cp, e1, hb1, _⟩ := Kd.R_form hR (by rw [flip_len]; exact hp)
  injection e1 with e1 _ _
  rw [e1] at e0
  obtain rfl := Option.some.inj e0
  exact hb1
theorem C_lt {k : IntKind} {w : World} {A : Option Addr} {n : Nat} {l : List Int} (h : (Kd.int k).C w A n l) : ∀ ad, A = some ad → 0 < n → ad.block < w.heap.size := by
  intro ad e hp
  obtain ⟨ad2, e2, hx⟩ := Kd.at_int h 0 (by omega) (by omega)
  rw [e] at e2
  obtain rfl := Option.some.inj e2
  have := World.block_lt_of_cell? _ _ hx
  rwa [add_block] at this
theorem SI.take {w : World} {A : Option Addr} {n c : Nat} {l : List Int} (h : SI w A n c l) (m : Nat) (hm : m ≤ n) : SI w A m c (l.take m) :=
  ⟨Kd.C_of_reads (d := (0 : Int)) (h1 := fun _ => rfl) (ReadsInt.take_ (readsInt_of.2 (Kd.reads_of_C (d := (0 : Int)) h.C)) m hm), by have := h.le; omega, by rw [List.length_take, h.len]; omega, by have := h.sm; omega⟩
theorem SI.run {w : World} {A : Option Addr} {n c : Nat} {l : List Int} (h : SI w A n c l) (j : Int) (m : Nat) (hj : j = m) (hm : m ≤ n) (W : World) : (Instr.slice 22 (.slice A n c) none (some (.int .i64 j)) none).run Tryd.prog W = .ok (.slice A m c) W := by
  obtain ⟨hC, hc, rfl, hl⟩ := h
  obtain ⟨i3, hi3, e3⟩ := Option.map_eq_some_iff.1 info3
  have z3 : i3.size = 1 := congrArg (fun p => p.2.1) e3
  have := (print_take_int (k := .i64) (P := Tryd.prog) 22 3 Tryd.underlying22 hi3 z3 A c l j (by omega) (by omega) hc).1 W
  rw [this, show (l.take j.toNat).length = m by rw [List.length_take]; omega]
theorem pickv (a m : Int) (w : World) (h : 0 < m) (h2 : m < 9223372036854775807) : Calls Tryd.prog 19 #[.int .i64 a, .int .i64 m] w fun e w' => ∃ p, e = .returned (.int .i64 p) ∧ 0 ≤ p ∧ p < m ∧ w = w' := by
  have hr := pickN_range a m h h2
  exact (pick_calls a m h w).mono fun e w' ⟨he, hw⟩ => ⟨_, he, hr.1, hr.2, hw⟩
theorem end45 {a : Act} {W : World} {g2 : Nat} {A0 A1 A2 A3 A4 : Option Addr} {n0 n1 n2 n3 n4 c0 c1 c2 c3 c4 : Nat} (hp : a.tmps.getD 8 undef = .pointer (some ⟨g2, 0, none⟩)) (hd : a.defers = [])
    (hb : W.heap[g2]? = some (.cells #[.slice A0 n0 c0, .slice A1 n1 c1, .slice A2 n2 c2, .slice A3 n3 c3, .slice A4 n4 c4] 25 (0, 0))) {Q : Ending → World → Prop}
    (h : Q (.returned (.agg #[.slice A0 n0 c0, .slice A1 n1 c1, .slice A2 n2 c2, .slice A3 n3 c3, .slice A4 n4 c4])) W) : bodyPost Tryd.prog Tryd.f45 Q .ret a W := by
  refine bodyPost_ret (v := .agg #[.slice A0 n0 c0, .slice A1 n1 c1, .slice A2 n2 c2, .slice A3 n3 c3, .slice A4 n4 c4]) ?_ hd h
  have hp2 : a.tmps[8]?.getD undef = .pointer (some ⟨g2, 0, none⟩) := by simpa using hp
  have x0 : W.cell? ⟨g2, 0, none⟩ = some (.slice A0 n0 c0) := (blk_cell hb 0).trans rfl
  have x1 : W.cell? ⟨g2, 1, none⟩ = some (.slice A1 n1 c1) := (blk_cell hb 1).trans rfl
  have x2 : W.cell? ⟨g2, 2, none⟩ = some (.slice A2 n2 c2) := (blk_cell hb 2).trans rfl
  have x3 : W.cell? ⟨g2, 3, none⟩ = some (.slice A3 n3 c3) := (blk_cell hb 3).trans rfl
  have x4 : W.cell? ⟨g2, 4, none⟩ = some (.slice A4 n4 c4) := (blk_cell hb 4).trans rfl
  simp [results, Tryd.results45, go_sem, hp, hp2, x0, x1, x2, x3, x4]
theorem SI.blk {w : World} {g c : Nat} {l : List Int} (h : w.heap[g]? = some (.cells (nums .i64 l).toArray 3 (0, 0))) (hl : l.length ≤ 100) (hc : l.length ≤ c) : SI w (some ⟨g, 0, none⟩) l.length c l := ⟨C32_blk (k := .i64) h (by omega), hc, rfl, by omega⟩
def MutPost (w : World) (e : Ending) (w' : World) : Prop := ∃ v W E P S A, e = .returned v ∧ BinAt w' v W E P S A ∧ W.length ≤ 60000 ∧ Below w.heap.size w w'
set_option maxRecDepth 100000 in
set_option maxHeartbeats 20000000 in
theorem mutate_any {v0 : Value} {W E P S A : List Int} {w : World} (h : BinAt w v0 W E P S A) (hW : W.length ≤ 60000) (hE : 1 ≤ E.length) (hA : A.length = 2) (how at_ by_ : Int) :
    Calls Tryd.prog 45 #[v0, .int .i64 how, .int .i64 at_, .int .i64 by_] w (MutPost w) := by
  obtain ⟨A0, n0, c0, A1, n1, c1, A2, n2, c2, A3, n3, c3, A4, n4, c4, rfl, h0, h1, h2, h3, h4⟩ := h
  have hb2 : (w.alloc (.cells #[.slice A0 n0 c0, .slice A1 n1 c1, .slice A2 n2 c2, .slice A3 n3 c3, .slice A4 n4 c4] 25 (0, 0))).heap.size = w.heap.size + 1 := by simp
  have B4 := blk_alloc (blk_new w (.cells #[.slice A0 n0 c0, .slice A1 n1 c1, .slice A2 n2 c2, .slice A3 n3 c3, .slice A4 n4 c4] 25 (0, 0))) (.cells #[.slice none 0 0, .slice none 0 0, .slice none 0 0, .slice none 0 0, .slice none 0 0] 25 (0, 0))
  have B8 := blk_new (w.alloc (.cells #[.slice A0 n0 c0, .slice A1 n1 c1, .slice A2 n2 c2, .slice A3 n3 c3, .slice A4 n4 c4] 25 (0, 0))) (.cells #[.slice none 0 0, .slice none 0 0, .slice none 0 0, .slice none 0 0, .slice none 0 0] 25 (0, 0))
  rw [hb2] at B8
  have HBa : Below w.heap.size w ((w.alloc (.cells #[.slice A0 n0 c0, .slice A1 n1 c1, .slice A2 n2 c2, .slice A3 n3 c3, .slice A4 n4 c4] 25 (0, 0))).alloc (.cells #[.slice none 0 0, .slice none 0 0, .slice none 0 0, .slice none 0 0, .slice none 0 0] 25 (0, 0))) := below_alloc (below_alloc (Below.refl _ _) _) _
  have F0 := Aside0.mk (C_lt h0.C)
  have F1 := Aside0.mk (C_lt h1.C)
  have F2 := Aside0.mk (C_lt h2.C)
  have F3 := Aside0.mk (C_lt h3.C)
  have F4 := Aside0.mk (C_lt h4.C)
  have H0 := Aside0.mk (h0.below HBa)
  have H1 := Aside0.mk (h1.below HBa)
  have H2 := Aside0.mk (h2.below HBa)
  have H3 := Aside0.mk (h3.below HBa)
  have H4 := Aside0.mk (h4.below HBa)
  have HW := Aside0.mk hW
  have HE := Aside0.mk hE
  have HA := Lib.hid hA
  clear h0 h1 h2 h3 h4 hW hE hA hb2
  go_enter Tryd.func45, Tryd.ntmps45
  go_wp2_with fail
  generalize hwa : (w.alloc (.cells #[.slice A0 n0 c0, .slice A1 n1 c1, .slice A2 n2 c2, .slice A3 n3 c3, .slice A4 n4 c4] 25 (0, 0))).alloc (.cells #[.slice none 0 0, .slice none 0 0, .slice none 0 0, .slice none 0 0, .slice none 0 0] 25 (0, 0)) = wa at *
  obtain ⟨g4, hg4⟩ : ∃ g4, w.heap.size = g4 := ⟨_, rfl⟩
  have HB := Aside0.mk HBa
  rw [hg4] at B4 B8 ⊢
  have HG := Lib.hid hg4
  replace B4 := Aside0.mk B4
  replace B8 := Aside0.mk B8
  clear hwa hg4 HBa
  refine (pickv by_ 30 _ (by omega) (by omega)).mono ?_
  rintro e w' ⟨pb, rfl, pb0, pb1, rfl⟩
  go_wp2_with fail
  refine (pickv how 12 _ (by omega) (by omega)).mono ?_
  rintro e w' ⟨ph, rfl, ph0, ph1, rfl⟩
  have a0 := (blk_cell B4.out 0).trans rfl
  have a1 := (blk_cell B4.out 1).trans rfl
  have a2 := (blk_cell B4.out 2).trans rfl
  have a3 := (blk_cell B4.out 3).trans rfl
  have a4 := (blk_cell B4.out 4).trans rfl
  have z0 := (blk_cell B8.out 0).trans rfl
  have z1 := (blk_cell B8.out 1).trans rfl
  have z2 := (blk_cell B8.out 2).trans rfl
  have z3 := (blk_cell B8.out 3).trans rfl
  have z4 := (blk_cell B8.out 4).trans rfl
  have af : ∀ q, wa.frozen? ⟨g4, q, none⟩ = false := fun q => blk_frozen B4.out q
  have zf : ∀ q, wa.frozen? ⟨g4 + 1, q, none⟩ = false := fun q => blk_frozen B8.out q
  have hl4 := blk_lt B4.out
  have hl8 := blk_lt B8.out
  have hne : g4 ≠ g4 + 1 := by omega
  have hne2 : g4 + 1 ≠ g4 := by omega
  have HN : Aside0 (∀ k : Nat, k < w.heap.size → ¬ (k = g4 ∨ k = g4 + 1)) := ⟨fun k hk => by have := HG.out; omega⟩
  have HM : Aside0 (∀ k : Nat, k = g4 ∨ k = g4 + 1 → w.heap.size ≤ k) := ⟨fun k hk => by have := HG.out; omega⟩
  generalize g4 + 1 = g8 at *
  obtain ⟨pn, hpn⟩ : ∃ pn, pb - 3 = pn := ⟨_, rfl⟩
  by_cases q0 : ph = 0
  · subst q0
    go_wp2_with fail
    refine (flip2_any H0.out at_ by_).mono ?_
    rintro e we ⟨A', c', l', rfl, hs, hfar, hbe⟩
    obtain ⟨kc, kf⟩ := bcell hbe
    have HS := Aside0.mk (And.intro hs (And.intro hfar hbe))
    have HL := Aside0.mk (show g4 < wa.heap.size ∧ g8 < wa.heap.size from ⟨hl4, hl8⟩)
    have a0' := pw_cell_below hbe a0
    have a1' := pw_cell_below hbe a1
    have a2' := pw_cell_below hbe a2
    have a3' := pw_cell_below hbe a3
    have a4' := pw_cell_below hbe a4
    have z0' := pw_cell_below hbe z0
    have z1' := pw_cell_below hbe z1
    have z2' := pw_cell_below hbe z2
    have z3' := pw_cell_below hbe z3
    have z4' := pw_cell_below hbe z4
    have af' : ∀ q, we.frozen? ⟨g4, q, none⟩ = false := fun q => blk_frozen (blk_below B4.out hbe) q
    have zf' : ∀ q, we.frozen? ⟨g8, q, none⟩ = false := fun q => blk_frozen (blk_below B8.out hbe) q
    clear hs hfar hbe kc kf af zf
    clear a0 a1 a2 a3 a4 z0 z1 z2 z3 z4
    go_wp2_with fail
    obtain ⟨hs, hfar, hbe⟩ := HS.out
    have hO : Off (fun k => k = g4 ∨ k = g8) we ((((((we.setCell ⟨g4, 0, none⟩ (.slice A' n0 c')).setCell ⟨g8, 0, none⟩ (.slice A' n0 c')).setCell ⟨g8, 1, none⟩ (.slice A1 n1 c1)).setCell ⟨g8, 2, none⟩ (.slice A2 n2 c2)).setCell ⟨g8, 3, none⟩ (.slice A3 n3 c3)).setCell ⟨g8, 4, none⟩ (.slice A4 n4 c4)) := (((((((Off.refl _ _).setCell (.inl (.inl rfl)) _).setCell (.inl (.inr rfl)) _).setCell (.inl (.inr rfl)) _).setCell (.inl (.inr rfl)) _).setCell (.inl (.inr rfl)) _).setCell (.inl (.inr rfl)) _)
    refine end45 (g2 := g8) (A0 := A') (n0 := n0) (c0 := c') (A1 := A1) (n1 := n1) (c1 := c1) (A2 := A2) (n2 := n2) (c2 := c2) (A3 := A3) (n3 := n3) (c3 := c3) (A4 := A4) (n4 := n4) (c4 := c4) rfl rfl (blk_put (blk_put (blk_put (blk_put (blk_put (blk_far (blk_below B8.out hbe) hne2 _) 0 _ rfl) 1 _ rfl) 2 _ rfl) 3 _ rfl) 4 _ rfl) ?_
    refine ⟨_, _, _, _, _, _, rfl, ⟨_, _, _, _, _, _, _, _, _, _, _, _, _, _, _, rfl, SL_off hs hO (fun ad e hp => by have := hfar ad e hp; have := HL.out; omega), (H1.out.below hbe).off hO (fun ad e hp => HN.out _ (F1.out ad e hp)), (H2.out.below hbe).off hO (fun ad e hp => HN.out _ (F2.out ad e hp)), (H3.out.below hbe).off hO (fun ad e hp => HN.out _ (F3.out ad e hp)), (H4.out.below hbe).off hO (fun ad e hp => HN.out _ (F4.out ad e hp))⟩, by have := hs.len; have h2 := H0.out.len; have := HW.out; omega, Off.toBelow (below_step HB.out hbe) hO (fun k hk => HM.out k hk)⟩
  · by_cases q1 : ph = 1
    · subst q1
      have hn0 := H0.out.len
      have hnw := HW.out
      have hr := pickN_range at_ ((n0 : Int) + 1) (by omega) (by omega)
      obtain ⟨m, hm0, hm⟩ : ∃ m : Nat, pickN at_ ((n0 : Int) + 1) = (m : Int) ∧ m ≤ n0 := ⟨(pickN at_ ((n0 : Int) + 1)).toNat, by omega, by omega⟩
      have hpk : ∀ W, Calls Tryd.prog 19 #[.int .i64 at_, .int .i64 ((n0 : Int) + 1)] W fun e w' => e = .returned (.int .i64 (m : Int)) ∧ w' = W := fun W => by
        have h := pick_still at_ ((n0 : Int) + 1) (by omega) W
        rw [hm0] at h
        exact h
      replace hpk := Aside0.mk hpk
      have hrun := H0.out.run (m : Int) m rfl hm
      have hs1 : Hid (IntKind.i64.wrap ((n0 : Int) + 1) = (n0 : Int) + 1) := Lib.hid (by rw [i64w]; unfold wrap64; omega)
      clear hr hm0 hn0 hnw
      go_wp2_with fail
      replace hs1 := hs1.out
      clear pb0 pb1 ph0 ph1 hpn
      refine wp_region_still_tail 10 (by kernel_rfl) (by kernel_rfl) ?_
      simp only [List.take_succ_cons, List.take_zero, List.drop_succ_cons, List.drop_zero]
      repeat still_step
      refine wpStill_step (fun K hK => ?_)
      go_simp
      refine ⟨_, hpk.out _, hK _ ?_⟩
      clear hK K
      repeat still_step
      refine wpStill_nil ?_
      clear hrun hs1
      go_wp2_with fail
      have hO : Off (fun k => k = g4 ∨ k = g8) wa (((((((wa.setCell ⟨g4, 0, none⟩ (.slice A0 m c0)).setCell ⟨g8, 0, none⟩ (.slice A0 m c0)).setCell ⟨g8, 1, none⟩ (.slice A1 n1 c1)).setCell ⟨g8, 2, none⟩ (.slice A2 n2 c2)).setCell ⟨g8, 3, none⟩ (.slice A3 n3 c3)).setCell ⟨g8, 4, none⟩ (.slice A4 n4 c4)).drew) := ((((((((Off.refl _ _).setCell (.inl (.inl rfl)) _).setCell (.inl (.inr rfl)) _).setCell (.inl (.inr rfl)) _).setCell (.inl (.inr rfl)) _).setCell (.inl (.inr rfl)) _).setCell (.inl (.inr rfl)) _).drew)
      refine end45 (g2 := g8) (A0 := A0) (n0 := m) (c0 := c0) (A1 := A1) (n1 := n1) (c1 := c1) (A2 := A2) (n2 := n2) (c2 := c2) (A3 := A3) (n3 := n3) (c3 := c3) (A4 := A4) (n4 := n4) (c4 := c4) rfl rfl (blk_drew (blk_put (blk_put (blk_put (blk_put (blk_put (blk_far B8.out hne2 _) 0 _ rfl) 1 _ rfl) 2 _ rfl) 3 _ rfl) 4 _ rfl)) ?_
      refine ⟨_, _, _, _, _, _, rfl, ⟨_, _, _, _, _, _, _, _, _, _, _, _, _, _, _, rfl, SL_off (H0.out.take m hm) hO (fun ad e hp => HN.out _ (F0.out ad e (by omega))), H1.out.off hO (fun ad e hp => HN.out _ (F1.out ad e hp)), H2.out.off hO (fun ad e hp => HN.out _ (F2.out ad e hp)), H3.out.off hO (fun ad e hp => HN.out _ (F3.out ad e hp)), H4.out.off hO (fun ad e hp => HN.out _ (F4.out ad e hp))⟩, by rw [List.length_take]; have := HW.out; have := H0.out.len; omega, Off.toBelow HB.out hO (fun k hk => HM.out k hk)⟩
    · by_cases q2 : ph = 2
      · subst q2
        go_wp2_with fail
        have hO : Off (fun k => k = g4 ∨ k = g8) wa (((((((wa.setCell ⟨g4, 1, none⟩ (.slice (some ⟨wa.heap.size, 0, none⟩) 2 2)).setCell ⟨g8, 0, none⟩ (.slice A0 n0 c0)).setCell ⟨g8, 1, none⟩ (.slice (some ⟨wa.heap.size, 0, none⟩) 2 2)).setCell ⟨g8, 2, none⟩ (.slice A2 n2 c2)).setCell ⟨g8, 3, none⟩ (.slice A3 n3 c3)).setCell ⟨g8, 4, none⟩ (.slice A4 n4 c4)).alloc (.cells #[.int .i64 0, .int .i64 pn] 3 (0, 0))) := ((((((((Off.refl _ _).setCell (.inl (.inl rfl)) _).setCell (.inl (.inr rfl)) _).setCell (.inl (.inr rfl)) _).setCell (.inl (.inr rfl)) _).setCell (.inl (.inr rfl)) _).setCell (.inl (.inr rfl)) _).alloc _)
        refine end45 (g2 := g8) (A0 := A0) (n0 := n0) (c0 := c0) (A1 := (some ⟨wa.heap.size, 0, none⟩)) (n1 := 2) (c1 := 2) (A2 := A2) (n2 := n2) (c2 := c2) (A3 := A3) (n3 := n3) (c3 := c3) (A4 := A4) (n4 := n4) (c4 := c4) rfl rfl (blk_alloc (blk_put (blk_put (blk_put (blk_put (blk_put (blk_far B8.out hne2 _) 0 _ rfl) 1 _ rfl) 2 _ rfl) 3 _ rfl) 4 _ rfl) _) ?_
        refine ⟨_, _, _, _, _, _, rfl, ⟨_, _, _, _, _, _, _, _, _, _, _, _, _, _, _, rfl, SL_off H0.out hO (fun ad e hp => HN.out _ (F0.out ad e hp)), SI.blk (l := [0, pn]) (by have h := blk_new ((((((wa.setCell ⟨g4, 1, none⟩ (.slice (some ⟨wa.heap.size, 0, none⟩) 2 2)).setCell ⟨g8, 0, none⟩ (.slice A0 n0 c0)).setCell ⟨g8, 1, none⟩ (.slice (some ⟨wa.heap.size, 0, none⟩) 2 2)).setCell ⟨g8, 2, none⟩ (.slice A2 n2 c2)).setCell ⟨g8, 3, none⟩ (.slice A3 n3 c3)).setCell ⟨g8, 4, none⟩ (.slice A4 n4 c4)) (.cells #[.int .i64 0, .int .i64 pn] 3 (0, 0)); simpa [nums] using h) (by simp) (by simp), H2.out.off hO (fun ad e hp => HN.out _ (F2.out ad e hp)), H3.out.off hO (fun ad e hp => HN.out _ (F3.out ad e hp)), H4.out.off hO (fun ad e hp => HN.out _ (F4.out ad e hp))⟩, HW.out, Off.toBelow HB.out hO (fun k hk => HM.out k hk)⟩
      · by_cases q3 : ph = 3
        · subst q3
          go_wp2_with fail
          have hO : Off (fun k => k = g4 ∨ k = g8) wa (((((((wa.setCell ⟨g4, 2, none⟩ (.slice (some ⟨wa.heap.size, 0, none⟩) 2 2)).setCell ⟨g8, 0, none⟩ (.slice A0 n0 c0)).setCell ⟨g8, 1, none⟩ (.slice A1 n1 c1)).setCell ⟨g8, 2, none⟩ (.slice (some ⟨wa.heap.size, 0, none⟩) 2 2)).setCell ⟨g8, 3, none⟩ (.slice A3 n3 c3)).setCell ⟨g8, 4, none⟩ (.slice A4 n4 c4)).alloc (.cells #[.int .i64 2, .int .i64 pn] 3 (0, 0))) := ((((((((Off.refl _ _).setCell (.inl (.inl rfl)) _).setCell (.inl (.inr rfl)) _).setCell (.inl (.inr rfl)) _).setCell (.inl (.inr rfl)) _).setCell (.inl (.inr rfl)) _).setCell (.inl (.inr rfl)) _).alloc _)
          refine end45 (g2 := g8) (A0 := A0) (n0 := n0) (c0 := c0) (A1 := A1) (n1 := n1) (c1 := c1) (A2 := (some ⟨wa.heap.size, 0, none⟩)) (n2 := 2) (c2 := 2) (A3 := A3) (n3 := n3) (c3 := c3) (A4 := A4) (n4 := n4) (c4 := c4) rfl rfl (blk_alloc (blk_put (blk_put (blk_put (blk_put (blk_put (blk_far B8.out hne2 _) 0 _ rfl) 1 _ rfl) 2 _ rfl) 3 _ rfl) 4 _ rfl) _) ?_
          refine ⟨_, _, _, _, _, _, rfl, ⟨_, _, _, _, _, _, _, _, _, _, _, _, _, _, _, rfl, SL_off H0.out hO (fun ad e hp => HN.out _ (F0.out ad e hp)), H1.out.off hO (fun ad e hp => HN.out _ (F1.out ad e hp)), SI.blk (l := [2, pn]) (by have h := blk_new ((((((wa.setCell ⟨g4, 2, none⟩ (.slice (some ⟨wa.heap.size, 0, none⟩) 2 2)).setCell ⟨g8, 0, none⟩ (.slice A0 n0 c0)).setCell ⟨g8, 1, none⟩ (.slice A1 n1 c1)).setCell ⟨g8, 2, none⟩ (.slice (some ⟨wa.heap.size, 0, none⟩) 2 2)).setCell ⟨g8, 3, none⟩ (.slice A3 n3 c3)).setCell ⟨g8, 4, none⟩ (.slice A4 n4 c4)) (.cells #[.int .i64 2, .int .i64 pn] 3 (0, 0)); simpa [nums] using h) (by simp) (by simp), H3.out.off hO (fun ad e hp => HN.out _ (F3.out ad e hp)), H4.out.off hO (fun ad e hp => HN.out _ (F4.out ad e hp))⟩, HW.out, Off.toBelow HB.out hO (fun k hk => HM.out k hk)⟩
        · by_cases q4 : ph = 4
          · subst q4
            go_wp2_with fail
            have hO : Off (fun k => k = g4 ∨ k = g8) wa (((((((wa.setCell ⟨g4, 3, none⟩ (.slice (some ⟨wa.heap.size, 0, none⟩) 2 2)).setCell ⟨g8, 0, none⟩ (.slice A0 n0 c0)).setCell ⟨g8, 1, none⟩ (.slice A1 n1 c1)).setCell ⟨g8, 2, none⟩ (.slice A2 n2 c2)).setCell ⟨g8, 3, none⟩ (.slice (some ⟨wa.heap.size, 0, none⟩) 2 2)).setCell ⟨g8, 4, none⟩ (.slice A4 n4 c4)).alloc (.cells #[.int .i64 pn, .int .i64 2] 3 (0, 0))) := ((((((((Off.refl _ _).setCell (.inl (.inl rfl)) _).setCell (.inl (.inr rfl)) _).setCell (.inl (.inr rfl)) _).setCell (.inl (.inr rfl)) _).setCell (.inl (.inr rfl)) _).setCell (.inl (.inr rfl)) _).alloc _)
            refine end45 (g2 := g8) (A0 := A0) (n0 := n0) (c0 := c0) (A1 := A1) (n1 := n1) (c1 := c1) (A2 := A2) (n2 := n2) (c2 := c2) (A3 := (some ⟨wa.heap.size, 0, none⟩)) (n3 := 2) (c3 := 2) (A4 := A4) (n4 := n4) (c4 := c4) rfl rfl (blk_alloc (blk_put (blk_put (blk_put (blk_put (blk_put (blk_far B8.out hne2 _) 0 _ rfl) 1 _ rfl) 2 _ rfl) 3 _ rfl) 4 _ rfl) _) ?_
            refine ⟨_, _, _, _, _, _, rfl, ⟨_, _, _, _, _, _, _, _, _, _, _, _, _, _, _, rfl, SL_off H0.out hO (fun ad e hp => HN.out _ (F0.out ad e hp)), H1.out.off hO (fun ad e hp => HN.out _ (F1.out ad e hp)), H2.out.off hO (fun ad e hp => HN.out _ (F2.out ad e hp)), SI.blk (l := [pn, 2]) (by have h := blk_new ((((((wa.setCell ⟨g4, 3, none⟩ (.slice (some ⟨wa.heap.size, 0, none⟩) 2 2)).setCell ⟨g8, 0, none⟩ (.slice A0 n0 c0)).setCell ⟨g8, 1, none⟩ (.slice A1 n1 c1)).setCell ⟨g8, 2, none⟩ (.slice A2 n2 c2)).setCell ⟨g8, 3, none⟩ (.slice (some ⟨wa.heap.size, 0, none⟩) 2 2)).setCell ⟨g8, 4, none⟩ (.slice A4 n4 c4)) (.cells #[.int .i64 pn, .int .i64 2] 3 (0, 0)); simpa [nums] using h) (by simp) (by simp), H4.out.off hO (fun ad e hp => HN.out _ (F4.out ad e hp))⟩, HW.out, Off.toBelow HB.out hO (fun k hk => HM.out k hk)⟩
          · by_cases q5 : ph = 5
            · subst q5
              go_wp2_with fail
              have hO : Off (fun k => k = g4 ∨ k = g8) wa (((((((wa.setCell ⟨g4, 4, none⟩ (.slice (some ⟨wa.heap.size, 0, none⟩) 1 1)).setCell ⟨g8, 0, none⟩ (.slice A0 n0 c0)).setCell ⟨g8, 1, none⟩ (.slice A1 n1 c1)).setCell ⟨g8, 2, none⟩ (.slice A2 n2 c2)).setCell ⟨g8, 3, none⟩ (.slice A3 n3 c3)).setCell ⟨g8, 4, none⟩ (.slice (some ⟨wa.heap.size, 0, none⟩) 1 1)).alloc (.cells #[.int .i64 pn] 3 (0, 0))) := ((((((((Off.refl _ _).setCell (.inl (.inl rfl)) _).setCell (.inl (.inr rfl)) _).setCell (.inl (.inr rfl)) _).setCell (.inl (.inr rfl)) _).setCell (.inl (.inr rfl)) _).setCell (.inl (.inr rfl)) _).alloc _)
              refine end45 (g2 := g8) (A0 := A0) (n0 := n0) (c0 := c0) (A1 := A1) (n1 := n1) (c1 := c1) (A2 := A2) (n2 := n2) (c2 := c2) (A3 := A3) (n3 := n3) (c3 := c3) (A4 := (some ⟨wa.heap.size, 0, none⟩)) (n4 := 1) (c4 := 1) rfl rfl (blk_alloc (blk_put (blk_put (blk_put (blk_put (blk_put (blk_far B8.out hne2 _) 0 _ rfl) 1 _ rfl) 2 _ rfl) 3 _ rfl) 4 _ rfl) _) ?_
              refine ⟨_, _, _, _, _, _, rfl, ⟨_, _, _, _, _, _, _, _, _, _, _, _, _, _, _, rfl, SL_off H0.out hO (fun ad e hp => HN.out _ (F0.out ad e hp)), H1.out.off hO (fun ad e hp => HN.out _ (F1.out ad e hp)), H2.out.off hO (fun ad e hp => HN.out _ (F2.out ad e hp)), H3.out.off hO (fun ad e hp => HN.out _ (F3.out ad e hp)), SI.blk (l := [pn]) (by have h := blk_new ((((((wa.setCell ⟨g4, 4, none⟩ (.slice (some ⟨wa.heap.size, 0, none⟩) 1 1)).setCell ⟨g8, 0, none⟩ (.slice A0 n0 c0)).setCell ⟨g8, 1, none⟩ (.slice A1 n1 c1)).setCell ⟨g8, 2, none⟩ (.slice A2 n2 c2)).setCell ⟨g8, 3, none⟩ (.slice A3 n3 c3)).setCell ⟨g8, 4, none⟩ (.slice (some ⟨wa.heap.size, 0, none⟩) 1 1)) (.cells #[.int .i64 pn] 3 (0, 0)); simpa [nums] using h) (by simp) (by simp)⟩, HW.out, Off.toBelow HB.out hO (fun k hk => HM.out k hk)⟩
            · by_cases q6 : ph = 6
              · subst q6
                have hm : 1 ≤ n1 := by have := HE.out; have := H1.out.len; omega
                have hrun := H1.out.run 1 1 rfl hm
                go_wp2_with fail
                have hO : Off (fun k => k = g4 ∨ k = g8) wa ((((((wa.setCell ⟨g4, 1, none⟩ (.slice A1 1 c1)).setCell ⟨g8, 0, none⟩ (.slice A0 n0 c0)).setCell ⟨g8, 1, none⟩ (.slice A1 1 c1)).setCell ⟨g8, 2, none⟩ (.slice A2 n2 c2)).setCell ⟨g8, 3, none⟩ (.slice A3 n3 c3)).setCell ⟨g8, 4, none⟩ (.slice A4 n4 c4)) := (((((((Off.refl _ _).setCell (.inl (.inl rfl)) _).setCell (.inl (.inr rfl)) _).setCell (.inl (.inr rfl)) _).setCell (.inl (.inr rfl)) _).setCell (.inl (.inr rfl)) _).setCell (.inl (.inr rfl)) _)
                refine end45 (g2 := g8) (A0 := A0) (n0 := n0) (c0 := c0) (A1 := A1) (n1 := 1) (c1 := c1) (A2 := A2) (n2 := n2) (c2 := c2) (A3 := A3) (n3 := n3) (c3 := c3) (A4 := A4) (n4 := n4) (c4 := c4) rfl rfl (blk_put (blk_put (blk_put (blk_put (blk_put (blk_far B8.out hne2 _) 0 _ rfl) 1 _ rfl) 2 _ rfl) 3 _ rfl) 4 _ rfl) ?_
                refine ⟨_, _, _, _, _, _, rfl, ⟨_, _, _, _, _, _, _, _, _, _, _, _, _, _, _, rfl, SL_off H0.out hO (fun ad e hp => HN.out _ (F0.out ad e hp)), (H1.out.take 1 hm).off hO (fun ad e hp => HN.out _ (F1.out ad e (by omega))), H2.out.off hO (fun ad e hp => HN.out _ (F2.out ad e hp)), H3.out.off hO (fun ad e hp => HN.out _ (F3.out ad e hp)), H4.out.off hO (fun ad e hp => HN.out _ (F4.out ad e hp))⟩, HW.out, Off.toBelow HB.out hO (fun k hk => HM.out k hk)⟩
              · by_cases q7 : ph = 7
                · subst q7
                  have HL := Aside0.mk (show g4 < wa.heap.size ∧ g8 < wa.heap.size from ⟨hl4, hl8⟩)
                  have hn4 : n4 = 2 := H4.out.len.symm.trans HA.out
                  replace hn4 := Lib.hid hn4
                  go_wp2_with (first | ((with_reducible refine gate_builtin (b := .append) (xs := #[(.const (.slice none 0 0)), .tmp 64]) rfl ?_); at_builtin; refine Kd.R_append_row (Value.int .i64) (0 : Int) (h1 := fun _ => rfl) (w0 := wa) wa.heap.size rfl (.const (.slice none 0 0)) (.tmp 64) 22 3 (.int .i64 0) 8 rfl Tryd.underlying22 info3 rfl (by omega) (.slice none 0 0) ([] : List Int) A A4 n4 c4 (fun _ => True) rfl rfl (fun _ _ => trivial) ?aO ?aR ?aB ?aS ?aL ?_; (case aR => exact H4.out.C); (case aB => exact Below.refl _ _); (case aO => exact Kd.R_nil _ _ _ _ _); (case aS => exact Nat.le_refl _); (case aL => have := hn4.out; simp only [List.length_nil]; omega); intro v1 w1 ho1 hb1 hg1 hat1; have HO1 := Aside0.mk ho1; have HB1 := Aside0.mk hb1; have hsz1 : wa.heap.size ≤ w1.heap.size := hb1.size; clear ho1 hb1 hg1 hat1) | ((with_reducible refine gate_builtin (b := .append) (xs := #[.tmp 65, .tmp 66]) rfl ?_); at_builtin; refine Kd.R_append_row (Value.int .i64) (0 : Int) (h1 := fun _ => rfl) (w0 := wa) wa.heap.size rfl (.tmp 65) (.tmp 66) 22 3 (.int .i64 0) 8 rfl Tryd.underlying22 info3 rfl (by omega) v1 ([] ++ A) [1, 16, 17] (some ⟨w1.heap.size, 0, none⟩) 3 3 (fun _ => True) rfl rfl (fun _ _ => trivial) ?aO ?aR ?aB ?aS ?aL ?_; (case aR => exact C32_blk (k := .i64) (l := [1, 16, 17]) (by have h := blk_new w1 (.cells #[.int .i64 1, .int .i64 16, .int .i64 17] 3 (0, 0)); simpa [nums] using h) (by simp)); (case aB => exact HB1.out.alloc hsz1 _); (case aO => exact Kd.R_alloc HO1.out _); (case aS => exact Nat.le_trans hsz1 (by simp)); (case aL => have := HA.out; simp only [List.nil_append]; omega); intro v2 w2 ho2 hb2 hg2 hat2; have HO2 := Aside0.mk ho2; have HB2 := Aside0.mk hb2; clear ho2 hb2 hg2 hat2) | fail)
                  refine (pickv at_ 4 _ (by omega) (by omega)).mono ?_
                  rintro e w' ⟨p4, rfl, p40, p41, rfl⟩
                  obtain ⟨A6, c6, hv2, hc6, hC6⟩ := Kd.R_reads HO2.out
                  have hlen5 : ([] ++ A ++ [1, 16, 17]).length = 5 := by simp [HA.out]
                  have hfar : ∀ ad, A6 = some ad → 0 < 5 → wa.heap.size ≤ ad.block := by
                    intro ad e0 hp
                    obtain ⟨g1, cp, e1, hb1, _⟩ := Kd.R_form HO2.out (by rw [hlen5]; exact hp)
                    rw [hv2] at e1
                    injection e1 with e1 _ _
                    rw [e1] at e0
                    obtain rfl := Option.some.inj e0
                    exact hb1
                  subst hv2
                  rw [hlen5] at hc6 hC6 ⊢
                  have hs6 : SI w2 A6 5 c6 ([] ++ A ++ [1, 16, 17]) := ⟨hC6, hc6, hlen5, by omega⟩
                  obtain ⟨m, hmp, hm⟩ : ∃ m : Nat, 2 + p4 = (m : Int) ∧ m ≤ 5 := ⟨(2 + p4).toNat, by omega, by omega⟩
                  have hrun := hs6.run (m : Int) m rfl hm
                  have hbe := HB2.out
                  have HS := Aside0.mk (And.intro hs6 (And.intro hfar hbe))
                  have a0' := pw_cell_below hbe a0
                  have a1' := pw_cell_below hbe a1
                  have a2' := pw_cell_below hbe a2
                  have a3' := pw_cell_below hbe a3
                  have a4' := pw_cell_below hbe a4
                  have z0' := pw_cell_below hbe z0
                  have z1' := pw_cell_below hbe z1
                  have z2' := pw_cell_below hbe z2
                  have z3' := pw_cell_below hbe z3
                  have z4' := pw_cell_below hbe z4
                  have af' : ∀ q, w2.frozen? ⟨g4, q, none⟩ = false := fun q => blk_frozen (blk_below B4.out hbe) q
                  have zf' : ∀ q, w2.frozen? ⟨g8, q, none⟩ = false := fun q => blk_frozen (blk_below B8.out hbe) q
                  clear hs6 hfar hbe af zf hlen5 hc6 hC6
                  clear a0 a1 a2 a3 a4 z0 z1 z2 z3 z4
                  go_wp2_with fail
                  obtain ⟨hs6, hfar, hbe⟩ := HS.out
                  have hO : Off (fun k => k = g4 ∨ k = g8) w2 ((((((w2.setCell ⟨g4, 4, none⟩ (.slice A6 m c6)).setCell ⟨g8, 0, none⟩ (.slice A0 n0 c0)).setCell ⟨g8, 1, none⟩ (.slice A1 n1 c1)).setCell ⟨g8, 2, none⟩ (.slice A2 n2 c2)).setCell ⟨g8, 3, none⟩ (.slice A3 n3 c3)).setCell ⟨g8, 4, none⟩ (.slice A6 m c6)) := (((((((Off.refl _ _).setCell (.inl (.inl rfl)) _).setCell (.inl (.inr rfl)) _).setCell (.inl (.inr rfl)) _).setCell (.inl (.inr rfl)) _).setCell (.inl (.inr rfl)) _).setCell (.inl (.inr rfl)) _)
                  refine end45 (g2 := g8) (A0 := A0) (n0 := n0) (c0 := c0) (A1 := A1) (n1 := n1) (c1 := c1) (A2 := A2) (n2 := n2) (c2 := c2) (A3 := A3) (n3 := n3) (c3 := c3) (A4 := A6) (n4 := m) (c4 := c6) rfl rfl (blk_put (blk_put (blk_put (blk_put (blk_put (blk_far (blk_below B8.out hbe) hne2 _) 0 _ rfl) 1 _ rfl) 2 _ rfl) 3 _ rfl) 4 _ rfl) ?_
                  refine ⟨_, _, _, _, _, _, rfl, ⟨_, _, _, _, _, _, _, _, _, _, _, _, _, _, _, rfl, SL_off (H0.out.below hbe) hO (fun ad e hp => HN.out _ (F0.out ad e hp)), (H1.out.below hbe).off hO (fun ad e hp => HN.out _ (F1.out ad e hp)), (H2.out.below hbe).off hO (fun ad e hp => HN.out _ (F2.out ad e hp)), (H3.out.below hbe).off hO (fun ad e hp => HN.out _ (F3.out ad e hp)), (hs6.take m hm).off hO (fun ad e hp => by have := hfar ad e (by omega); have := HL.out; omega)⟩, HW.out, Off.toBelow (below_step HB.out hbe) hO (fun k hk => HM.out k hk)⟩
                · by_cases q8 : ph = 8
                  · subst q8
                    go_wp2_with fail
                    refine (pickv by_ 2 _ (by omega) (by omega)).mono ?_
                    rintro e w' ⟨p2, rfl, p20, p21, rfl⟩
                    go_wp2_with fail
                    have hO : Off (fun k => k = g4 ∨ k = g8) wa (((((((wa.setCell ⟨g4, 3, none⟩ (.slice (some ⟨wa.heap.size, 0, none⟩) 2 2)).setCell ⟨g8, 0, none⟩ (.slice A0 n0 c0)).setCell ⟨g8, 1, none⟩ (.slice A1 n1 c1)).setCell ⟨g8, 2, none⟩ (.slice A2 n2 c2)).setCell ⟨g8, 3, none⟩ (.slice (some ⟨wa.heap.size, 0, none⟩) 2 2)).setCell ⟨g8, 4, none⟩ (.slice A4 n4 c4)).alloc (.cells #[.int .i64 (3000 + p2), .int .i64 0] 3 (0, 0))) := ((((((((Off.refl _ _).setCell (.inl (.inl rfl)) _).setCell (.inl (.inr rfl)) _).setCell (.inl (.inr rfl)) _).setCell (.inl (.inr rfl)) _).setCell (.inl (.inr rfl)) _).setCell (.inl (.inr rfl)) _).alloc _)
                    refine end45 (g2 := g8) (A0 := A0) (n0 := n0) (c0 := c0) (A1 := A1) (n1 := n1) (c1 := c1) (A2 := A2) (n2 := n2) (c2 := c2) (A3 := (some ⟨wa.heap.size, 0, none⟩)) (n3 := 2) (c3 := 2) (A4 := A4) (n4 := n4) (c4 := c4) rfl rfl (blk_alloc (blk_put (blk_put (blk_put (blk_put (blk_put (blk_far B8.out hne2 _) 0 _ rfl) 1 _ rfl) 2 _ rfl) 3 _ rfl) 4 _ rfl) _) ?_
                    refine ⟨_, _, _, _, _, _, rfl, ⟨_, _, _, _, _, _, _, _, _, _, _, _, _, _, _, rfl, SL_off H0.out hO (fun ad e hp => HN.out _ (F0.out ad e hp)), H1.out.off hO (fun ad e hp => HN.out _ (F1.out ad e hp)), H2.out.off hO (fun ad e hp => HN.out _ (F2.out ad e hp)), SI.blk (l := [(3000 + p2), 0]) (by have h := blk_new ((((((wa.setCell ⟨g4, 3, none⟩ (.slice (some ⟨wa.heap.size, 0, none⟩) 2 2)).setCell ⟨g8, 0, none⟩ (.slice A0 n0 c0)).setCell ⟨g8, 1, none⟩ (.slice A1 n1 c1)).setCell ⟨g8, 2, none⟩ (.slice A2 n2 c2)).setCell ⟨g8, 3, none⟩ (.slice (some ⟨wa.heap.size, 0, none⟩) 2 2)).setCell ⟨g8, 4, none⟩ (.slice A4 n4 c4)) (.cells #[.int .i64 (3000 + p2), .int .i64 0] 3 (0, 0)); simpa [nums] using h) (by simp) (by simp), H4.out.off hO (fun ad e hp => HN.out _ (F4.out ad e hp))⟩, HW.out, Off.toBelow HB.out hO (fun k hk => HM.out k hk)⟩
                  · have d0 : (ph == 0) = false := beq_eq_false_iff_ne.2 q0
                    have d1 : (ph == 1) = false := beq_eq_false_iff_ne.2 q1
                    have d2 : (ph == 2) = false := beq_eq_false_iff_ne.2 q2
                    have d3 : (ph == 3) = false := beq_eq_false_iff_ne.2 q3
                    have d4 : (ph == 4) = false := beq_eq_false_iff_ne.2 q4
                    have d5 : (ph == 5) = false := beq_eq_false_iff_ne.2 q5
                    have d6 : (ph == 6) = false := beq_eq_false_iff_ne.2 q6
                    have d7 : (ph == 7) = false := beq_eq_false_iff_ne.2 q7
                    have d8 : (ph == 8) = false := beq_eq_false_iff_ne.2 q8
                    clear q0 q1 q2 q3 q4 q5 q6 q7 q8 ph0 ph1
                    go_wp2_with fail
                    have hO : Off (fun k => k = g4 ∨ k = g8) wa (((((wa.setCell ⟨g8, 0, none⟩ (.slice A0 n0 c0)).setCell ⟨g8, 1, none⟩ (.slice A1 n1 c1)).setCell ⟨g8, 2, none⟩ (.slice A2 n2 c2)).setCell ⟨g8, 3, none⟩ (.slice A3 n3 c3)).setCell ⟨g8, 4, none⟩ (.slice A4 n4 c4)) := ((((((Off.refl _ _).setCell (.inl (.inr rfl)) _).setCell (.inl (.inr rfl)) _).setCell (.inl (.inr rfl)) _).setCell (.inl (.inr rfl)) _).setCell (.inl (.inr rfl)) _)
                    refine end45 (g2 := g8) (A0 := A0) (n0 := n0) (c0 := c0) (A1 := A1) (n1 := n1) (c1 := c1) (A2 := A2) (n2 := n2) (c2 := c2) (A3 := A3) (n3 := n3) (c3 := c3) (A4 := A4) (n4 := n4) (c4 := c4) rfl rfl (blk_put (blk_put (blk_put (blk_put (blk_put B8.out 0 _ rfl) 1 _ rfl) 2 _ rfl) 3 _ rfl) 4 _ rfl) ?_
                    refine ⟨_, _, _, _, _, _, rfl, ⟨_, _, _, _, _, _, _, _, _, _, _, _, _, _, _, rfl, SL_off H0.out hO (fun ad e hp => HN.out _ (F0.out ad e hp)), H1.out.off hO (fun ad e hp => HN.out _ (F1.out ad e hp)), H2.out.off hO (fun ad e hp => HN.out _ (F2.out ad e hp)), H3.out.off hO (fun ad e hp => HN.out _ (F3.out ad e hp)), H4.out.off hO (fun ad e hp => HN.out _ (F4.out ad e hp))⟩, HW.out, Off.toBelow HB.out hO (fun k hk => HM.out k hk)⟩
end Go.Proofs.YtcjidibdidijaaaDoor
