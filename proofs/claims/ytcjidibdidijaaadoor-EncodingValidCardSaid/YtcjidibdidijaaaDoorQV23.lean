/- Parts of this proof in one text: RDec3. -/
import Derived.Test.YtcjidibdidijaaaDoorQV20
import Derived.StillTailTactics
namespace Go.Proofs.YtcjidibdidijaaaDoor
open Go.RowKit Go.Proofs.YtcjidibdidijaaaDoor.PCod Go.Proofs.YtcjidibdidijaaaDoorW.PrintWords Go.Proofs.YtcjidibdidijaaaDoorW.PrintMore
set_option linter.unusedVariables false
set_option linter.unusedSimpArgs false
set_option maxRecDepth 100000 in
set_option maxHeartbeats 2000000 in
theorem rdec_out (A : Option Addr) (n c : Nat) (a : Int) (w : World) (h : a < 0 ∨ (n : Int) ≤ a) : Calls Tryd.prog 27 #[.slice A n c, .int .i64 a] w fun e w' => e = .returned (decV errD) ∧ Below w.heap.size w w' := by
  by_cases h0 : a < 0
  · have t0 : decide (a < 0) = true := decide_eq_true h0
    go_enter Tryd.func27, Tryd.ntmps27
    go_wp2_with fail
    refine end27 (b := w.heap.size) 0 0 0 0 0 0 204 ?p4a ?p5a ?p6a ?pda ?q0a ?q1a ?q2a ?q3a ?q4a ⟨rfl, ?bela⟩
    case p4a => rfl
    case p5a => rfl
    case p6a => rfl
    case pda => rfl
    case q0a => go_simp
    case q1a => go_simp
    case q2a => go_simp
    case q3a => go_simp
    case q4a => go_simp
    case bela => repeat (first | with_reducible exact Below.refl _ _ | with_reducible refine Below.setCell ?_ (by first | omega | (simp <;> omega)) _ | with_reducible refine Below.alloc ?_ (by first | omega | (simp <;> omega)) _)
  · have t0 : decide (a < 0) = false := decide_eq_false h0
    have t1 : decide ((n : Int) ≤ a) = true := decide_eq_true (by omega)
    go_enter Tryd.func27, Tryd.ntmps27
    go_wp2_with fail
    refine end27 (b := w.heap.size) 0 0 0 0 0 0 204 ?p4b ?p5b ?p6b ?pdb ?q0b ?q1b ?q2b ?q3b ?q4b ⟨rfl, ?belb⟩
    case p4b => rfl
    case p5b => rfl
    case p6b => rfl
    case pdb => rfl
    case q0b => go_simp
    case q1b => go_simp
    case q2b => go_simp
    case q3b => go_simp
    case q4b => go_simp
    case belb => repeat (first | with_reducible exact Below.refl _ _ | with_reducible refine Below.setCell ?_ (by first | omega | (simp <;> omega)) _ | with_reducible refine Below.alloc ?_ (by first | omega | (simp <;> omega)) _)
set_option maxRecDepth 100000 in
set_option maxHeartbeats 2000000 in
theorem rdec_0 (ad : Addr) (n c : Nat) (a x : Int) (w : World) (hx0 : 0 ≤ x) (hx1 : x < 4294967296) (hcell : w.cell? (ad.add a.toNat) = some (.int .u32 x)) (a0 : 0 ≤ a) (a1 : a < n) (hn : n ≤ 9223372036854775800)
    (hf : Hid (formOf (wrap64 (bits .and .u32 x 63)) = 0)) : Calls Tryd.prog 27 #[.slice (some ad) n c, .int .i64 a] w fun e w' => e = .returned (decV errD) ∧ Below w.heap.size w w' := by
  have hlt : (ad.add a.toNat).block < w.heap.size := World.block_lt_of_cell? _ _ hcell
  have t0 : decide (a < 0) = false := decide_eq_false (by omega)
  have t1 : decide ((n : Int) ≤ a) = false := decide_eq_false (by omega)
  go_enter Tryd.func27, Tryd.ntmps27
  go_wp2_with fail
  refine (form_any _ _).mono ?_
  rintro e w' ⟨rfl, rfl⟩
  rw [hf.out]
  go_wp2_with fail
  refine end27 (b := w.heap.size) 0 0 0 0 0 0 204 ?p4a ?p5a ?p6a ?pda ?q0a ?q1a ?q2a ?q3a ?q4a ⟨rfl, ?bela⟩
  case p4a => rfl
  case p5a => rfl
  case p6a => rfl
  case pda => rfl
  case q0a => go_simp
  case q1a => go_simp
  case q2a => go_simp
  case q3a => go_simp
  case q4a => go_simp
  case bela => repeat (first | with_reducible exact Below.refl _ _ | with_reducible refine Below.setCell ?_ (by first | omega | (simp <;> omega)) _ | with_reducible refine Below.alloc ?_ (by first | omega | (simp <;> omega)) _)
set_option maxRecDepth 100000 in
set_option maxHeartbeats 2000000 in
theorem rdec_6e (ad : Addr) (n c : Nat) (a x : Int) (w : World) (hx0 : 0 ≤ x) (hx1 : x < 4294967296) (hcell : w.cell? (ad.add a.toNat) = some (.int .u32 x)) (a0 : 0 ≤ a) (a1 : a < n) (hn : n ≤ 9223372036854775800)
    (hf : Hid (formOf (wrap64 (bits .and .u32 x 63)) = 6)) (lo : (n : Int) ≤ a + 2) : Calls Tryd.prog 27 #[.slice (some ad) n c, .int .i64 a] w fun e w' => e = .returned (decV errD) ∧ Below w.heap.size w w' := by
  have hlt : (ad.add a.toNat).block < w.heap.size := World.block_lt_of_cell? _ _ hcell
  have t0 : decide (a < 0) = false := decide_eq_false (by omega)
  have t1 : decide ((n : Int) ≤ a) = false := decide_eq_false (by omega)
  go_enter Tryd.func27, Tryd.ntmps27
  go_wp2_with fail
  refine (form_any _ _).mono ?_
  rintro e w' ⟨rfl, rfl⟩
  rw [hf.out]
  go_wp2_with fail
  refine (field_any _ _).mono ?_
  rintro e w' ⟨rfl, rfl⟩
  simp only [Int.reduceEq, ↓reduceIte]
  go_wp2_with fail
  refine end27 (b := w.heap.size) 0 0 0 0 0 0 204 ?p4a ?p5a ?p6a ?pda ?q0a ?q1a ?q2a ?q3a ?q4a ⟨rfl, ?bela⟩
  case p4a => rfl
  case p5a => rfl
  case p6a => rfl
  case pda => rfl
  case q0a => go_simp
  case q1a => go_simp
  case q2a => go_simp
  case q3a => go_simp
  case q4a => go_simp
  case bela => repeat (first | with_reducible exact Below.refl _ _ | with_reducible refine Below.setCell ?_ (by first | omega | (simp <;> omega)) _ | with_reducible refine Below.alloc ?_ (by first | omega | (simp <;> omega)) _)
set_option maxRecDepth 100000 in
set_option maxHeartbeats 4000000 in
theorem rdec_6 (ad : Addr) (n c : Nat) (a x : Int) (w : World) (hx0 : 0 ≤ x) (hx1 : x < 4294967296) (hcell : w.cell? (ad.add a.toNat) = some (.int .u32 x)) (a0 : 0 ≤ a) (a1 : a < n) (hn : n ≤ 9223372036854775800)
    (hf : Hid (formOf (wrap64 (bits .and .u32 x 63)) = 6)) (op A B C N : Int) (hop : Hid (wrap64 (bits .and .u32 x 63) = op)) (hA : Hid (wrap64 (bits .and .u32 (x / 64) 7) = A)) (hB : B = 0) (hC : C = 0) (lo : a + 2 < n) (y1 z1 : Int) (hy : 0 ≤ y1 ∧ y1 < 4294967296) (hz : 0 ≤ z1 ∧ z1 < 4294967296) (hcy : w.cell? (ad.add (a + 1).toNat) = some (.int .u32 y1)) (hcz : w.cell? (ad.add (a + 2).toNat) = some (.int .u32 z1)) (hN : Hid (wrap64 (bits .or .u64 y1 (z1 * 4294967296)) = N)) :
    Calls Tryd.prog 27 #[.slice (some ad) n c, .int .i64 a] w (RPost w x ⟨op, A, B, C, N⟩ 3) := by
  subst hB
  subst hC
  have hlt : (ad.add a.toNat).block < w.heap.size := World.block_lt_of_cell? _ _ hcell
  obtain ⟨j1, hj1⟩ : ∃ j, Hid (a + 1 = j) := ⟨_, Lib.hid rfl⟩
  obtain ⟨j2, hj2⟩ : ∃ j, Hid (a + 2 = j) := ⟨_, Lib.hid rfl⟩
  rw [hj1.out] at hcy
  rw [hj2.out] at hcz
  have i0 : 0 ≤ j1 := by rw [← hj1.out]; omega
  have i1 : j1 < (n : Int) := by rw [← hj1.out]; omega
  have i2 : 0 ≤ j2 := by rw [← hj2.out]; omega
  have i5 : j2 < (n : Int) := by rw [← hj2.out]; omega
  have hly : (ad.add j1.toNat).block < w.heap.size := World.block_lt_of_cell? _ _ hcy
  have hlz : (ad.add j2.toNat).block < w.heap.size := World.block_lt_of_cell? _ _ hcz
  have i3 : Hid (IntKind.i64.wrap (a + 1) = j1) := Lib.hid (by rw [i64w]; unfold wrap64; rw [← hj1.out]; omega)
  have i4 : Hid (IntKind.i64.wrap (a + 2) = j2) := Lib.hid (by rw [i64w]; unfold wrap64; rw [← hj2.out]; omega)
  have t0 : decide (a < 0) = false := decide_eq_false (by omega)
  have t1 : decide ((n : Int) ≤ a) = false := decide_eq_false (by omega)
  go_enter Tryd.func27, Tryd.ntmps27
  go_wp2_with fail
  refine (form_any _ _).mono ?_
  rintro e w' ⟨rfl, rfl⟩
  rw [hf.out]
  go_wp2_with fail
  refine (field_any _ _).mono ?_
  rintro e w' ⟨rfl, rfl⟩
  simp only [Int.reduceEq, ↓reduceIte]
  go_wp2_with fail
  refine still_tail 16 (by kernel_rfl) (by kernel_rfl) ?_
  simp only [hop.out, hA.out]
  generalize hW : World.drew _ = W
  have B1 : W.heap[w.heap.size + 1]? = some (.cells #[.int .i64 op, .int .i64 A, .int .i64 0, .int .i64 0, .int .i64 0] 42 (0, 0)) := by
    rw [← hW]; refine blk_drew ?_; simpa using blk_new (w.alloc _) _
  have B0 : W.heap[w.heap.size]? = some (.cells #[.int .i64 0, .int .i64 0, .int .i64 0, .int .i64 0, .int .i64 0] 42 (0, 0)) := by
    rw [← hW]; refine blk_drew ?_; refine blk_alloc ?_ _; exact blk_new w _
  have HB0 : Below w.heap.size w W := by
    rw [← hW]; repeat (first | with_reducible exact Below.refl _ _ | with_reducible refine below_alloc ?_ _ | with_reducible refine below_drew1 ?_)
  have hsz : W.heap.size = w.heap.size + 2 := by rw [← hW]; simp
  clear hW
  have ky : W.cell? (ad.add j1.toNat) = some (.int .u32 y1) := (HB0.cell hly).trans hcy
  have kz : W.cell? (ad.add j2.toNat) = some (.int .u32 z1) := (HB0.cell hlz).trans hcz
  clear hcy hcz
  replace i3 := i3.out
  replace i4 := i4.out
  simp only [List.take_succ_cons, List.take_zero, List.drop_succ_cons, List.drop_zero]
  repeat still_step
  refine wpStill_nil ?_
  clear i3 i4
  have k10 : W.cell? ⟨w.heap.size + 1, 0, none⟩ = some (.int .i64 op) := (blk_cell B1 0).trans rfl
  have l10 := blk_frozen B1 0
  have k11 : W.cell? ⟨w.heap.size + 1, 1, none⟩ = some (.int .i64 A) := (blk_cell B1 1).trans rfl
  have l11 := blk_frozen B1 1
  have k12 : W.cell? ⟨w.heap.size + 1, 2, none⟩ = some (.int .i64 0) := (blk_cell B1 2).trans rfl
  have l12 := blk_frozen B1 2
  have k13 : W.cell? ⟨w.heap.size + 1, 3, none⟩ = some (.int .i64 0) := (blk_cell B1 3).trans rfl
  have l13 := blk_frozen B1 3
  have k14 : W.cell? ⟨w.heap.size + 1, 4, none⟩ = some (.int .i64 0) := (blk_cell B1 4).trans rfl
  have l14 := blk_frozen B1 4
  go_wp2_with fail
  simp only [hN.out]
  have B1' := blk_put (cs' := #[.int .i64 op, .int .i64 A, .int .i64 0, .int .i64 0, .int .i64 N]) B1 4 (.int .i64 N) rfl
  have B0' := blk_far B0 (p := ⟨w.heap.size + 1, 4, none⟩) (by simp) (.int .i64 N)
  have HB1 : Below w.heap.size w (W.setCell ⟨w.heap.size + 1, 4, none⟩ (.int .i64 N)) := Below.setCell HB0 (by simp) _
  have hsz1 : (W.setCell ⟨w.heap.size + 1, 4, none⟩ (.int .i64 N)).heap.size = w.heap.size + 2 := by simpa using hsz
  clear B1 B0 HB0 hsz ky kz hly hlz k10 k11 k12 k13 k14 l10 l11 l12 l13 l14
  generalize W.setCell ⟨w.heap.size + 1, 4, none⟩ (.int .i64 N) = V at *
  refine (renc_one ⟨op, A, 0, 0, N⟩ _ ?hb0).mono ?_
  case hb0 =>
    refine C42_blk (l := [⟨op, A, 0, 0, N⟩]) ?_ (by simp)
    rw [← hsz1]
    exact blk_new V _
  rintro e w1 ⟨v0, rfl, hR, hb⟩
  have HB := Aside0.mk (below_step (below_alloc HB1 _) hb : Below w.heap.size w w1)
  have hz : w.heap.size + 2 < w1.heap.size := by have := hb.size; simp at this; omega
  have hz1 : w.heap.size + 1 < w1.heap.size := by omega
  have hz0 : w.heap.size < w1.heap.size := by omega
  have B1 := blk_below (blk_alloc B1' _) hb
  have B0 := blk_below (blk_alloc B0' _) hb
  obtain ⟨c0, f0⟩ : w1.cell? ⟨w.heap.size + 1, 0, none⟩ = some (.int .i64 op) ∧ _ := ⟨(blk_cell B1 0).trans rfl, blk_frozen B1 0⟩
  obtain ⟨c1, f1⟩ : w1.cell? ⟨w.heap.size + 1, 1, none⟩ = some (.int .i64 A) ∧ _ := ⟨(blk_cell B1 1).trans rfl, blk_frozen B1 1⟩
  obtain ⟨c2, f2⟩ : w1.cell? ⟨w.heap.size + 1, 2, none⟩ = some (.int .i64 0) ∧ _ := ⟨(blk_cell B1 2).trans rfl, blk_frozen B1 2⟩
  obtain ⟨c3, f3⟩ : w1.cell? ⟨w.heap.size + 1, 3, none⟩ = some (.int .i64 0) ∧ _ := ⟨(blk_cell B1 3).trans rfl, blk_frozen B1 3⟩
  obtain ⟨c4, f4⟩ : w1.cell? ⟨w.heap.size + 1, 4, none⟩ = some (.int .i64 N) ∧ _ := ⟨(blk_cell B1 4).trans rfl, blk_frozen B1 4⟩
  obtain ⟨d0, g0⟩ : w1.cell? ⟨w.heap.size, 0, none⟩ = some (.int .i64 0) ∧ _ := ⟨(blk_cell B0 0).trans rfl, blk_frozen B0 0⟩
  obtain ⟨d1, g1⟩ : w1.cell? ⟨w.heap.size, 1, none⟩ = some (.int .i64 0) ∧ _ := ⟨(blk_cell B0 1).trans rfl, blk_frozen B0 1⟩
  obtain ⟨d2, g2⟩ : w1.cell? ⟨w.heap.size, 2, none⟩ = some (.int .i64 0) ∧ _ := ⟨(blk_cell B0 2).trans rfl, blk_frozen B0 2⟩
  obtain ⟨d3, g3⟩ : w1.cell? ⟨w.heap.size, 3, none⟩ = some (.int .i64 0) ∧ _ := ⟨(blk_cell B0 3).trans rfl, blk_frozen B0 3⟩
  obtain ⟨d4, g4⟩ : w1.cell? ⟨w.heap.size, 4, none⟩ = some (.int .i64 0) ∧ _ := ⟨(blk_cell B0 4).trans rfl, blk_frozen B0 4⟩
  clear hb
  by_cases hv : vI ⟨op, A, 0, 0, N⟩ = true
  · rw [encL_one hv] at hR ⊢
    obtain ⟨ad1, m, c5, rfl, hm, hc⟩ := first_word hv hR
    clear hR
    obtain ⟨y, hy⟩ : ∃ y, Hid (word1 op A 0 0 N = y) := ⟨_, rfl⟩
    rw [show word1 op A 0 0 N = y from hy] at hc
    by_cases hx : y = x
    · subst hx
      go_wp2_with fail
      refine end27 (b := w.heap.size) op A 0 0 N 3 0 ?p4a ?p5a ?p6a ?pda ?q0a ?q1a ?q2a ?q3a ?q4a ⟨by rw [if_pos ⟨hv, hy.out⟩], ?bela⟩
      case p4a => rfl
      case p5a => rfl
      case p6a => rfl
      case pda => rfl
      case q0a => go_simp
      case q1a => go_simp
      case q2a => go_simp
      case q3a => go_simp
      case q4a => go_simp
      case bela => repeat (first | with_reducible exact HB.out | with_reducible refine Below.setCell ?_ (by first | omega | (simp <;> omega)) _ | with_reducible refine Below.alloc ?_ (by first | omega | (simp <;> omega)) _)
    · have x1 : (y != x) = true := bne_iff_ne.2 hx
      have x2 : (y == x) = false := beq_eq_false_iff_ne.2 hx
      go_wp2_with fail
      refine end27 (b := w.heap.size) 0 0 0 0 0 0 204 ?p4b ?p5b ?p6b ?pdb ?q0b ?q1b ?q2b ?q3b ?q4b ⟨by rw [if_neg (fun h => hx (hy.out.symm.trans h.2))]; rfl, ?belb⟩
      case p4b => rfl
      case p5b => rfl
      case p6b => rfl
      case pdb => rfl
      case q0b => go_simp
      case q1b => go_simp
      case q2b => go_simp
      case q3b => go_simp
      case q4b => go_simp
      case belb => repeat (first | with_reducible exact HB.out | with_reducible refine Below.setCell ?_ (by first | omega | (simp <;> omega)) _ | with_reducible refine Below.alloc ?_ (by first | omega | (simp <;> omega)) _)
  · rw [encL_bad hv] at hR ⊢
    clear hR
    go_wp2_with fail
    refine end27 (b := w.heap.size) 0 0 0 0 0 0 204 ?p4c ?p5c ?p6c ?pdc ?q0c ?q1c ?q2c ?q3c ?q4c ⟨by rw [if_neg (fun h => hv h.1)]; rfl, ?belc⟩
    case p4c => rfl
    case p5c => rfl
    case p6c => rfl
    case pdc => rfl
    case q0c => go_simp
    case q1c => go_simp
    case q2c => go_simp
    case q3c => go_simp
    case q4c => go_simp
    case belc => repeat (first | with_reducible exact HB.out | with_reducible refine Below.setCell ?_ (by first | omega | (simp <;> omega)) _ | with_reducible refine Below.alloc ?_ (by first | omega | (simp <;> omega)) _)
end Go.Proofs.YtcjidibdidijaaaDoor
