/- Parts of this proof in one text: RDec2. -/
import Derived.Test.YtcjidibdidijaaaDoorQV20
namespace Go.Proofs.YtcjidibdidijaaaDoor
open Go.RowKit Go.Proofs.YtcjidibdidijaaaDoor.PCod Go.Proofs.YtcjidibdidijaaaDoorW.PrintWords Go.Proofs.YtcjidibdidijaaaDoorW.PrintMore
set_option linter.unusedVariables false
set_option linter.unusedSimpArgs false
set_option maxRecDepth 100000 in
set_option maxHeartbeats 4000000 in
theorem rdec_7p (ad : Addr) (n c : Nat) (a x : Int) (w : World) (hx0 : 0 ≤ x) (hx1 : x < 4294967296) (hcell : w.cell? (ad.add a.toNat) = some (.int .u32 x)) (a0 : 0 ≤ a) (a1 : a < n) (hn : n ≤ 9223372036854775800)
    (hf : Hid (formOf (wrap64 (bits .and .u32 x 63)) = 7)) (op A B C N : Int) (hop : Hid (wrap64 (bits .and .u32 x 63) = op)) (hA : Hid (wrap64 (bits .and .u32 (x / 64) 7) = A)) (hB : Hid (wrap64 (bits .and .u32 (x / 512) 7) = B)) (hC : C = 0) (hN : Hid (x / 4096 = N)) (lo : x / 4096 < 524288) :
    Calls Tryd.prog 27 #[.slice (some ad) n c, .int .i64 a] w (RPost w x ⟨op, A, B, C, N⟩ 1) := by
  subst hC
  have hlt : (ad.add a.toNat).block < w.heap.size := World.block_lt_of_cell? _ _ hcell
  have t0 : decide (a < 0) = false := decide_eq_false (by omega)
  have t1 : decide ((n : Int) ≤ a) = false := decide_eq_false (by omega)
  go_enter Tryd.func27, Tryd.ntmps27
  go_wp2_with fail
  refine (form_any _ _).mono ?_
  rintro e w' ⟨rfl, rfl⟩
  rw [hf.out]
  go_wp2_with fail
  refine (field_any _ _).mono ?_
  rintro e w' ⟨rfl, rfl⟩
  simp only [Int.reduceEq, ↓reduceIte]
  go_wp2_with fail
  simp only [hop.out, hA.out, hB.out, hN.out]
  refine (renc_one ⟨op, A, B, 0, N⟩ _ ?hb0).mono ?_
  case hb0 =>
    refine C42_blk (l := [⟨op, A, B, 0, N⟩]) ?_ (by simp)
    show _ = some (Obj.cells #[.int .i64 op, .int .i64 A, .int .i64 B, .int .i64 0, .int .i64 N] 42 (0, 0))
    simpa using blk_new ((w.alloc _).alloc _) _
  rintro e w1 ⟨v0, rfl, hR, hb⟩
  have HB := Aside0.mk (below_step (below_alloc (below_alloc (below_alloc (Below.refl _ _) _) _) _) hb : Below w.heap.size w w1)
  have hz : w.heap.size + 2 < w1.heap.size := by have := hb.size; simp at this; omega
  have hz1 : w.heap.size + 1 < w1.heap.size := by omega
  have hz0 : w.heap.size < w1.heap.size := by omega
  obtain ⟨c0, f0⟩ := kcX hb (w.heap.size + 1) 0 op (by go_simp) (by go_simp)
  obtain ⟨c1, f1⟩ := kcX hb (w.heap.size + 1) 1 A (by go_simp) (by go_simp)
  obtain ⟨c2, f2⟩ := kcX hb (w.heap.size + 1) 2 B (by go_simp) (by go_simp)
  obtain ⟨c3, f3⟩ := kcX hb (w.heap.size + 1) 3 0 (by go_simp) (by go_simp)
  obtain ⟨c4, f4⟩ := kcX hb (w.heap.size + 1) 4 N (by go_simp) (by go_simp)
  obtain ⟨d0, g0⟩ := kcX hb w.heap.size 0 0 (by go_simp) (by go_simp)
  obtain ⟨d1, g1⟩ := kcX hb w.heap.size 1 0 (by go_simp) (by go_simp)
  obtain ⟨d2, g2⟩ := kcX hb w.heap.size 2 0 (by go_simp) (by go_simp)
  obtain ⟨d3, g3⟩ := kcX hb w.heap.size 3 0 (by go_simp) (by go_simp)
  obtain ⟨d4, g4⟩ := kcX hb w.heap.size 4 0 (by go_simp) (by go_simp)
  clear hb
  by_cases hv : vI ⟨op, A, B, 0, N⟩ = true
  · rw [encL_one hv] at hR ⊢
    obtain ⟨ad1, m, c5, rfl, hm, hc⟩ := first_word hv hR
    clear hR
    obtain ⟨y, hy⟩ : ∃ y, Hid (word1 op A B 0 N = y) := ⟨_, rfl⟩
    rw [show word1 op A B 0 N = y from hy] at hc
    by_cases hx : y = x
    · subst hx
      go_wp2_with fail
      refine end27 (b := w.heap.size) op A B 0 N 1 0 ?p4a ?p5a ?p6a ?pda ?q0a ?q1a ?q2a ?q3a ?q4a ⟨by rw [if_pos ⟨hv, hy.out⟩], ?bela⟩
      case p4a => rfl
      case p5a => rfl
      case p6a => rfl
      case pda => rfl
      case q0a => go_simp
      case q1a => go_simp
      case q2a => go_simp
      case q3a => go_simp
      case q4a => go_simp
      case bela => repeat (first | with_reducible exact HB.out | with_reducible refine Below.setCell ?_ (by first | omega | (simp <;> omega)) _ | with_reducible refine Below.alloc ?_ (by first | omega | (simp <;> omega)) _)
    · have x1 : (y != x) = true := bne_iff_ne.2 hx
      have x2 : (y == x) = false := beq_eq_false_iff_ne.2 hx
      go_wp2_with fail
      refine end27 (b := w.heap.size) 0 0 0 0 0 0 204 ?p4b ?p5b ?p6b ?pdb ?q0b ?q1b ?q2b ?q3b ?q4b ⟨by rw [if_neg (fun h => hx (hy.out.symm.trans h.2))]; rfl, ?belb⟩
      case p4b => rfl
      case p5b => rfl
      case p6b => rfl
      case pdb => rfl
      case q0b => go_simp
      case q1b => go_simp
      case q2b => go_simp
      case q3b => go_simp
      case q4b => go_simp
      case belb => repeat (first | with_reducible exact HB.out | with_reducible refine Below.setCell ?_ (by first | omega | (simp <;> omega)) _ | with_reducible refine Below.alloc ?_ (by first | omega | (simp <;> omega)) _)
  · rw [encL_bad hv] at hR ⊢
    clear hR
    go_wp2_with fail
    refine end27 (b := w.heap.size) 0 0 0 0 0 0 204 ?p4c ?p5c ?p6c ?pdc ?q0c ?q1c ?q2c ?q3c ?q4c ⟨by rw [if_neg (fun h => hv h.1)]; rfl, ?belc⟩
    case p4c => rfl
    case p5c => rfl
    case p6c => rfl
    case pdc => rfl
    case q0c => go_simp
    case q1c => go_simp
    case q2c => go_simp
    case q3c => go_simp
    case q4c => go_simp
    case belc => repeat (first | with_reducible exact HB.out | with_reducible refine Below.setCell ?_ (by first | omega | (simp <;> omega)) _ | with_reducible refine Below.alloc ?_ (by first | omega | (simp <;> omega)) _)
set_option maxRecDepth 100000 in
set_option maxHeartbeats 4000000 in
theorem rdec_7n (ad : Addr) (n c : Nat) (a x : Int) (w : World) (hx0 : 0 ≤ x) (hx1 : x < 4294967296) (hcell : w.cell? (ad.add a.toNat) = some (.int .u32 x)) (a0 : 0 ≤ a) (a1 : a < n) (hn : n ≤ 9223372036854775800)
    (hf : Hid (formOf (wrap64 (bits .and .u32 x 63)) = 7)) (op A B C N : Int) (hop : Hid (wrap64 (bits .and .u32 x 63) = op)) (hA : Hid (wrap64 (bits .and .u32 (x / 64) 7) = A)) (hB : Hid (wrap64 (bits .and .u32 (x / 512) 7) = B)) (hC : C = 0) (hN : Hid (x / 4096 - 1048576 = N)) (lo : 524288 ≤ x / 4096) :
    Calls Tryd.prog 27 #[.slice (some ad) n c, .int .i64 a] w (RPost w x ⟨op, A, B, C, N⟩ 1) := by
  subst hC
  have hlt : (ad.add a.toNat).block < w.heap.size := World.block_lt_of_cell? _ _ hcell
  have t0 : decide (a < 0) = false := decide_eq_false (by omega)
  have t1 : decide ((n : Int) ≤ a) = false := decide_eq_false (by omega)
  go_enter Tryd.func27, Tryd.ntmps27
  go_wp2_with fail
  refine (form_any _ _).mono ?_
  rintro e w' ⟨rfl, rfl⟩
  rw [hf.out]
  go_wp2_with fail
  refine (field_any _ _).mono ?_
  rintro e w' ⟨rfl, rfl⟩
  simp only [Int.reduceEq, ↓reduceIte]
  go_wp2_with fail
  simp only [hop.out, hA.out, hB.out, hN.out]
  refine (renc_one ⟨op, A, B, 0, N⟩ _ ?hb0).mono ?_
  case hb0 =>
    refine C42_blk (l := [⟨op, A, B, 0, N⟩]) ?_ (by simp)
    show _ = some (Obj.cells #[.int .i64 op, .int .i64 A, .int .i64 B, .int .i64 0, .int .i64 N] 42 (0, 0))
    simpa using blk_new ((w.alloc _).alloc _) _
  rintro e w1 ⟨v0, rfl, hR, hb⟩
  have HB := Aside0.mk (below_step (below_alloc (below_alloc (below_alloc (Below.refl _ _) _) _) _) hb : Below w.heap.size w w1)
  have hz : w.heap.size + 2 < w1.heap.size := by have := hb.size; simp at this; omega
  have hz1 : w.heap.size + 1 < w1.heap.size := by omega
  have hz0 : w.heap.size < w1.heap.size := by omega
  obtain ⟨c0, f0⟩ := kcX hb (w.heap.size + 1) 0 op (by go_simp) (by go_simp)
  obtain ⟨c1, f1⟩ := kcX hb (w.heap.size + 1) 1 A (by go_simp) (by go_simp)
  obtain ⟨c2, f2⟩ := kcX hb (w.heap.size + 1) 2 B (by go_simp) (by go_simp)
  obtain ⟨c3, f3⟩ := kcX hb (w.heap.size + 1) 3 0 (by go_simp) (by go_simp)
  obtain ⟨c4, f4⟩ := kcX hb (w.heap.size + 1) 4 N (by go_simp) (by go_simp)
  obtain ⟨d0, g0⟩ := kcX hb w.heap.size 0 0 (by go_simp) (by go_simp)
  obtain ⟨d1, g1⟩ := kcX hb w.heap.size 1 0 (by go_simp) (by go_simp)
  obtain ⟨d2, g2⟩ := kcX hb w.heap.size 2 0 (by go_simp) (by go_simp)
  obtain ⟨d3, g3⟩ := kcX hb w.heap.size 3 0 (by go_simp) (by go_simp)
  obtain ⟨d4, g4⟩ := kcX hb w.heap.size 4 0 (by go_simp) (by go_simp)
  clear hb
  by_cases hv : vI ⟨op, A, B, 0, N⟩ = true
  · rw [encL_one hv] at hR ⊢
    obtain ⟨ad1, m, c5, rfl, hm, hc⟩ := first_word hv hR
    clear hR
    obtain ⟨y, hy⟩ : ∃ y, Hid (word1 op A B 0 N = y) := ⟨_, rfl⟩
    rw [show word1 op A B 0 N = y from hy] at hc
    by_cases hx : y = x
    · subst hx
      go_wp2_with fail
      refine end27 (b := w.heap.size) op A B 0 N 1 0 ?p4a ?p5a ?p6a ?pda ?q0a ?q1a ?q2a ?q3a ?q4a ⟨by rw [if_pos ⟨hv, hy.out⟩], ?bela⟩
      case p4a => rfl
      case p5a => rfl
      case p6a => rfl
      case pda => rfl
      case q0a => go_simp
      case q1a => go_simp
      case q2a => go_simp
      case q3a => go_simp
      case q4a => go_simp
      case bela => repeat (first | with_reducible exact HB.out | with_reducible refine Below.setCell ?_ (by first | omega | (simp <;> omega)) _ | with_reducible refine Below.alloc ?_ (by first | omega | (simp <;> omega)) _)
    · have x1 : (y != x) = true := bne_iff_ne.2 hx
      have x2 : (y == x) = false := beq_eq_false_iff_ne.2 hx
      go_wp2_with fail
      refine end27 (b := w.heap.size) 0 0 0 0 0 0 204 ?p4b ?p5b ?p6b ?pdb ?q0b ?q1b ?q2b ?q3b ?q4b ⟨by rw [if_neg (fun h => hx (hy.out.symm.trans h.2))]; rfl, ?belb⟩
      case p4b => rfl
      case p5b => rfl
      case p6b => rfl
      case pdb => rfl
      case q0b => go_simp
      case q1b => go_simp
      case q2b => go_simp
      case q3b => go_simp
      case q4b => go_simp
      case belb => repeat (first | with_reducible exact HB.out | with_reducible refine Below.setCell ?_ (by first | omega | (simp <;> omega)) _ | with_reducible refine Below.alloc ?_ (by first | omega | (simp <;> omega)) _)
  · rw [encL_bad hv] at hR ⊢
    clear hR
    go_wp2_with fail
    refine end27 (b := w.heap.size) 0 0 0 0 0 0 204 ?p4c ?p5c ?p6c ?pdc ?q0c ?q1c ?q2c ?q3c ?q4c ⟨by rw [if_neg (fun h => hv h.1)]; rfl, ?belc⟩
    case p4c => rfl
    case p5c => rfl
    case p6c => rfl
    case pdc => rfl
    case q0c => go_simp
    case q1c => go_simp
    case q2c => go_simp
    case q3c => go_simp
    case q4c => go_simp
    case belc => repeat (first | with_reducible exact HB.out | with_reducible refine Below.setCell ?_ (by first | omega | (simp <;> omega)) _ | with_reducible refine Below.alloc ?_ (by first | omega | (simp <;> omega)) _)
set_option maxRecDepth 100000 in
set_option maxHeartbeats 4000000 in
theorem rdec_8p (ad : Addr) (n c : Nat) (a x : Int) (w : World) (hx0 : 0 ≤ x) (hx1 : x < 4294967296) (hcell : w.cell? (ad.add a.toNat) = some (.int .u32 x)) (a0 : 0 ≤ a) (a1 : a < n) (hn : n ≤ 9223372036854775800)
    (hf : Hid (formOf (wrap64 (bits .and .u32 x 63)) = 8)) (op A B C N : Int) (hop : Hid (wrap64 (bits .and .u32 x 63) = op)) (hA : A = 0) (hB : B = 0) (hC : C = 0) (hN : Hid (x / 64 = N)) (lo : x / 64 < 33554432) :
    Calls Tryd.prog 27 #[.slice (some ad) n c, .int .i64 a] w (RPost w x ⟨op, A, B, C, N⟩ 1) := by
  subst hA
  subst hB
  subst hC
  have hlt : (ad.add a.toNat).block < w.heap.size := World.block_lt_of_cell? _ _ hcell
  have t0 : decide (a < 0) = false := decide_eq_false (by omega)
  have t1 : decide ((n : Int) ≤ a) = false := decide_eq_false (by omega)
  go_enter Tryd.func27, Tryd.ntmps27
  go_wp2_with fail
  refine (form_any _ _).mono ?_
  rintro e w' ⟨rfl, rfl⟩
  rw [hf.out]
  go_wp2_with fail
  refine (field_any _ _).mono ?_
  rintro e w' ⟨rfl, rfl⟩
  simp only [Int.reduceEq, ↓reduceIte]
  go_wp2_with fail
  simp only [hop.out, hN.out]
  refine (renc_one ⟨op, 0, 0, 0, N⟩ _ ?hb0).mono ?_
  case hb0 =>
    refine C42_blk (l := [⟨op, 0, 0, 0, N⟩]) ?_ (by simp)
    show _ = some (Obj.cells #[.int .i64 op, .int .i64 0, .int .i64 0, .int .i64 0, .int .i64 N] 42 (0, 0))
    simpa using blk_new ((w.alloc _).alloc _) _
  rintro e w1 ⟨v0, rfl, hR, hb⟩
  have HB := Aside0.mk (below_step (below_alloc (below_alloc (below_alloc (Below.refl _ _) _) _) _) hb : Below w.heap.size w w1)
  have hz : w.heap.size + 2 < w1.heap.size := by have := hb.size; simp at this; omega
  have hz1 : w.heap.size + 1 < w1.heap.size := by omega
  have hz0 : w.heap.size < w1.heap.size := by omega
  obtain ⟨c0, f0⟩ := kcX hb (w.heap.size + 1) 0 op (by go_simp) (by go_simp)
  obtain ⟨c1, f1⟩ := kcX hb (w.heap.size + 1) 1 0 (by go_simp) (by go_simp)
  obtain ⟨c2, f2⟩ := kcX hb (w.heap.size + 1) 2 0 (by go_simp) (by go_simp)
  obtain ⟨c3, f3⟩ := kcX hb (w.heap.size + 1) 3 0 (by go_simp) (by go_simp)
  obtain ⟨c4, f4⟩ := kcX hb (w.heap.size + 1) 4 N (by go_simp) (by go_simp)
  obtain ⟨d0, g0⟩ := kcX hb w.heap.size 0 0 (by go_simp) (by go_simp)
  obtain ⟨d1, g1⟩ := kcX hb w.heap.size 1 0 (by go_simp) (by go_simp)
  obtain ⟨d2, g2⟩ := kcX hb w.heap.size 2 0 (by go_simp) (by go_simp)
  obtain ⟨d3, g3⟩ := kcX hb w.heap.size 3 0 (by go_simp) (by go_simp)
  obtain ⟨d4, g4⟩ := kcX hb w.heap.size 4 0 (by go_simp) (by go_simp)
  clear hb
  by_cases hv : vI ⟨op, 0, 0, 0, N⟩ = true
  · rw [encL_one hv] at hR ⊢
    obtain ⟨ad1, m, c5, rfl, hm, hc⟩ := first_word hv hR
    clear hR
    obtain ⟨y, hy⟩ : ∃ y, Hid (word1 op 0 0 0 N = y) := ⟨_, rfl⟩
    rw [show word1 op 0 0 0 N = y from hy] at hc
    by_cases hx : y = x
    · subst hx
      go_wp2_with fail
      refine end27 (b := w.heap.size) op 0 0 0 N 1 0 ?p4a ?p5a ?p6a ?pda ?q0a ?q1a ?q2a ?q3a ?q4a ⟨by rw [if_pos ⟨hv, hy.out⟩], ?bela⟩
      case p4a => rfl
      case p5a => rfl
      case p6a => rfl
      case pda => rfl
      case q0a => go_simp
      case q1a => go_simp
      case q2a => go_simp
      case q3a => go_simp
      case q4a => go_simp
      case bela => repeat (first | with_reducible exact HB.out | with_reducible refine Below.setCell ?_ (by first | omega | (simp <;> omega)) _ | with_reducible refine Below.alloc ?_ (by first | omega | (simp <;> omega)) _)
    · have x1 : (y != x) = true := bne_iff_ne.2 hx
      have x2 : (y == x) = false := beq_eq_false_iff_ne.2 hx
      go_wp2_with fail
      refine end27 (b := w.heap.size) 0 0 0 0 0 0 204 ?p4b ?p5b ?p6b ?pdb ?q0b ?q1b ?q2b ?q3b ?q4b ⟨by rw [if_neg (fun h => hx (hy.out.symm.trans h.2))]; rfl, ?belb⟩
      case p4b => rfl
      case p5b => rfl
      case p6b => rfl
      case pdb => rfl
      case q0b => go_simp
      case q1b => go_simp
      case q2b => go_simp
      case q3b => go_simp
      case q4b => go_simp
      case belb => repeat (first | with_reducible exact HB.out | with_reducible refine Below.setCell ?_ (by first | omega | (simp <;> omega)) _ | with_reducible refine Below.alloc ?_ (by first | omega | (simp <;> omega)) _)
  · rw [encL_bad hv] at hR ⊢
    clear hR
    go_wp2_with fail
    refine end27 (b := w.heap.size) 0 0 0 0 0 0 204 ?p4c ?p5c ?p6c ?pdc ?q0c ?q1c ?q2c ?q3c ?q4c ⟨by rw [if_neg (fun h => hv h.1)]; rfl, ?belc⟩
    case p4c => rfl
    case p5c => rfl
    case p6c => rfl
    case pdc => rfl
    case q0c => go_simp
    case q1c => go_simp
    case q2c => go_simp
    case q3c => go_simp
    case q4c => go_simp
    case belc => repeat (first | with_reducible exact HB.out | with_reducible refine Below.setCell ?_ (by first | omega | (simp <;> omega)) _ | with_reducible refine Below.alloc ?_ (by first | omega | (simp <;> omega)) _)
set_option maxRecDepth 100000 in
set_option maxHeartbeats 4000000 in
theorem rdec_8n (ad : Addr) (n c : Nat) (a x : Int) (w : World) (hx0 : 0 ≤ x) (hx1 : x < 4294967296) (hcell : w.cell? (ad.add a.toNat) = some (.int .u32 x)) (a0 : 0 ≤ a) (a1 : a < n) (hn : n ≤ 9223372036854775800)
    (hf : Hid (formOf (wrap64 (bits .and .u32 x 63)) = 8)) (op A B C N : Int) (hop : Hid (wrap64 (bits .and .u32 x 63) = op)) (hA : A = 0) (hB : B = 0) (hC : C = 0) (hN : Hid (x / 64 - 67108864 = N)) (lo : 33554432 ≤ x / 64) :
    Calls Tryd.prog 27 #[.slice (some ad) n c, .int .i64 a] w (RPost w x ⟨op, A, B, C, N⟩ 1) := by
  subst hA
  subst hB
  subst hC
  have hlt : (ad.add a.toNat).block < w.heap.size := World.block_lt_of_cell? _ _ hcell
  have t0 : decide (a < 0) = false := decide_eq_false (by omega)
  have t1 : decide ((n : Int) ≤ a) = false := decide_eq_false (by omega)
  go_enter Tryd.func27, Tryd.ntmps27
  go_wp2_with fail
  refine (form_any _ _).mono ?_
  rintro e w' ⟨rfl, rfl⟩
  rw [hf.out]
  go_wp2_with fail
  refine (field_any _ _).mono ?_
  rintro e w' ⟨rfl, rfl⟩
  simp only [Int.reduceEq, ↓reduceIte]
  go_wp2_with fail
  simp only [hop.out, hN.out]
  refine (renc_one ⟨op, 0, 0, 0, N⟩ _ ?hb0).mono ?_
  case hb0 =>
    refine C42_blk (l := [⟨op, 0, 0, 0, N⟩]) ?_ (by simp)
    show _ = some (Obj.cells #[.int .i64 op, .int .i64 0, .int .i64 0, .int .i64 0, .int .i64 N] 42 (0, 0))
    simpa using blk_new ((w.alloc _).alloc _) _
  rintro e w1 ⟨v0, rfl, hR, hb⟩
  have HB := Aside0.mk (below_step (below_alloc (below_alloc (below_alloc (Below.refl _ _) _) _) _) hb : Below w.heap.size w w1)
  have hz : w.heap.size + 2 < w1.heap.size := by have := hb.size; simp at this; omega
  have hz1 : w.heap.size + 1 < w1.heap.size := by omega
  have hz0 : w.heap.size < w1.heap.size := by omega
  obtain ⟨c0, f0⟩ := kcX hb (w.heap.size + 1) 0 op (by go_simp) (by go_simp)
  obtain ⟨c1, f1⟩ := kcX hb (w.heap.size + 1) 1 0 (by go_simp) (by go_simp)
  obtain ⟨c2, f2⟩ := kcX hb (w.heap.size + 1) 2 0 (by go_simp) (by go_simp)
  obtain ⟨c3, f3⟩ := kcX hb (w.heap.size + 1) 3 0 (by go_simp) (by go_simp)
  obtain ⟨c4, f4⟩ := kcX hb (w.heap.size + 1) 4 N (by go_simp) (by go_simp)
  obtain ⟨d0, g0⟩ := kcX hb w.heap.size 0 0 (by go_simp) (by go_simp)
  obtain ⟨d1, g1⟩ := kcX hb w.heap.size 1 0 (by go_simp) (by go_simp)
  obtain ⟨d2, g2⟩ := kcX hb w.heap.size 2 0 (by go_simp) (by go_simp)
  obtain ⟨d3, g3⟩ := kcX hb w.heap.size 3 0 (by go_simp) (by go_simp)
  obtain ⟨d4, g4⟩ := kcX hb w.heap.size 4 0 (by go_simp) (by go_simp)
  clear hb
  by_cases hv : vI ⟨op, 0, 0, 0, N⟩ = true
  · rw [encL_one hv] at hR ⊢
    obtain ⟨ad1, m, c5, rfl, hm, hc⟩ := first_word hv hR
    clear hR
    obtain ⟨y, hy⟩ : ∃ y, Hid (word1 op 0 0 0 N = y) := ⟨_, rfl⟩
    rw [show word1 op 0 0 0 N = y from hy] at hc
    by_cases hx : y = x
    · subst hx
      go_wp2_with fail
      refine end27 (b := w.heap.size) op 0 0 0 N 1 0 ?p4a ?p5a ?p6a ?pda ?q0a ?q1a ?q2a ?q3a ?q4a ⟨by rw [if_pos ⟨hv, hy.out⟩], ?bela⟩
      case p4a => rfl
      case p5a => rfl
      case p6a => rfl
      case pda => rfl
      case q0a => go_simp
      case q1a => go_simp
      case q2a => go_simp
      case q3a => go_simp
      case q4a => go_simp
      case bela => repeat (first | with_reducible exact HB.out | with_reducible refine Below.setCell ?_ (by first | omega | (simp <;> omega)) _ | with_reducible refine Below.alloc ?_ (by first | omega | (simp <;> omega)) _)
    · have x1 : (y != x) = true := bne_iff_ne.2 hx
      have x2 : (y == x) = false := beq_eq_false_iff_ne.2 hx
      go_wp2_with fail
      refine end27 (b := w.heap.size) 0 0 0 0 0 0 204 ?p4b ?p5b ?p6b ?pdb ?q0b ?q1b ?q2b ?q3b ?q4b ⟨by rw [if_neg (fun h => hx (hy.out.symm.trans h.2))]; rfl, ?belb⟩
      case p4b => rfl
      case p5b => rfl
      case p6b => rfl
      case pdb => rfl
      case q0b => go_simp
      case q1b => go_simp
      case q2b => go_simp
      case q3b => go_simp
      case q4b => go_simp
      case belb => repeat (first | with_reducible exact HB.out | with_reducible refine Below.setCell ?_ (by first | omega | (simp <;> omega)) _ | with_reducible refine Below.alloc ?_ (by first | omega | (simp <;> omega)) _)
  · rw [encL_bad hv] at hR ⊢
    clear hR
    go_wp2_with fail
    refine end27 (b := w.heap.size) 0 0 0 0 0 0 204 ?p4c ?p5c ?p6c ?pdc ?q0c ?q1c ?q2c ?q3c ?q4c ⟨by rw [if_neg (fun h => hv h.1)]; rfl, ?belc⟩
    case p4c => rfl
    case p5c => rfl
    case p6c => rfl
    case pdc => rfl
    case q0c => go_simp
    case q1c => go_simp
    case q2c => go_simp
    case q3c => go_simp
    case q4c => go_simp
    case belc => repeat (first | with_reducible exact HB.out | with_reducible refine Below.setCell ?_ (by first | omega | (simp <;> omega)) _ | with_reducible refine Below.alloc ?_ (by first | omega | (simp <;> omega)) _)
end Go.Proofs.YtcjidibdidijaaaDoor
