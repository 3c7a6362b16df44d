/- Several parts of this proof in one text: RDec0, RDec1, RDec2, RDec3, RDec, CRDe, CRDa, RDal. -/
import Derived.Test.YtcjidibdidijaaaDoorRVal0
import Derived.Test.YtcjidibdidijaaaDoorEncR
import Derived.Test.YtcjidibdidijaaaDoorDecP
import Derived.Test.YtcjidibdidijaaaDoorBlk
import Derived.Outline
import Derived.StillTailTactics
import Derived.Lib.Hide
import Derived.Test.YtcjidibdidijaaaDoorCT
import Derived.Test.YtcjidibdidijaaaDoorCodP
namespace Go.Proofs.YtcjidibdidijaaaDoor
open Go.RowKit Go.Proofs.YtcjidibdidijaaaDoor.PCod Go.Proofs.YtcjidibdidijaaaDoorW.PrintWords Go.Proofs.YtcjidibdidijaaaDoorW.PrintMore
set_option linter.unusedVariables false
set_option linter.unusedSimpArgs false

def decV (d : Int × Int × Int × Int × Int × Int × Int) : Value := .tuple #[.agg #[.int .i64 d.1, .int .i64 d.2.1, .int .i64 d.2.2.1, .int .i64 d.2.2.2.1, .int .i64 d.2.2.2.2.1], .int .i64 d.2.2.2.2.2.1, .int .i64 d.2.2.2.2.2.2]
def RPost (w : World) (x : Int) (i : S42) (size : Int) (e : Ending) (w' : World) : Prop := e = .returned (decV (if vI i = true ∧ word1 i.f0 i.f1 i.f2 i.f3 i.f4 = x then (i.f0, i.f1, i.f2, i.f3, i.f4, size, 0) else errD)) ∧ Below w.heap.size w w'
def EncPost (W : World) (i : S42) (e : Ending) (w' : World) : Prop := ∃ v0 : Value, e = .returned (.tuple #[v0, .int .i64 (encL [i]).2]) ∧ Kd.R (Kd.int .u32) 53 w' W.heap.size (fun _ => True) v0 (encL [i]).1 ∧ Below W.heap.size W w'
theorem renc_one {b : Nat} (i : S42) (W : World) (hc : Kd.C k42 W (some ⟨b, 0, none⟩) 1 [i]) : Calls Tryd.prog 37 #[.slice (some ⟨b, 0, none⟩) 1 1] W (EncPost W i) := by
  obtain ⟨k, hk⟩ := (renc_ev [i] (by simp)).rounds
  exact fullingref29_Encode.calls k _ 1 [i] _ _ W hc (by simp) hk
theorem field_any (f : Int) (w : World) : Calls Tryd.prog 68 #[.int .i64 f] w fun e w' => e = .returned (.tuple #[.int .u64 (if f = 8 then 6 else if f = 5 then 9 else if f = 7 then 12 else 0), .int .u64 (if f = 8 then 26 else if f = 5 then 23 else if f = 7 then 20 else 0)]) ∧ w = w' := by
  by_cases h8 : f = 8
  · subst h8
    go_enter Tryd.func68, Tryd.ntmps68
    go_wp2
    go_ret2
    exact ⟨rfl, rfl⟩
  · by_cases h5 : f = 5
    · subst h5
      go_enter Tryd.func68, Tryd.ntmps68
      go_wp2
      go_ret2
      exact ⟨rfl, rfl⟩
    · by_cases h7 : f = 7
      · subst h7
        go_enter Tryd.func68, Tryd.ntmps68
        go_wp2
        go_ret2
        exact ⟨rfl, rfl⟩
      · have b8 : (f == 8) = false := beq_eq_false_iff_ne.2 h8
        have b5 : (f == 5) = false := beq_eq_false_iff_ne.2 h5
        have b7 : (f == 7) = false := beq_eq_false_iff_ne.2 h7
        rw [if_neg h8, if_neg h5, if_neg h7, if_neg h8, if_neg h5, if_neg h7]
        go_enter Tryd.func68, Tryd.ntmps68
        go_wp2
        go_ret2
        exact ⟨rfl, rfl⟩
theorem still_tail {P : Program} {id : Nat} {Q : Exit → Act → World → Prop} {a : Act} {w : World} {l : List Oper} (n : Nat) (hm : P.follows .mixedOrders = true) (hB : Region.lexTailB .any l.toArray n = true)
    (h : wpStill P l.toArray w.drew (fun a' => wpList P l.toArray Q (l.drop n) a' w.drew) (l.take n) a) : (Code.region id l.toArray true).wp P Q a w := wp_region_still_tail n hm hB h
theorem encL_one {i : S42} (h : vI i = true) : encL [i] = (wI i, 0) := by
  unfold encL
  rw [if_pos (by simp [h])]
  simp
theorem encL_bad {i : S42} (h : ¬ vI i = true) : encL [i] = ([], 204) := by
  unfold encL
  rw [if_neg (by simpa using h)]
/-- The first word of what was encoded. -/
theorem first_word {W : World} {base : Nat} {P : Nat → Prop} {v : Value} {i : S42} (h : vI i = true) (hR : Kd.R (Kd.int .u32) 53 W base P v (wI i)) :
    ∃ ad m c, v = .slice (some ad) m c ∧ 0 < m ∧ W.cell? ad = some (.int .u32 (word1 i.f0 i.f1 i.f2 i.f3 i.f4)) := by
  obtain ⟨A, c, rfl, _, hC⟩ := Kd.R_reads hR
  have hl := (wI_len3 h).1
  obtain ⟨ad, rfl, hcell⟩ := (readsInt_of.2 (Kd.reads_of_C (d := (0 : Int)) hC)).at_ 0 (by omega) (by omega)
  refine ⟨ad, _, c, rfl, by omega, ?_⟩
  have e : rd (wI i) 0 = word1 i.f0 i.f1 i.f2 i.f3 i.f4 := by
    have hw : wI i = _ := appW_eq (vI_val h)
    rw [hw]
    split <;> rfl
  rw [← e]
  simpa [Addr.add] using hcell
theorem end27 {a : Act} {W : World} {b : Nat} (op A B C X s er : Int) {Q : Ending → World → Prop} (hp : a.tmps.getD 4 undef = .pointer (some ⟨b, 0, none⟩)) (h5 : a.tmps.getD 5 undef = .int .i64 s) (h6 : a.tmps.getD 6 undef = .int .i64 er) (hd : a.defers = [])
    (c0 : W.cell? ⟨b, 0, none⟩ = some (.int .i64 op)) (c1 : W.cell? ⟨b, 1, none⟩ = some (.int .i64 A)) (c2 : W.cell? ⟨b, 2, none⟩ = some (.int .i64 B))
    (c3 : W.cell? ⟨b, 3, none⟩ = some (.int .i64 C)) (c4 : W.cell? ⟨b, 4, none⟩ = some (.int .i64 X)) (hq : Q (.returned (decV (op, A, B, C, X, s, er))) W) : bodyPost Tryd.prog Tryd.f27 Q .ret a W := by
  refine bodyPost_ret (v := decV (op, A, B, C, X, s, er)) ?_ hd hq
  have hp2 : a.tmps[4]?.getD undef = .pointer (some ⟨b, 0, none⟩) := by simpa using hp
  have h52 : a.tmps[5]?.getD undef = .int .i64 s := by simpa using h5
  have h62 : a.tmps[6]?.getD undef = .int .i64 er := by simpa using h6
  simp [results, Tryd.results27, go_sem, hp2, h52, h62, c0, c1, c2, c3, c4, decV]
end Go.Proofs.YtcjidibdidijaaaDoor
namespace Go.Proofs.YtcjidibdidijaaaDoor
open Go.RowKit Go.Proofs.YtcjidibdidijaaaDoor.PCod Go.Proofs.YtcjidibdidijaaaDoorW.PrintWords Go.Proofs.YtcjidibdidijaaaDoorW.PrintMore
set_option linter.unusedVariables false
set_option linter.unusedSimpArgs false

set_option maxRecDepth 100000 in
set_option maxHeartbeats 4000000 in
theorem rdec_1 (ad : Addr) (n c : Nat) (a x : Int) (w : World) (hx0 : 0 ≤ x) (hx1 : x < 4294967296) (hcell : w.cell? (ad.add a.toNat) = some (.int .u32 x)) (a0 : 0 ≤ a) (a1 : a < n) (hn : n ≤ 9223372036854775800)
    (hf : Hid (formOf (wrap64 (bits .and .u32 x 63)) = 1)) (op A B C N : Int) (hop : Hid (wrap64 (bits .and .u32 x 63) = op)) (hA : A = 0) (hB : B = 0) (hC : C = 0) (hN : N = 0) :
    Calls Tryd.prog 27 #[.slice (some ad) n c, .int .i64 a] w (RPost w x ⟨op, A, B, C, N⟩ 1) := by
  subst hA
  subst hB
  subst hC
  subst hN
  have hlt : (ad.add a.toNat).block < w.heap.size := World.block_lt_of_cell? _ _ hcell
  have t0 : decide (a < 0) = false := decide_eq_false (by omega)
  have t1 : decide ((n : Int) ≤ a) = false := decide_eq_false (by omega)
  go_enter Tryd.func27, Tryd.ntmps27
  go_wp2_with fail
  refine (form_any _ _).mono ?_
  rintro e w' ⟨rfl, rfl⟩
  rw [hf.out]
  go_wp2_with fail
  refine (field_any _ _).mono ?_
  rintro e w' ⟨rfl, rfl⟩
  simp only [Int.reduceEq, ↓reduceIte]
  go_wp2_with fail
  simp only [hop.out]
  refine (renc_one ⟨op, 0, 0, 0, 0⟩ _ ?hb0).mono ?_
  case hb0 =>
    refine C42_blk (l := [⟨op, 0, 0, 0, 0⟩]) ?_ (by simp)
    show _ = some (Obj.cells #[.int .i64 op, .int .i64 0, .int .i64 0, .int .i64 0, .int .i64 0] 42 (0, 0))
    simpa using blk_new ((w.alloc _).alloc _) _
  rintro e w1 ⟨v0, rfl, hR, hb⟩
  have HB := Aside0.mk (below_step (below_alloc (below_alloc (below_alloc (Below.refl _ _) _) _) _) hb : Below w.heap.size w w1)
  have hz : w.heap.size + 2 < w1.heap.size := by have := hb.size; simp at this; omega
  have hz1 : w.heap.size + 1 < w1.heap.size := by omega
  have hz0 : w.heap.size < w1.heap.size := by omega
  obtain ⟨c0, f0⟩ := kcX hb (w.heap.size + 1) 0 op (by go_simp) (by go_simp)
  obtain ⟨c1, f1⟩ := kcX hb (w.heap.size + 1) 1 0 (by go_simp) (by go_simp)
  obtain ⟨c2, f2⟩ := kcX hb (w.heap.size + 1) 2 0 (by go_simp) (by go_simp)
  obtain ⟨c3, f3⟩ := kcX hb (w.heap.size + 1) 3 0 (by go_simp) (by go_simp)
  obtain ⟨c4, f4⟩ := kcX hb (w.heap.size + 1) 4 0 (by go_simp) (by go_simp)
  obtain ⟨d0, g0⟩ := kcX hb w.heap.size 0 0 (by go_simp) (by go_simp)
  obtain ⟨d1, g1⟩ := kcX hb w.heap.size 1 0 (by go_simp) (by go_simp)
  obtain ⟨d2, g2⟩ := kcX hb w.heap.size 2 0 (by go_simp) (by go_simp)
  obtain ⟨d3, g3⟩ := kcX hb w.heap.size 3 0 (by go_simp) (by go_simp)
  obtain ⟨d4, g4⟩ := kcX hb w.heap.size 4 0 (by go_simp) (by go_simp)
  clear hb
  by_cases hv : vI ⟨op, 0, 0, 0, 0⟩ = true
  · rw [encL_one hv] at hR ⊢
    obtain ⟨ad1, m, c5, rfl, hm, hc⟩ := first_word hv hR
    clear hR
    obtain ⟨y, hy⟩ : ∃ y, Hid (word1 op 0 0 0 0 = y) := ⟨_, rfl⟩
    rw [show word1 op 0 0 0 0 = y from hy] at hc
    by_cases hx : y = x
    · subst hx
      go_wp2_with fail
      refine end27 (b := w.heap.size) op 0 0 0 0 1 0 ?p4a ?p5a ?p6a ?pda ?q0a ?q1a ?q2a ?q3a ?q4a ⟨by rw [if_pos ⟨hv, hy.out⟩], ?bela⟩
      case p4a => rfl
      case p5a => rfl
      case p6a => rfl
      case pda => rfl
      case q0a => go_simp
      case q1a => go_simp
      case q2a => go_simp
      case q3a => go_simp
      case q4a => go_simp
      case bela => repeat (first | with_reducible exact HB.out | with_reducible refine Below.setCell ?_ (by first | omega | (simp <;> omega)) _ | with_reducible refine Below.alloc ?_ (by first | omega | (simp <;> omega)) _)
    · have x1 : (y != x) = true := bne_iff_ne.2 hx
      have x2 : (y == x) = false := beq_eq_false_iff_ne.2 hx
      go_wp2_with fail
      refine end27 (b := w.heap.size) 0 0 0 0 0 0 204 ?p4b ?p5b ?p6b ?pdb ?q0b ?q1b ?q2b ?q3b ?q4b ⟨by rw [if_neg (fun h => hx (hy.out.symm.trans h.2))]; rfl, ?belb⟩
      case p4b => rfl
      case p5b => rfl
      case p6b => rfl
      case pdb => rfl
      case q0b => go_simp
      case q1b => go_simp
      case q2b => go_simp
      case q3b => go_simp
      case q4b => go_simp
      case belb => repeat (first | with_reducible exact HB.out | with_reducible refine Below.setCell ?_ (by first | omega | (simp <;> omega)) _ | with_reducible refine Below.alloc ?_ (by first | omega | (simp <;> omega)) _)
  · rw [encL_bad hv] at hR ⊢
    clear hR
    go_wp2_with fail
    refine end27 (b := w.heap.size) 0 0 0 0 0 0 204 ?p4c ?p5c ?p6c ?pdc ?q0c ?q1c ?q2c ?q3c ?q4c ⟨by rw [if_neg (fun h => hv h.1)]; rfl, ?belc⟩
    case p4c => rfl
    case p5c => rfl
    case p6c => rfl
    case pdc => rfl
    case q0c => go_simp
    case q1c => go_simp
    case q2c => go_simp
    case q3c => go_simp
    case q4c => go_simp
    case belc => repeat (first | with_reducible exact HB.out | with_reducible refine Below.setCell ?_ (by first | omega | (simp <;> omega)) _ | with_reducible refine Below.alloc ?_ (by first | omega | (simp <;> omega)) _)
set_option maxRecDepth 100000 in
set_option maxHeartbeats 4000000 in
theorem rdec_2 (ad : Addr) (n c : Nat) (a x : Int) (w : World) (hx0 : 0 ≤ x) (hx1 : x < 4294967296) (hcell : w.cell? (ad.add a.toNat) = some (.int .u32 x)) (a0 : 0 ≤ a) (a1 : a < n) (hn : n ≤ 9223372036854775800)
    (hf : Hid (formOf (wrap64 (bits .and .u32 x 63)) = 2)) (op A B C N : Int) (hop : Hid (wrap64 (bits .and .u32 x 63) = op)) (hA : Hid (wrap64 (bits .and .u32 (x / 64) 7) = A)) (hB : B = 0) (hC : C = 0) (hN : N = 0) :
    Calls Tryd.prog 27 #[.slice (some ad) n c, .int .i64 a] w (RPost w x ⟨op, A, B, C, N⟩ 1) := by
  subst hB
  subst hC
  subst hN
  have hlt : (ad.add a.toNat).block < w.heap.size := World.block_lt_of_cell? _ _ hcell
  have t0 : decide (a < 0) = false := decide_eq_false (by omega)
  have t1 : decide ((n : Int) ≤ a) = false := decide_eq_false (by omega)
  go_enter Tryd.func27, Tryd.ntmps27
  go_wp2_with fail
  refine (form_any _ _).mono ?_
  rintro e w' ⟨rfl, rfl⟩
  rw [hf.out]
  go_wp2_with fail
  refine (field_any _ _).mono ?_
  rintro e w' ⟨rfl, rfl⟩
  simp only [Int.reduceEq, ↓reduceIte]
  go_wp2_with fail
  simp only [hop.out, hA.out]
  refine (renc_one ⟨op, A, 0, 0, 0⟩ _ ?hb0).mono ?_
  case hb0 =>
    refine C42_blk (l := [⟨op, A, 0, 0, 0⟩]) ?_ (by simp)
    show _ = some (Obj.cells #[.int .i64 op, .int .i64 A, .int .i64 0, .int .i64 0, .int .i64 0] 42 (0, 0))
    simpa using blk_new ((w.alloc _).alloc _) _
  rintro e w1 ⟨v0, rfl, hR, hb⟩
  have HB := Aside0.mk (below_step (below_alloc (below_alloc (below_alloc (Below.refl _ _) _) _) _) hb : Below w.heap.size w w1)
  have hz : w.heap.size + 2 < w1.heap.size := by have := hb.size; simp at this; omega
  have hz1 : w.heap.size + 1 < w1.heap.size := by omega
  have hz0 : w.heap.size < w1.heap.size := by omega
  obtain ⟨c0, f0⟩ := kcX hb (w.heap.size + 1) 0 op (by go_simp) (by go_simp)
  obtain ⟨c1, f1⟩ := kcX hb (w.heap.size + 1) 1 A (by go_simp) (by go_simp)
  obtain ⟨c2, f2⟩ := kcX hb (w.heap.size + 1) 2 0 (by go_simp) (by go_simp)
  obtain ⟨c3, f3⟩ := kcX hb (w.heap.size + 1) 3 0 (by go_simp) (by go_simp)
  obtain ⟨c4, f4⟩ := kcX hb (w.heap.size + 1) 4 0 (by go_simp) (by go_simp)
  obtain ⟨d0, g0⟩ := kcX hb w.heap.size 0 0 (by go_simp) (by go_simp)
  obtain ⟨d1, g1⟩ := kcX hb w.heap.size 1 0 (by go_simp) (by go_simp)
  obtain ⟨d2, g2⟩ := kcX hb w.heap.size 2 0 (by go_simp) (by go_simp)
  obtain ⟨d3, g3⟩ := kcX hb w.heap.size 3 0 (by go_simp) (by go_simp)
  obtain ⟨d4, g4⟩ := kcX hb w.heap.size 4 0 (by go_simp) (by go_simp)
  clear hb
  by_cases hv : vI ⟨op, A, 0, 0, 0⟩ = true
  · rw [encL_one hv] at hR ⊢
    obtain ⟨ad1, m, c5, rfl, hm, hc⟩ := first_word hv hR
    clear hR
    obtain ⟨y, hy⟩ : ∃ y, Hid (word1 op A 0 0 0 = y) := ⟨_, rfl⟩
    rw [show word1 op A 0 0 0 = y from hy] at hc
    by_cases hx : y = x
    · subst hx
      go_wp2_with fail
      refine end27 (b := w.heap.size) op A 0 0 0 1 0 ?p4a ?p5a ?p6a ?pda ?q0a ?q1a ?q2a ?q3a ?q4a ⟨by rw [if_pos ⟨hv, hy.out⟩], ?bela⟩
      case p4a => rfl
      case p5a => rfl
      case p6a => rfl
      case pda => rfl
      case q0a => go_simp
      case q1a => go_simp
      case q2a => go_simp
      case q3a => go_simp
      case q4a => go_simp
      case bela => repeat (first | with_reducible exact HB.out | with_reducible refine Below.setCell ?_ (by first | omega | (simp <;> omega)) _ | with_reducible refine Below.alloc ?_ (by first | omega | (simp <;> omega)) _)
    · have x1 : (y != x) = true := bne_iff_ne.2 hx
      have x2 : (y == x) = false := beq_eq_false_iff_ne.2 hx
      go_wp2_with fail
      refine end27 (b := w.heap.size) 0 0 0 0 0 0 204 ?p4b ?p5b ?p6b ?pdb ?q0b ?q1b ?q2b ?q3b ?q4b ⟨by rw [if_neg (fun h => hx (hy.out.symm.trans h.2))]; rfl, ?belb⟩
      case p4b => rfl
      case p5b => rfl
      case p6b => rfl
      case pdb => rfl
      case q0b => go_simp
      case q1b => go_simp
      case q2b => go_simp
      case q3b => go_simp
      case q4b => go_simp
      case belb => repeat (first | with_reducible exact HB.out | with_reducible refine Below.setCell ?_ (by first | omega | (simp <;> omega)) _ | with_reducible refine Below.alloc ?_ (by first | omega | (simp <;> omega)) _)
  · rw [encL_bad hv] at hR ⊢
    clear hR
    go_wp2_with fail
    refine end27 (b := w.heap.size) 0 0 0 0 0 0 204 ?p4c ?p5c ?p6c ?pdc ?q0c ?q1c ?q2c ?q3c ?q4c ⟨by rw [if_neg (fun h => hv h.1)]; rfl, ?belc⟩
    case p4c => rfl
    case p5c => rfl
    case p6c => rfl
    case pdc => rfl
    case q0c => go_simp
    case q1c => go_simp
    case q2c => go_simp
    case q3c => go_simp
    case q4c => go_simp
    case belc => repeat (first | with_reducible exact HB.out | with_reducible refine Below.setCell ?_ (by first | omega | (simp <;> omega)) _ | with_reducible refine Below.alloc ?_ (by first | omega | (simp <;> omega)) _)
set_option maxRecDepth 100000 in
set_option maxHeartbeats 4000000 in
theorem rdec_3 (ad : Addr) (n c : Nat) (a x : Int) (w : World) (hx0 : 0 ≤ x) (hx1 : x < 4294967296) (hcell : w.cell? (ad.add a.toNat) = some (.int .u32 x)) (a0 : 0 ≤ a) (a1 : a < n) (hn : n ≤ 9223372036854775800)
    (hf : Hid (formOf (wrap64 (bits .and .u32 x 63)) = 3)) (op A B C N : Int) (hop : Hid (wrap64 (bits .and .u32 x 63) = op)) (hA : Hid (wrap64 (bits .and .u32 (x / 64) 7) = A)) (hB : Hid (wrap64 (bits .and .u32 (x / 512) 7) = B)) (hC : C = 0) (hN : N = 0) :
    Calls Tryd.prog 27 #[.slice (some ad) n c, .int .i64 a] w (RPost w x ⟨op, A, B, C, N⟩ 1) := by
  subst hC
  subst hN
  have hlt : (ad.add a.toNat).block < w.heap.size := World.block_lt_of_cell? _ _ hcell
  have t0 : decide (a < 0) = false := decide_eq_false (by omega)
  have t1 : decide ((n : Int) ≤ a) = false := decide_eq_false (by omega)
  go_enter Tryd.func27, Tryd.ntmps27
  go_wp2_with fail
  refine (form_any _ _).mono ?_
  rintro e w' ⟨rfl, rfl⟩
  rw [hf.out]
  go_wp2_with fail
  refine (field_any _ _).mono ?_
  rintro e w' ⟨rfl, rfl⟩
  simp only [Int.reduceEq, ↓reduceIte]
  go_wp2_with fail
  simp only [hop.out, hA.out, hB.out]
  refine (renc_one ⟨op, A, B, 0, 0⟩ _ ?hb0).mono ?_
  case hb0 =>
    refine C42_blk (l := [⟨op, A, B, 0, 0⟩]) ?_ (by simp)
    show _ = some (Obj.cells #[.int .i64 op, .int .i64 A, .int .i64 B, .int .i64 0, .int .i64 0] 42 (0, 0))
    simpa using blk_new ((w.alloc _).alloc _) _
  rintro e w1 ⟨v0, rfl, hR, hb⟩
  have HB := Aside0.mk (below_step (below_alloc (below_alloc (below_alloc (Below.refl _ _) _) _) _) hb : Below w.heap.size w w1)
  have hz : w.heap.size + 2 < w1.heap.size := by have := hb.size; simp at this; omega
  have hz1 : w.heap.size + 1 < w1.heap.size := by omega
  have hz0 : w.heap.size < w1.heap.size := by omega
  obtain ⟨c0, f0⟩ := kcX hb (w.heap.size + 1) 0 op (by go_simp) (by go_simp)
  obtain ⟨c1, f1⟩ := kcX hb (w.heap.size + 1) 1 A (by go_simp) (by go_simp)
  obtain ⟨c2, f2⟩ := kcX hb (w.heap.size + 1) 2 B (by go_simp) (by go_simp)
  obtain ⟨c3, f3⟩ := kcX hb (w.heap.size + 1) 3 0 (by go_simp) (by go_simp)
  obtain ⟨c4, f4⟩ := kcX hb (w.heap.size + 1) 4 0 (by go_simp) (by go_simp)
  obtain ⟨d0, g0⟩ := kcX hb w.heap.size 0 0 (by go_simp) (by go_simp)
  obtain ⟨d1, g1⟩ := kcX hb w.heap.size 1 0 (by go_simp) (by go_simp)
  obtain ⟨d2, g2⟩ := kcX hb w.heap.size 2 0 (by go_simp) (by go_simp)
  obtain ⟨d3, g3⟩ := kcX hb w.heap.size 3 0 (by go_simp) (by go_simp)
  obtain ⟨d4, g4⟩ := kcX hb w.heap.size 4 0 (by go_simp) (by go_simp)
  clear hb
  by_cases hv : vI ⟨op, A, B, 0, 0⟩ = true
  · rw [encL_one hv] at hR ⊢
    obtain ⟨ad1, m, c5, rfl, hm, hc⟩ := first_word hv hR
    clear hR
    obtain ⟨y, hy⟩ : ∃ y, Hid (word1 op A B 0 0 = y) := ⟨_, rfl⟩
    rw [show word1 op A B 0 0 = y from hy] at hc
    by_cases hx : y = x
    · subst hx
      go_wp2_with fail
      refine end27 (b := w.heap.size) op A B 0 0 1 0 ?p4a ?p5a ?p6a ?pda ?q0a ?q1a ?q2a ?q3a ?q4a ⟨by rw [if_pos ⟨hv, hy.out⟩], ?bela⟩
      case p4a => rfl
      case p5a => rfl
      case p6a => rfl
      case pda => rfl
      case q0a => go_simp
      case q1a => go_simp
      case q2a => go_simp
      case q3a => go_simp
      case q4a => go_simp
      case bela => repeat (first | with_reducible exact HB.out | with_reducible refine Below.setCell ?_ (by first | omega | (simp <;> omega)) _ | with_reducible refine Below.alloc ?_ (by first | omega | (simp <;> omega)) _)
    · have x1 : (y != x) = true := bne_iff_ne.2 hx
      have x2 : (y == x) = false := beq_eq_false_iff_ne.2 hx
      go_wp2_with fail
      refine end27 (b := w.heap.size) 0 0 0 0 0 0 204 ?p4b ?p5b ?p6b ?pdb ?q0b ?q1b ?q2b ?q3b ?q4b ⟨by rw [if_neg (fun h => hx (hy.out.symm.trans h.2))]; rfl, ?belb⟩
      case p4b => rfl
      case p5b => rfl
      case p6b => rfl
      case pdb => rfl
      case q0b => go_simp
      case q1b => go_simp
      case q2b => go_simp
      case q3b => go_simp
      case q4b => go_simp
      case belb => repeat (first | with_reducible exact HB.out | with_reducible refine Below.setCell ?_ (by first | omega | (simp <;> omega)) _ | with_reducible refine Below.alloc ?_ (by first | omega | (simp <;> omega)) _)
  · rw [encL_bad hv] at hR ⊢
    clear hR
    go_wp2_with fail
    refine end27 (b := w.heap.size) 0 0 0 0 0 0 204 ?p4c ?p5c ?p6c ?pdc ?q0c ?q1c ?q2c ?q3c ?q4c ⟨by rw [if_neg (fun h => hv h.1)]; rfl, ?belc⟩
    case p4c => rfl
    case p5c => rfl
    case p6c => rfl
    case pdc => rfl
    case q0c => go_simp
    case q1c => go_simp
    case q2c => go_simp
    case q3c => go_simp
    case q4c => go_simp
    case belc => repeat (first | with_reducible exact HB.out | with_reducible refine Below.setCell ?_ (by first | omega | (simp <;> omega)) _ | with_reducible refine Below.alloc ?_ (by first | omega | (simp <;> omega)) _)
set_option maxRecDepth 100000 in
set_option maxHeartbeats 4000000 in
theorem rdec_4 (ad : Addr) (n c : Nat) (a x : Int) (w : World) (hx0 : 0 ≤ x) (hx1 : x < 4294967296) (hcell : w.cell? (ad.add a.toNat) = some (.int .u32 x)) (a0 : 0 ≤ a) (a1 : a < n) (hn : n ≤ 9223372036854775800)
    (hf : Hid (formOf (wrap64 (bits .and .u32 x 63)) = 4)) (op A B C N : Int) (hop : Hid (wrap64 (bits .and .u32 x 63) = op)) (hA : Hid (wrap64 (bits .and .u32 (x / 64) 7) = A)) (hB : Hid (wrap64 (bits .and .u32 (x / 512) 7) = B)) (hC : Hid (wrap64 (bits .and .u32 (x / 4096) 7) = C)) (hN : N = 0) :
    Calls Tryd.prog 27 #[.slice (some ad) n c, .int .i64 a] w (RPost w x ⟨op, A, B, C, N⟩ 1) := by
  subst hN
  have hlt : (ad.add a.toNat).block < w.heap.size := World.block_lt_of_cell? _ _ hcell
  have t0 : decide (a < 0) = false := decide_eq_false (by omega)
  have t1 : decide ((n : Int) ≤ a) = false := decide_eq_false (by omega)
  go_enter Tryd.func27, Tryd.ntmps27
  go_wp2_with fail
  refine (form_any _ _).mono ?_
  rintro e w' ⟨rfl, rfl⟩
  rw [hf.out]
  go_wp2_with fail
  refine (field_any _ _).mono ?_
  rintro e w' ⟨rfl, rfl⟩
  simp only [Int.reduceEq, ↓reduceIte]
  go_wp2_with fail
  simp only [hop.out, hA.out, hB.out, hC.out]
  refine (renc_one ⟨op, A, B, C, 0⟩ _ ?hb0).mono ?_
  case hb0 =>
    refine C42_blk (l := [⟨op, A, B, C, 0⟩]) ?_ (by simp)
    show _ = some (Obj.cells #[.int .i64 op, .int .i64 A, .int .i64 B, .int .i64 C, .int .i64 0] 42 (0, 0))
    simpa using blk_new ((w.alloc _).alloc _) _
  rintro e w1 ⟨v0, rfl, hR, hb⟩
  have HB := Aside0.mk (below_step (below_alloc (below_alloc (below_alloc (Below.refl _ _) _) _) _) hb : Below w.heap.size w w1)
  have hz : w.heap.size + 2 < w1.heap.size := by have := hb.size; simp at this; omega
  have hz1 : w.heap.size + 1 < w1.heap.size := by omega
  have hz0 : w.heap.size < w1.heap.size := by omega
  obtain ⟨c0, f0⟩ := kcX hb (w.heap.size + 1) 0 op (by go_simp) (by go_simp)
  obtain ⟨c1, f1⟩ := kcX hb (w.heap.size + 1) 1 A (by go_simp) (by go_simp)
  obtain ⟨c2, f2⟩ := kcX hb (w.heap.size + 1) 2 B (by go_simp) (by go_simp)
  obtain ⟨c3, f3⟩ := kcX hb (w.heap.size + 1) 3 C (by go_simp) (by go_simp)
  obtain ⟨c4, f4⟩ := kcX hb (w.heap.size + 1) 4 0 (by go_simp) (by go_simp)
  obtain ⟨d0, g0⟩ := kcX hb w.heap.size 0 0 (by go_simp) (by go_simp)
  obtain ⟨d1, g1⟩ := kcX hb w.heap.size 1 0 (by go_simp) (by go_simp)
  obtain ⟨d2, g2⟩ := kcX hb w.heap.size 2 0 (by go_simp) (by go_simp)
  obtain ⟨d3, g3⟩ := kcX hb w.heap.size 3 0 (by go_simp) (by go_simp)
  obtain ⟨d4, g4⟩ := kcX hb w.heap.size 4 0 (by go_simp) (by go_simp)
  clear hb
  by_cases hv : vI ⟨op, A, B, C, 0⟩ = true
  · rw [encL_one hv] at hR ⊢
    obtain ⟨ad1, m, c5, rfl, hm, hc⟩ := first_word hv hR
    clear hR
    obtain ⟨y, hy⟩ : ∃ y, Hid (word1 op A B C 0 = y) := ⟨_, rfl⟩
    rw [show word1 op A B C 0 = y from hy] at hc
    by_cases hx : y = x
    · subst hx
      go_wp2_with fail
      refine end27 (b := w.heap.size) op A B C 0 1 0 ?p4a ?p5a ?p6a ?pda ?q0a ?q1a ?q2a ?q3a ?q4a ⟨by rw [if_pos ⟨hv, hy.out⟩], ?bela⟩
      case p4a => rfl
      case p5a => rfl
      case p6a => rfl
      case pda => rfl
      case q0a => go_simp
      case q1a => go_simp
      case q2a => go_simp
      case q3a => go_simp
      case q4a => go_simp
      case bela => repeat (first | with_reducible exact HB.out | with_reducible refine Below.setCell ?_ (by first | omega | (simp <;> omega)) _ | with_reducible refine Below.alloc ?_ (by first | omega | (simp <;> omega)) _)
    · have x1 : (y != x) = true := bne_iff_ne.2 hx
      have x2 : (y == x) = false := beq_eq_false_iff_ne.2 hx
      go_wp2_with fail
      refine end27 (b := w.heap.size) 0 0 0 0 0 0 204 ?p4b ?p5b ?p6b ?pdb ?q0b ?q1b ?q2b ?q3b ?q4b ⟨by rw [if_neg (fun h => hx (hy.out.symm.trans h.2))]; rfl, ?belb⟩
      case p4b => rfl
      case p5b => rfl
      case p6b => rfl
      case pdb => rfl
      case q0b => go_simp
      case q1b => go_simp
      case q2b => go_simp
      case q3b => go_simp
      case q4b => go_simp
      case belb => repeat (first | with_reducible exact HB.out | with_reducible refine Below.setCell ?_ (by first | omega | (simp <;> omega)) _ | with_reducible refine Below.alloc ?_ (by first | omega | (simp <;> omega)) _)
  · rw [encL_bad hv] at hR ⊢
    clear hR
    go_wp2_with fail
    refine end27 (b := w.heap.size) 0 0 0 0 0 0 204 ?p4c ?p5c ?p6c ?pdc ?q0c ?q1c ?q2c ?q3c ?q4c ⟨by rw [if_neg (fun h => hv h.1)]; rfl, ?belc⟩
    case p4c => rfl
    case p5c => rfl
    case p6c => rfl
    case pdc => rfl
    case q0c => go_simp
    case q1c => go_simp
    case q2c => go_simp
    case q3c => go_simp
    case q4c => go_simp
    case belc => repeat (first | with_reducible exact HB.out | with_reducible refine Below.setCell ?_ (by first | omega | (simp <;> omega)) _ | with_reducible refine Below.alloc ?_ (by first | omega | (simp <;> omega)) _)
set_option maxRecDepth 100000 in
set_option maxHeartbeats 4000000 in
theorem rdec_5p (ad : Addr) (n c : Nat) (a x : Int) (w : World) (hx0 : 0 ≤ x) (hx1 : x < 4294967296) (hcell : w.cell? (ad.add a.toNat) = some (.int .u32 x)) (a0 : 0 ≤ a) (a1 : a < n) (hn : n ≤ 9223372036854775800)
    (hf : Hid (formOf (wrap64 (bits .and .u32 x 63)) = 5)) (op A B C N : Int) (hop : Hid (wrap64 (bits .and .u32 x 63) = op)) (hA : Hid (wrap64 (bits .and .u32 (x / 64) 7) = A)) (hB : B = 0) (hC : C = 0) (hN : Hid (x / 512 = N)) (lo : x / 512 < 4194304) :
    Calls Tryd.prog 27 #[.slice (some ad) n c, .int .i64 a] w (RPost w x ⟨op, A, B, C, N⟩ 1) := by
  subst hB
  subst hC
  have hlt : (ad.add a.toNat).block < w.heap.size := World.block_lt_of_cell? _ _ hcell
  have t0 : decide (a < 0) = false := decide_eq_false (by omega)
  have t1 : decide ((n : Int) ≤ a) = false := decide_eq_false (by omega)
  go_enter Tryd.func27, Tryd.ntmps27
  go_wp2_with fail
  refine (form_any _ _).mono ?_
  rintro e w' ⟨rfl, rfl⟩
  rw [hf.out]
  go_wp2_with fail
  refine (field_any _ _).mono ?_
  rintro e w' ⟨rfl, rfl⟩
  simp only [Int.reduceEq, ↓reduceIte]
  go_wp2_with fail
  simp only [hop.out, hA.out, hN.out]
  refine (renc_one ⟨op, A, 0, 0, N⟩ _ ?hb0).mono ?_
  case hb0 =>
    refine C42_blk (l := [⟨op, A, 0, 0, N⟩]) ?_ (by simp)
    show _ = some (Obj.cells #[.int .i64 op, .int .i64 A, .int .i64 0, .int .i64 0, .int .i64 N] 42 (0, 0))
    simpa using blk_new ((w.alloc _).alloc _) _
  rintro e w1 ⟨v0, rfl, hR, hb⟩
  have HB := Aside0.mk (below_step (below_alloc (below_alloc (below_alloc (Below.refl _ _) _) _) _) hb : Below w.heap.size w w1)
  have hz : w.heap.size + 2 < w1.heap.size := by have := hb.size; simp at this; omega
  have hz1 : w.heap.size + 1 < w1.heap.size := by omega
  have hz0 : w.heap.size < w1.heap.size := by omega
  obtain ⟨c0, f0⟩ := kcX hb (w.heap.size + 1) 0 op (by go_simp) (by go_simp)
  obtain ⟨c1, f1⟩ := kcX hb (w.heap.size + 1) 1 A (by go_simp) (by go_simp)
  obtain ⟨c2, f2⟩ := kcX hb (w.heap.size + 1) 2 0 (by go_simp) (by go_simp)
  obtain ⟨c3, f3⟩ := kcX hb (w.heap.size + 1) 3 0 (by go_simp) (by go_simp)
  obtain ⟨c4, f4⟩ := kcX hb (w.heap.size + 1) 4 N (by go_simp) (by go_simp)
  obtain ⟨d0, g0⟩ := kcX hb w.heap.size 0 0 (by go_simp) (by go_simp)
  obtain ⟨d1, g1⟩ := kcX hb w.heap.size 1 0 (by go_simp) (by go_simp)
  obtain ⟨d2, g2⟩ := kcX hb w.heap.size 2 0 (by go_simp) (by go_simp)
  obtain ⟨d3, g3⟩ := kcX hb w.heap.size 3 0 (by go_simp) (by go_simp)
  obtain ⟨d4, g4⟩ := kcX hb w.heap.size 4 0 (by go_simp) (by go_simp)
  clear hb
  by_cases hv : vI ⟨op, A, 0, 0, N⟩ = true
  · rw [encL_one hv] at hR ⊢
    obtain ⟨ad1, m, c5, rfl, hm, hc⟩ := first_word hv hR
    clear hR
    obtain ⟨y, hy⟩ : ∃ y, Hid (word1 op A 0 0 N = y) := ⟨_, rfl⟩
    rw [show word1 op A 0 0 N = y from hy] at hc
    by_cases hx : y = x
    · subst hx
      go_wp2_with fail
      refine end27 (b := w.heap.size) op A 0 0 N 1 0 ?p4a ?p5a ?p6a ?pda ?q0a ?q1a ?q2a ?q3a ?q4a ⟨by rw [if_pos ⟨hv, hy.out⟩], ?bela⟩
      case p4a => rfl
      case p5a => rfl
      case p6a => rfl
      case pda => rfl
      case q0a => go_simp
      case q1a => go_simp
      case q2a => go_simp
      case q3a => go_simp
      case q4a => go_simp
      case bela => repeat (first | with_reducible exact HB.out | with_reducible refine Below.setCell ?_ (by first | omega | (simp <;> omega)) _ | with_reducible refine Below.alloc ?_ (by first | omega | (simp <;> omega)) _)
    · have x1 : (y != x) = true := bne_iff_ne.2 hx
      have x2 : (y == x) = false := beq_eq_false_iff_ne.2 hx
      go_wp2_with fail
      refine end27 (b := w.heap.size) 0 0 0 0 0 0 204 ?p4b ?p5b ?p6b ?pdb ?q0b ?q1b ?q2b ?q3b ?q4b ⟨by rw [if_neg (fun h => hx (hy.out.symm.trans h.2))]; rfl, ?belb⟩
      case p4b => rfl
      case p5b => rfl
      case p6b => rfl
      case pdb => rfl
      case q0b => go_simp
      case q1b => go_simp
      case q2b => go_simp
      case q3b => go_simp
      case q4b => go_simp
      case belb => repeat (first | with_reducible exact HB.out | with_reducible refine Below.setCell ?_ (by first | omega | (simp <;> omega)) _ | with_reducible refine Below.alloc ?_ (by first | omega | (simp <;> omega)) _)
  · rw [encL_bad hv] at hR ⊢
    clear hR
    go_wp2_with fail
    refine end27 (b := w.heap.size) 0 0 0 0 0 0 204 ?p4c ?p5c ?p6c ?pdc ?q0c ?q1c ?q2c ?q3c ?q4c ⟨by rw [if_neg (fun h => hv h.1)]; rfl, ?belc⟩
    case p4c => rfl
    case p5c => rfl
    case p6c => rfl
    case pdc => rfl
    case q0c => go_simp
    case q1c => go_simp
    case q2c => go_simp
    case q3c => go_simp
    case q4c => go_simp
    case belc => repeat (first | with_reducible exact HB.out | with_reducible refine Below.setCell ?_ (by first | omega | (simp <;> omega)) _ | with_reducible refine Below.alloc ?_ (by first | omega | (simp <;> omega)) _)
set_option maxRecDepth 100000 in
set_option maxHeartbeats 4000000 in
theorem rdec_5n (ad : Addr) (n c : Nat) (a x : Int) (w : World) (hx0 : 0 ≤ x) (hx1 : x < 4294967296) (hcell : w.cell? (ad.add a.toNat) = some (.int .u32 x)) (a0 : 0 ≤ a) (a1 : a < n) (hn : n ≤ 9223372036854775800)
    (hf : Hid (formOf (wrap64 (bits .and .u32 x 63)) = 5)) (op A B C N : Int) (hop : Hid (wrap64 (bits .and .u32 x 63) = op)) (hA : Hid (wrap64 (bits .and .u32 (x / 64) 7) = A)) (hB : B = 0) (hC : C = 0) (hN : Hid (x / 512 - 8388608 = N)) (lo : 4194304 ≤ x / 512) :
    Calls Tryd.prog 27 #[.slice (some ad) n c, .int .i64 a] w (RPost w x ⟨op, A, B, C, N⟩ 1) := by
  subst hB
  subst hC
  have hlt : (ad.add a.toNat).block < w.heap.size := World.block_lt_of_cell? _ _ hcell
  have t0 : decide (a < 0) = false := decide_eq_false (by omega)
  have t1 : decide ((n : Int) ≤ a) = false := decide_eq_false (by omega)
  go_enter Tryd.func27, Tryd.ntmps27
  go_wp2_with fail
  refine (form_any _ _).mono ?_
  rintro e w' ⟨rfl, rfl⟩
  rw [hf.out]
  go_wp2_with fail
  refine (field_any _ _).mono ?_
  rintro e w' ⟨rfl, rfl⟩
  simp only [Int.reduceEq, ↓reduceIte]
  go_wp2_with fail
  simp only [hop.out, hA.out, hN.out]
  refine (renc_one ⟨op, A, 0, 0, N⟩ _ ?hb0).mono ?_
  case hb0 =>
    refine C42_blk (l := [⟨op, A, 0, 0, N⟩]) ?_ (by simp)
    show _ = some (Obj.cells #[.int .i64 op, .int .i64 A, .int .i64 0, .int .i64 0, .int .i64 N] 42 (0, 0))
    simpa using blk_new ((w.alloc _).alloc _) _
  rintro e w1 ⟨v0, rfl, hR, hb⟩
  have HB := Aside0.mk (below_step (below_alloc (below_alloc (below_alloc (Below.refl _ _) _) _) _) hb : Below w.heap.size w w1)
  have hz : w.heap.size + 2 < w1.heap.size := by have := hb.size; simp at this; omega
  have hz1 : w.heap.size + 1 < w1.heap.size := by omega
  have hz0 : w.heap.size < w1.heap.size := by omega
  obtain ⟨c0, f0⟩ := kcX hb (w.heap.size + 1) 0 op (by go_simp) (by go_simp)
  obtain ⟨c1, f1⟩ := kcX hb (w.heap.size + 1) 1 A (by go_simp) (by go_simp)
  obtain ⟨c2, f2⟩ := kcX hb (w.heap.size + 1) 2 0 (by go_simp) (by go_simp)
  obtain ⟨c3, f3⟩ := kcX hb (w.heap.size + 1) 3 0 (by go_simp) (by go_simp)
  obtain ⟨c4, f4⟩ := kcX hb (w.heap.size + 1) 4 N (by go_simp) (by go_simp)
  obtain ⟨d0, g0⟩ := kcX hb w.heap.size 0 0 (by go_simp) (by go_simp)
  obtain ⟨d1, g1⟩ := kcX hb w.heap.size 1 0 (by go_simp) (by go_simp)
  obtain ⟨d2, g2⟩ := kcX hb w.heap.size 2 0 (by go_simp) (by go_simp)
  obtain ⟨d3, g3⟩ := kcX hb w.heap.size 3 0 (by go_simp) (by go_simp)
  obtain ⟨d4, g4⟩ := kcX hb w.heap.size 4 0 (by go_simp) (by go_simp)
  clear hb
  by_cases hv : vI ⟨op, A, 0, 0, N⟩ = true
  · rw [encL_one hv] at hR ⊢
    obtain ⟨ad1, m, c5, rfl, hm, hc⟩ := first_word hv hR
    clear hR
    obtain ⟨y, hy⟩ : ∃ y, Hid (word1 op A 0 0 N = y) := ⟨_, rfl⟩
    rw [show word1 op A 0 0 N = y from hy] at hc
    by_cases hx : y = x
    · subst hx
      go_wp2_with fail
      refine end27 (b := w.heap.size) op A 0 0 N 1 0 ?p4a ?p5a ?p6a ?pda ?q0a ?q1a ?q2a ?q3a ?q4a ⟨by rw [if_pos ⟨hv, hy.out⟩], ?bela⟩
      case p4a => rfl
      case p5a => rfl
      case p6a => rfl
      case pda => rfl
      case q0a => go_simp
      case q1a => go_simp
      case q2a => go_simp
      case q3a => go_simp
      case q4a => go_simp
      case bela => repeat (first | with_reducible exact HB.out | with_reducible refine Below.setCell ?_ (by first | omega | (simp <;> omega)) _ | with_reducible refine Below.alloc ?_ (by first | omega | (simp <;> omega)) _)
    · have x1 : (y != x) = true := bne_iff_ne.2 hx
      have x2 : (y == x) = false := beq_eq_false_iff_ne.2 hx
      go_wp2_with fail
      refine end27 (b := w.heap.size) 0 0 0 0 0 0 204 ?p4b ?p5b ?p6b ?pdb ?q0b ?q1b ?q2b ?q3b ?q4b ⟨by rw [if_neg (fun h => hx (hy.out.symm.trans h.2))]; rfl, ?belb⟩
      case p4b => rfl
      case p5b => rfl
      case p6b => rfl
      case pdb => rfl
      case q0b => go_simp
      case q1b => go_simp
      case q2b => go_simp
      case q3b => go_simp
      case q4b => go_simp
      case belb => repeat (first | with_reducible exact HB.out | with_reducible refine Below.setCell ?_ (by first | omega | (simp <;> omega)) _ | with_reducible refine Below.alloc ?_ (by first | omega | (simp <;> omega)) _)
  · rw [encL_bad hv] at hR ⊢
    clear hR
    go_wp2_with fail
    refine end27 (b := w.heap.size) 0 0 0 0 0 0 204 ?p4c ?p5c ?p6c ?pdc ?q0c ?q1c ?q2c ?q3c ?q4c ⟨by rw [if_neg (fun h => hv h.1)]; rfl, ?belc⟩
    case p4c => rfl
    case p5c => rfl
    case p6c => rfl
    case pdc => rfl
    case q0c => go_simp
    case q1c => go_simp
    case q2c => go_simp
    case q3c => go_simp
    case q4c => go_simp
    case belc => repeat (first | with_reducible exact HB.out | with_reducible refine Below.setCell ?_ (by first | omega | (simp <;> omega)) _ | with_reducible refine Below.alloc ?_ (by first | omega | (simp <;> omega)) _)
end Go.Proofs.YtcjidibdidijaaaDoor
namespace Go.Proofs.YtcjidibdidijaaaDoor
open Go.RowKit Go.Proofs.YtcjidibdidijaaaDoor.PCod Go.Proofs.YtcjidibdidijaaaDoorW.PrintWords Go.Proofs.YtcjidibdidijaaaDoorW.PrintMore
set_option linter.unusedVariables false
set_option linter.unusedSimpArgs false

set_option maxRecDepth 100000 in
set_option maxHeartbeats 4000000 in
theorem rdec_7p (ad : Addr) (n c : Nat) (a x : Int) (w : World) (hx0 : 0 ≤ x) (hx1 : x < 4294967296) (hcell : w.cell? (ad.add a.toNat) = some (.int .u32 x)) (a0 : 0 ≤ a) (a1 : a < n) (hn : n ≤ 9223372036854775800)
    (hf : Hid (formOf (wrap64 (bits .and .u32 x 63)) = 7)) (op A B C N : Int) (hop : Hid (wrap64 (bits .and .u32 x 63) = op)) (hA : Hid (wrap64 (bits .and .u32 (x / 64) 7) = A)) (hB : Hid (wrap64 (bits .and .u32 (x / 512) 7) = B)) (hC : C = 0) (hN : Hid (x / 4096 = N)) (lo : x / 4096 < 524288) :
    Calls Tryd.prog 27 #[.slice (some ad) n c, .int .i64 a] w (RPost w x ⟨op, A, B, C, N⟩ 1) := by
  subst hC
  have hlt : (ad.add a.toNat).block < w.heap.size := World.block_lt_of_cell? _ _ hcell
  have t0 : decide (a < 0) = false := decide_eq_false (by omega)
  have t1 : decide ((n : Int) ≤ a) = false := decide_eq_false (by omega)
  go_enter Tryd.func27, Tryd.ntmps27
  go_wp2_with fail
  refine (form_any _ _).mono ?_
  rintro e w' ⟨rfl, rfl⟩
  rw [hf.out]
  go_wp2_with fail
  refine (field_any _ _).mono ?_
  rintro e w' ⟨rfl, rfl⟩
  simp only [Int.reduceEq, ↓reduceIte]
  go_wp2_with fail
  simp only [hop.out, hA.out, hB.out, hN.out]
  refine (renc_one ⟨op, A, B, 0, N⟩ _ ?hb0).mono ?_
  case hb0 =>
    refine C42_blk (l := [⟨op, A, B, 0, N⟩]) ?_ (by simp)
    show _ = some (Obj.cells #[.int .i64 op, .int .i64 A, .int .i64 B, .int .i64 0, .int .i64 N] 42 (0, 0))
    simpa using blk_new ((w.alloc _).alloc _) _
  rintro e w1 ⟨v0, rfl, hR, hb⟩
  have HB := Aside0.mk (below_step (below_alloc (below_alloc (below_alloc (Below.refl _ _) _) _) _) hb : Below w.heap.size w w1)
  have hz : w.heap.size + 2 < w1.heap.size := by have := hb.size; simp at this; omega
  have hz1 : w.heap.size + 1 < w1.heap.size := by omega
  have hz0 : w.heap.size < w1.heap.size := by omega
  obtain ⟨c0, f0⟩ := kcX hb (w.heap.size + 1) 0 op (by go_simp) (by go_simp)
  obtain ⟨c1, f1⟩ := kcX hb (w.heap.size + 1) 1 A (by go_simp) (by go_simp)
  obtain ⟨c2, f2⟩ := kcX hb (w.heap.size + 1) 2 B (by go_simp) (by go_simp)
  obtain ⟨c3, f3⟩ := kcX hb (w.heap.size + 1) 3 0 (by go_simp) (by go_simp)
  obtain ⟨c4, f4⟩ := kcX hb (w.heap.size + 1) 4 N (by go_simp) (by go_simp)
  obtain ⟨d0, g0⟩ := kcX hb w.heap.size 0 0 (by go_simp) (by go_simp)
  obtain ⟨d1, g1⟩ := kcX hb w.heap.size 1 0 (by go_simp) (by go_simp)
  obtain ⟨d2, g2⟩ := kcX hb w.heap.size 2 0 (by go_simp) (by go_simp)
  obtain ⟨d3, g3⟩ := kcX hb w.heap.size 3 0 (by go_simp) (by go_simp)
  obtain ⟨d4, g4⟩ := kcX hb w.heap.size 4 0 (by go_simp) (by go_simp)
  clear hb
  by_cases hv : vI ⟨op, A, B, 0, N⟩ = true
  · rw [encL_one hv] at hR ⊢
    obtain ⟨ad1, m, c5, rfl, hm, hc⟩ := first_word hv hR
    clear hR
    obtain ⟨y, hy⟩ : ∃ y, Hid (word1 op A B 0 N = y) := ⟨_, rfl⟩
    rw [show word1 op A B 0 N = y from hy] at hc
    by_cases hx : y = x
    · subst hx
      go_wp2_with fail
      refine end27 (b := w.heap.size) op A B 0 N 1 0 ?p4a ?p5a ?p6a ?pda ?q0a ?q1a ?q2a ?q3a ?q4a ⟨by rw [if_pos ⟨hv, hy.out⟩], ?bela⟩
      case p4a => rfl
      case p5a => rfl
      case p6a => rfl
      case pda => rfl
      case q0a => go_simp
      case q1a => go_simp
      case q2a => go_simp
      case q3a => go_simp
      case q4a => go_simp
      case bela => repeat (first | with_reducible exact HB.out | with_reducible refine Below.setCell ?_ (by first | omega | (simp <;> omega)) _ | with_reducible refine Below.alloc ?_ (by first | omega | (simp <;> omega)) _)
    · have x1 : (y != x) = true := bne_iff_ne.2 hx
      have x2 : (y == x) = false := beq_eq_false_iff_ne.2 hx
      go_wp2_with fail
      refine end27 (b := w.heap.size) 0 0 0 0 0 0 204 ?p4b ?p5b ?p6b ?pdb ?q0b ?q1b ?q2b ?q3b ?q4b ⟨by rw [if_neg (fun h => hx (hy.out.symm.trans h.2))]; rfl, ?belb⟩
      case p4b => rfl
      case p5b => rfl
      case p6b => rfl
      case pdb => rfl
      case q0b => go_simp
      case q1b => go_simp
      case q2b => go_simp
      case q3b => go_simp
      case q4b => go_simp
      case belb => repeat (first | with_reducible exact HB.out | with_reducible refine Below.setCell ?_ (by first | omega | (simp <;> omega)) _ | with_reducible refine Below.alloc ?_ (by first | omega | (simp <;> omega)) _)
  · rw [encL_bad hv] at hR ⊢
    clear hR
    go_wp2_with fail
    refine end27 (b := w.heap.size) 0 0 0 0 0 0 204 ?p4c ?p5c ?p6c ?pdc ?q0c ?q1c ?q2c ?q3c ?q4c ⟨by rw [if_neg (fun h => hv h.1)]; rfl, ?belc⟩
    case p4c => rfl
    case p5c => rfl
    case p6c => rfl
    case pdc => rfl
    case q0c => go_simp
    case q1c => go_simp
    case q2c => go_simp
    case q3c => go_simp
    case q4c => go_simp
    case belc => repeat (first | with_reducible exact HB.out | with_reducible refine Below.setCell ?_ (by first | omega | (simp <;> omega)) _ | with_reducible refine Below.alloc ?_ (by first | omega | (simp <;> omega)) _)
set_option maxRecDepth 100000 in
set_option maxHeartbeats 4000000 in
theorem rdec_7n (ad : Addr) (n c : Nat) (a x : Int) (w : World) (hx0 : 0 ≤ x) (hx1 : x < 4294967296) (hcell : w.cell? (ad.add a.toNat) = some (.int .u32 x)) (a0 : 0 ≤ a) (a1 : a < n) (hn : n ≤ 9223372036854775800)
    (hf : Hid (formOf (wrap64 (bits .and .u32 x 63)) = 7)) (op A B C N : Int) (hop : Hid (wrap64 (bits .and .u32 x 63) = op)) (hA : Hid (wrap64 (bits .and .u32 (x / 64) 7) = A)) (hB : Hid (wrap64 (bits .and .u32 (x / 512) 7) = B)) (hC : C = 0) (hN : Hid (x / 4096 - 1048576 = N)) (lo : 524288 ≤ x / 4096) :
    Calls Tryd.prog 27 #[.slice (some ad) n c, .int .i64 a] w (RPost w x ⟨op, A, B, C, N⟩ 1) := by
  subst hC
  have hlt : (ad.add a.toNat).block < w.heap.size := World.block_lt_of_cell? _ _ hcell
  have t0 : decide (a < 0) = false := decide_eq_false (by omega)
  have t1 : decide ((n : Int) ≤ a) = false := decide_eq_false (by omega)
  go_enter Tryd.func27, Tryd.ntmps27
  go_wp2_with fail
  refine (form_any _ _).mono ?_
  rintro e w' ⟨rfl, rfl⟩
  rw [hf.out]
  go_wp2_with fail
  refine (field_any _ _).mono ?_
  rintro e w' ⟨rfl, rfl⟩
  simp only [Int.reduceEq, ↓reduceIte]
  go_wp2_with fail
  simp only [hop.out, hA.out, hB.out, hN.out]
  refine (renc_one ⟨op, A, B, 0, N⟩ _ ?hb0).mono ?_
  case hb0 =>
    refine C42_blk (l := [⟨op, A, B, 0, N⟩]) ?_ (by simp)
    show _ = some (Obj.cells #[.int .i64 op, .int .i64 A, .int .i64 B, .int .i64 0, .int .i64 N] 42 (0, 0))
    simpa using blk_new ((w.alloc _).alloc _) _
  rintro e w1 ⟨v0, rfl, hR, hb⟩
  have HB := Aside0.mk (below_step (below_alloc (below_alloc (below_alloc (Below.refl _ _) _) _) _) hb : Below w.heap.size w w1)
  have hz : w.heap.size + 2 < w1.heap.size := by have := hb.size; simp at this; omega
  have hz1 : w.heap.size + 1 < w1.heap.size := by omega
  have hz0 : w.heap.size < w1.heap.size := by omega
  obtain ⟨c0, f0⟩ := kcX hb (w.heap.size + 1) 0 op (by go_simp) (by go_simp)
  obtain ⟨c1, f1⟩ := kcX hb (w.heap.size + 1) 1 A (by go_simp) (by go_simp)
  obtain ⟨c2, f2⟩ := kcX hb (w.heap.size + 1) 2 B (by go_simp) (by go_simp)
  obtain ⟨c3, f3⟩ := kcX hb (w.heap.size + 1) 3 0 (by go_simp) (by go_simp)
  obtain ⟨c4, f4⟩ := kcX hb (w.heap.size + 1) 4 N (by go_simp) (by go_simp)
  obtain ⟨d0, g0⟩ := kcX hb w.heap.size 0 0 (by go_simp) (by go_simp)
  obtain ⟨d1, g1⟩ := kcX hb w.heap.size 1 0 (by go_simp) (by go_simp)
  obtain ⟨d2, g2⟩ := kcX hb w.heap.size 2 0 (by go_simp) (by go_simp)
  obtain ⟨d3, g3⟩ := kcX hb w.heap.size 3 0 (by go_simp) (by go_simp)
  obtain ⟨d4, g4⟩ := kcX hb w.heap.size 4 0 (by go_simp) (by go_simp)
  clear hb
  by_cases hv : vI ⟨op, A, B, 0, N⟩ = true
  · rw [encL_one hv] at hR ⊢
    obtain ⟨ad1, m, c5, rfl, hm, hc⟩ := first_word hv hR
    clear hR
    obtain ⟨y, hy⟩ : ∃ y, Hid (word1 op A B 0 N = y) := ⟨_, rfl⟩
    rw [show word1 op A B 0 N = y from hy] at hc
    by_cases hx : y = x
    · subst hx
      go_wp2_with fail
      refine end27 (b := w.heap.size) op A B 0 N 1 0 ?p4a ?p5a ?p6a ?pda ?q0a ?q1a ?q2a ?q3a ?q4a ⟨by rw [if_pos ⟨hv, hy.out⟩], ?bela⟩
      case p4a => rfl
      case p5a => rfl
      case p6a => rfl
      case pda => rfl
      case q0a => go_simp
      case q1a => go_simp
      case q2a => go_simp
      case q3a => go_simp
      case q4a => go_simp
      case bela => repeat (first | with_reducible exact HB.out | with_reducible refine Below.setCell ?_ (by first | omega | (simp <;> omega)) _ | with_reducible refine Below.alloc ?_ (by first | omega | (simp <;> omega)) _)
    · have x1 : (y != x) = true := bne_iff_ne.2 hx
      have x2 : (y == x) = false := beq_eq_false_iff_ne.2 hx
      go_wp2_with fail
      refine end27 (b := w.heap.size) 0 0 0 0 0 0 204 ?p4b ?p5b ?p6b ?pdb ?q0b ?q1b ?q2b ?q3b ?q4b ⟨by rw [if_neg (fun h => hx (hy.out.symm.trans h.2))]; rfl, ?belb⟩
      case p4b => rfl
      case p5b => rfl
      case p6b => rfl
      case pdb => rfl
      case q0b => go_simp
      case q1b => go_simp
      case q2b => go_simp
      case q3b => go_simp
      case q4b => go_simp
      case belb => repeat (first | with_reducible exact HB.out | with_reducible refine Below.setCell ?_ (by first | omega | (simp <;> omega)) _ | with_reducible refine Below.alloc ?_ (by first | omega | (simp <;> omega)) _)
  · rw [encL_bad hv] at hR ⊢
    clear hR
    go_wp2_with fail
    refine end27 (b := w.heap.size) 0 0 0 0 0 0 204 ?p4c ?p5c ?p6c ?pdc ?q0c ?q1c ?q2c ?q3c ?q4c ⟨by rw [if_neg (fun h => hv h.1)]; rfl, ?belc⟩
    case p4c => rfl
    case p5c => rfl
    case p6c => rfl
    case pdc => rfl
    case q0c => go_simp
    case q1c => go_simp
    case q2c => go_simp
    case q3c => go_simp
    case q4c => go_simp
    case belc => repeat (first | with_reducible exact HB.out | with_reducible refine Below.setCell ?_ (by first | omega | (simp <;> omega)) _ | with_reducible refine Below.alloc ?_ (by first | omega | (simp <;> omega)) _)
set_option maxRecDepth 100000 in
set_option maxHeartbeats 4000000 in
theorem rdec_8p (ad : Addr) (n c : Nat) (a x : Int) (w : World) (hx0 : 0 ≤ x) (hx1 : x < 4294967296) (hcell : w.cell? (ad.add a.toNat) = some (.int .u32 x)) (a0 : 0 ≤ a) (a1 : a < n) (hn : n ≤ 9223372036854775800)
    (hf : Hid (formOf (wrap64 (bits .and .u32 x 63)) = 8)) (op A B C N : Int) (hop : Hid (wrap64 (bits .and .u32 x 63) = op)) (hA : A = 0) (hB : B = 0) (hC : C = 0) (hN : Hid (x / 64 = N)) (lo : x / 64 < 33554432) :
    Calls Tryd.prog 27 #[.slice (some ad) n c, .int .i64 a] w (RPost w x ⟨op, A, B, C, N⟩ 1) := by
  subst hA
  subst hB
  subst hC
  have hlt : (ad.add a.toNat).block < w.heap.size := World.block_lt_of_cell? _ _ hcell
  have t0 : decide (a < 0) = false := decide_eq_false (by omega)
  have t1 : decide ((n : Int) ≤ a) = false := decide_eq_false (by omega)
  go_enter Tryd.func27, Tryd.ntmps27
  go_wp2_with fail
  refine (form_any _ _).mono ?_
  rintro e w' ⟨rfl, rfl⟩
  rw [hf.out]
  go_wp2_with fail
  refine (field_any _ _).mono ?_
  rintro e w' ⟨rfl, rfl⟩
  simp only [Int.reduceEq, ↓reduceIte]
  go_wp2_with fail
  simp only [hop.out, hN.out]
  refine (renc_one ⟨op, 0, 0, 0, N⟩ _ ?hb0).mono ?_
  case hb0 =>
    refine C42_blk (l := [⟨op, 0, 0, 0, N⟩]) ?_ (by simp)
    show _ = some (Obj.cells #[.int .i64 op, .int .i64 0, .int .i64 0, .int .i64 0, .int .i64 N] 42 (0, 0))
    simpa using blk_new ((w.alloc _).alloc _) _
  rintro e w1 ⟨v0, rfl, hR, hb⟩
  have HB := Aside0.mk (below_step (below_alloc (below_alloc (below_alloc (Below.refl _ _) _) _) _) hb : Below w.heap.size w w1)
  have hz : w.heap.size + 2 < w1.heap.size := by have := hb.size; simp at this; omega
  have hz1 : w.heap.size + 1 < w1.heap.size := by omega
  have hz0 : w.heap.size < w1.heap.size := by omega
  obtain ⟨c0, f0⟩ := kcX hb (w.heap.size + 1) 0 op (by go_simp) (by go_simp)
  obtain ⟨c1, f1⟩ := kcX hb (w.heap.size + 1) 1 0 (by go_simp) (by go_simp)
  obtain ⟨c2, f2⟩ := kcX hb (w.heap.size + 1) 2 0 (by go_simp) (by go_simp)
  obtain ⟨c3, f3⟩ := kcX hb (w.heap.size + 1) 3 0 (by go_simp) (by go_simp)
  obtain ⟨c4, f4⟩ := kcX hb (w.heap.size + 1) 4 N (by go_simp) (by go_simp)
  obtain ⟨d0, g0⟩ := kcX hb w.heap.size 0 0 (by go_simp) (by go_simp)
  obtain ⟨d1, g1⟩ := kcX hb w.heap.size 1 0 (by go_simp) (by go_simp)
  obtain ⟨d2, g2⟩ := kcX hb w.heap.size 2 0 (by go_simp) (by go_simp)
  obtain ⟨d3, g3⟩ := kcX hb w.heap.size 3 0 (by go_simp) (by go_simp)
  obtain ⟨d4, g4⟩ := kcX hb w.heap.size 4 0 (by go_simp) (by go_simp)
  clear hb
  by_cases hv : vI ⟨op, 0, 0, 0, N⟩ = true
  · rw [encL_one hv] at hR ⊢
    obtain ⟨ad1, m, c5, rfl, hm, hc⟩ := first_word hv hR
    clear hR
    obtain ⟨y, hy⟩ : ∃ y, Hid (word1 op 0 0 0 N = y) := ⟨_, rfl⟩
    rw [show word1 op 0 0 0 N = y from hy] at hc
    by_cases hx : y = x
    · subst hx
      go_wp2_with fail
      refine end27 (b := w.heap.size) op 0 0 0 N 1 0 ?p4a ?p5a ?p6a ?pda ?q0a ?q1a ?q2a ?q3a ?q4a ⟨by rw [if_pos ⟨hv, hy.out⟩], ?bela⟩
      case p4a => rfl
      case p5a => rfl
      case p6a => rfl
      case pda => rfl
      case q0a => go_simp
      case q1a => go_simp
      case q2a => go_simp
      case q3a => go_simp
      case q4a => go_simp
      case bela => repeat (first | with_reducible exact HB.out | with_reducible refine Below.setCell ?_ (by first | omega | (simp <;> omega)) _ | with_reducible refine Below.alloc ?_ (by first | omega | (simp <;> omega)) _)
    · have x1 : (y != x) = true := bne_iff_ne.2 hx
      have x2 : (y == x) = false := beq_eq_false_iff_ne.2 hx
      go_wp2_with fail
      refine end27 (b := w.heap.size) 0 0 0 0 0 0 204 ?p4b ?p5b ?p6b ?pdb ?q0b ?q1b ?q2b ?q3b ?q4b ⟨by rw [if_neg (fun h => hx (hy.out.symm.trans h.2))]; rfl, ?belb⟩
      case p4b => rfl
      case p5b => rfl
      case p6b => rfl
      case pdb => rfl
      case q0b => go_simp
      case q1b => go_simp
      case q2b => go_simp
      case q3b => go_simp
      case q4b => go_simp
      case belb => repeat (first | with_reducible exact HB.out | with_reducible refine Below.setCell ?_ (by first | omega | (simp <;> omega)) _ | with_reducible refine Below.alloc ?_ (by first | omega | (simp <;> omega)) _)
  · rw [encL_bad hv] at hR ⊢
    clear hR
    go_wp2_with fail
    refine end27 (b := w.heap.size) 0 0 0 0 0 0 204 ?p4c ?p5c ?p6c ?pdc ?q0c ?q1c ?q2c ?q3c ?q4c ⟨by rw [if_neg (fun h => hv h.1)]; rfl, ?belc⟩
    case p4c => rfl
    case p5c => rfl
    case p6c => rfl
    case pdc => rfl
    case q0c => go_simp
    case q1c => go_simp
    case q2c => go_simp
    case q3c => go_simp
    case q4c => go_simp
    case belc => repeat (first | with_reducible exact HB.out | with_reducible refine Below.setCell ?_ (by first | omega | (simp <;> omega)) _ | with_reducible refine Below.alloc ?_ (by first | omega | (simp <;> omega)) _)
set_option maxRecDepth 100000 in
set_option maxHeartbeats 4000000 in
theorem rdec_8n (ad : Addr) (n c : Nat) (a x : Int) (w : World) (hx0 : 0 ≤ x) (hx1 : x < 4294967296) (hcell : w.cell? (ad.add a.toNat) = some (.int .u32 x)) (a0 : 0 ≤ a) (a1 : a < n) (hn : n ≤ 9223372036854775800)
    (hf : Hid (formOf (wrap64 (bits .and .u32 x 63)) = 8)) (op A B C N : Int) (hop : Hid (wrap64 (bits .and .u32 x 63) = op)) (hA : A = 0) (hB : B = 0) (hC : C = 0) (hN : Hid (x / 64 - 67108864 = N)) (lo : 33554432 ≤ x / 64) :
    Calls Tryd.prog 27 #[.slice (some ad) n c, .int .i64 a] w (RPost w x ⟨op, A, B, C, N⟩ 1) := by
  subst hA
  subst hB
  subst hC
  have hlt : (ad.add a.toNat).block < w.heap.size := World.block_lt_of_cell? _ _ hcell
  have t0 : decide (a < 0) = false := decide_eq_false (by omega)
  have t1 : decide ((n : Int) ≤ a) = false := decide_eq_false (by omega)
  go_enter Tryd.func27, Tryd.ntmps27
  go_wp2_with fail
  refine (form_any _ _).mono ?_
  rintro e w' ⟨rfl, rfl⟩
  rw [hf.out]
  go_wp2_with fail
  refine (field_any _ _).mono ?_
  rintro e w' ⟨rfl, rfl⟩
  simp only [Int.reduceEq, ↓reduceIte]
  go_wp2_with fail
  simp only [hop.out, hN.out]
  refine (renc_one ⟨op, 0, 0, 0, N⟩ _ ?hb0).mono ?_
  case hb0 =>
    refine C42_blk (l := [⟨op, 0, 0, 0, N⟩]) ?_ (by simp)
    show _ = some (Obj.cells #[.int .i64 op, .int .i64 0, .int .i64 0, .int .i64 0, .int .i64 N] 42 (0, 0))
    simpa using blk_new ((w.alloc _).alloc _) _
  rintro e w1 ⟨v0, rfl, hR, hb⟩
  have HB := Aside0.mk (below_step (below_alloc (below_alloc (below_alloc (Below.refl _ _) _) _) _) hb : Below w.heap.size w w1)
  have hz : w.heap.size + 2 < w1.heap.size := by have := hb.size; simp at this; omega
  have hz1 : w.heap.size + 1 < w1.heap.size := by omega
  have hz0 : w.heap.size < w1.heap.size := by omega
  obtain ⟨c0, f0⟩ := kcX hb (w.heap.size + 1) 0 op (by go_simp) (by go_simp)
  obtain ⟨c1, f1⟩ := kcX hb (w.heap.size + 1) 1 0 (by go_simp) (by go_simp)
  obtain ⟨c2, f2⟩ := kcX hb (w.heap.size + 1) 2 0 (by go_simp) (by go_simp)
  obtain ⟨c3, f3⟩ := kcX hb (w.heap.size + 1) 3 0 (by go_simp) (by go_simp)
  obtain ⟨c4, f4⟩ := kcX hb (w.heap.size + 1) 4 N (by go_simp) (by go_simp)
  obtain ⟨d0, g0⟩ := kcX hb w.heap.size 0 0 (by go_simp) (by go_simp)
  obtain ⟨d1, g1⟩ := kcX hb w.heap.size 1 0 (by go_simp) (by go_simp)
  obtain ⟨d2, g2⟩ := kcX hb w.heap.size 2 0 (by go_simp) (by go_simp)
  obtain ⟨d3, g3⟩ := kcX hb w.heap.size 3 0 (by go_simp) (by go_simp)
  obtain ⟨d4, g4⟩ := kcX hb w.heap.size 4 0 (by go_simp) (by go_simp)
  clear hb
  by_cases hv : vI ⟨op, 0, 0, 0, N⟩ = true
  · rw [encL_one hv] at hR ⊢
    obtain ⟨ad1, m, c5, rfl, hm, hc⟩ := first_word hv hR
    clear hR
    obtain ⟨y, hy⟩ : ∃ y, Hid (word1 op 0 0 0 N = y) := ⟨_, rfl⟩
    rw [show word1 op 0 0 0 N = y from hy] at hc
    by_cases hx : y = x
    · subst hx
      go_wp2_with fail
      refine end27 (b := w.heap.size) op 0 0 0 N 1 0 ?p4a ?p5a ?p6a ?pda ?q0a ?q1a ?q2a ?q3a ?q4a ⟨by rw [if_pos ⟨hv, hy.out⟩], ?bela⟩
      case p4a => rfl
      case p5a => rfl
      case p6a => rfl
      case pda => rfl
      case q0a => go_simp
      case q1a => go_simp
      case q2a => go_simp
      case q3a => go_simp
      case q4a => go_simp
      case bela => repeat (first | with_reducible exact HB.out | with_reducible refine Below.setCell ?_ (by first | omega | (simp <;> omega)) _ | with_reducible refine Below.alloc ?_ (by first | omega | (simp <;> omega)) _)
    · have x1 : (y != x) = true := bne_iff_ne.2 hx
      have x2 : (y == x) = false := beq_eq_false_iff_ne.2 hx
      go_wp2_with fail
      refine end27 (b := w.heap.size) 0 0 0 0 0 0 204 ?p4b ?p5b ?p6b ?pdb ?q0b ?q1b ?q2b ?q3b ?q4b ⟨by rw [if_neg (fun h => hx (hy.out.symm.trans h.2))]; rfl, ?belb⟩
      case p4b => rfl
      case p5b => rfl
      case p6b => rfl
      case pdb => rfl
      case q0b => go_simp
      case q1b => go_simp
      case q2b => go_simp
      case q3b => go_simp
      case q4b => go_simp
      case belb => repeat (first | with_reducible exact HB.out | with_reducible refine Below.setCell ?_ (by first | omega | (simp <;> omega)) _ | with_reducible refine Below.alloc ?_ (by first | omega | (simp <;> omega)) _)
  · rw [encL_bad hv] at hR ⊢
    clear hR
    go_wp2_with fail
    refine end27 (b := w.heap.size) 0 0 0 0 0 0 204 ?p4c ?p5c ?p6c ?pdc ?q0c ?q1c ?q2c ?q3c ?q4c ⟨by rw [if_neg (fun h => hv h.1)]; rfl, ?belc⟩
    case p4c => rfl
    case p5c => rfl
    case p6c => rfl
    case pdc => rfl
    case q0c => go_simp
    case q1c => go_simp
    case q2c => go_simp
    case q3c => go_simp
    case q4c => go_simp
    case belc => repeat (first | with_reducible exact HB.out | with_reducible refine Below.setCell ?_ (by first | omega | (simp <;> omega)) _ | with_reducible refine Below.alloc ?_ (by first | omega | (simp <;> omega)) _)
end Go.Proofs.YtcjidibdidijaaaDoor
namespace Go.Proofs.YtcjidibdidijaaaDoor
open Go.RowKit Go.Proofs.YtcjidibdidijaaaDoor.PCod Go.Proofs.YtcjidibdidijaaaDoorW.PrintWords Go.Proofs.YtcjidibdidijaaaDoorW.PrintMore
set_option linter.unusedVariables false
set_option linter.unusedSimpArgs false

set_option maxRecDepth 100000 in
set_option maxHeartbeats 2000000 in
theorem rdec_out (A : Option Addr) (n c : Nat) (a : Int) (w : World) (h : a < 0 ∨ (n : Int) ≤ a) : Calls Tryd.prog 27 #[.slice A n c, .int .i64 a] w fun e w' => e = .returned (decV errD) ∧ Below w.heap.size w w' := by
  by_cases h0 : a < 0
  · have t0 : decide (a < 0) = true := decide_eq_true h0
    go_enter Tryd.func27, Tryd.ntmps27
    go_wp2_with fail
    refine end27 (b := w.heap.size) 0 0 0 0 0 0 204 ?p4a ?p5a ?p6a ?pda ?q0a ?q1a ?q2a ?q3a ?q4a ⟨rfl, ?bela⟩
    case p4a => rfl
    case p5a => rfl
    case p6a => rfl
    case pda => rfl
    case q0a => go_simp
    case q1a => go_simp
    case q2a => go_simp
    case q3a => go_simp
    case q4a => go_simp
    case bela => repeat (first | with_reducible exact Below.refl _ _ | with_reducible refine Below.setCell ?_ (by first | omega | (simp <;> omega)) _ | with_reducible refine Below.alloc ?_ (by first | omega | (simp <;> omega)) _)
  · have t0 : decide (a < 0) = false := decide_eq_false h0
    have t1 : decide ((n : Int) ≤ a) = true := decide_eq_true (by omega)
    go_enter Tryd.func27, Tryd.ntmps27
    go_wp2_with fail
    refine end27 (b := w.heap.size) 0 0 0 0 0 0 204 ?p4b ?p5b ?p6b ?pdb ?q0b ?q1b ?q2b ?q3b ?q4b ⟨rfl, ?belb⟩
    case p4b => rfl
    case p5b => rfl
    case p6b => rfl
    case pdb => rfl
    case q0b => go_simp
    case q1b => go_simp
    case q2b => go_simp
    case q3b => go_simp
    case q4b => go_simp
    case belb => repeat (first | with_reducible exact Below.refl _ _ | with_reducible refine Below.setCell ?_ (by first | omega | (simp <;> omega)) _ | with_reducible refine Below.alloc ?_ (by first | omega | (simp <;> omega)) _)
set_option maxRecDepth 100000 in
set_option maxHeartbeats 2000000 in
theorem rdec_0 (ad : Addr) (n c : Nat) (a x : Int) (w : World) (hx0 : 0 ≤ x) (hx1 : x < 4294967296) (hcell : w.cell? (ad.add a.toNat) = some (.int .u32 x)) (a0 : 0 ≤ a) (a1 : a < n) (hn : n ≤ 9223372036854775800)
    (hf : Hid (formOf (wrap64 (bits .and .u32 x 63)) = 0)) : Calls Tryd.prog 27 #[.slice (some ad) n c, .int .i64 a] w fun e w' => e = .returned (decV errD) ∧ Below w.heap.size w w' := by
  have hlt : (ad.add a.toNat).block < w.heap.size := World.block_lt_of_cell? _ _ hcell
  have t0 : decide (a < 0) = false := decide_eq_false (by omega)
  have t1 : decide ((n : Int) ≤ a) = false := decide_eq_false (by omega)
  go_enter Tryd.func27, Tryd.ntmps27
  go_wp2_with fail
  refine (form_any _ _).mono ?_
  rintro e w' ⟨rfl, rfl⟩
  rw [hf.out]
  go_wp2_with fail
  refine end27 (b := w.heap.size) 0 0 0 0 0 0 204 ?p4a ?p5a ?p6a ?pda ?q0a ?q1a ?q2a ?q3a ?q4a ⟨rfl, ?bela⟩
  case p4a => rfl
  case p5a => rfl
  case p6a => rfl
  case pda => rfl
  case q0a => go_simp
  case q1a => go_simp
  case q2a => go_simp
  case q3a => go_simp
  case q4a => go_simp
  case bela => repeat (first | with_reducible exact Below.refl _ _ | with_reducible refine Below.setCell ?_ (by first | omega | (simp <;> omega)) _ | with_reducible refine Below.alloc ?_ (by first | omega | (simp <;> omega)) _)
set_option maxRecDepth 100000 in
set_option maxHeartbeats 2000000 in
theorem rdec_6e (ad : Addr) (n c : Nat) (a x : Int) (w : World) (hx0 : 0 ≤ x) (hx1 : x < 4294967296) (hcell : w.cell? (ad.add a.toNat) = some (.int .u32 x)) (a0 : 0 ≤ a) (a1 : a < n) (hn : n ≤ 9223372036854775800)
    (hf : Hid (formOf (wrap64 (bits .and .u32 x 63)) = 6)) (lo : (n : Int) ≤ a + 2) : Calls Tryd.prog 27 #[.slice (some ad) n c, .int .i64 a] w fun e w' => e = .returned (decV errD) ∧ Below w.heap.size w w' := by
  have hlt : (ad.add a.toNat).block < w.heap.size := World.block_lt_of_cell? _ _ hcell
  have t0 : decide (a < 0) = false := decide_eq_false (by omega)
  have t1 : decide ((n : Int) ≤ a) = false := decide_eq_false (by omega)
  go_enter Tryd.func27, Tryd.ntmps27
  go_wp2_with fail
  refine (form_any _ _).mono ?_
  rintro e w' ⟨rfl, rfl⟩
  rw [hf.out]
  go_wp2_with fail
  refine (field_any _ _).mono ?_
  rintro e w' ⟨rfl, rfl⟩
  simp only [Int.reduceEq, ↓reduceIte]
  go_wp2_with fail
  refine end27 (b := w.heap.size) 0 0 0 0 0 0 204 ?p4a ?p5a ?p6a ?pda ?q0a ?q1a ?q2a ?q3a ?q4a ⟨rfl, ?bela⟩
  case p4a => rfl
  case p5a => rfl
  case p6a => rfl
  case pda => rfl
  case q0a => go_simp
  case q1a => go_simp
  case q2a => go_simp
  case q3a => go_simp
  case q4a => go_simp
  case bela => repeat (first | with_reducible exact Below.refl _ _ | with_reducible refine Below.setCell ?_ (by first | omega | (simp <;> omega)) _ | with_reducible refine Below.alloc ?_ (by first | omega | (simp <;> omega)) _)
set_option maxRecDepth 100000 in
set_option maxHeartbeats 4000000 in
theorem rdec_6 (ad : Addr) (n c : Nat) (a x : Int) (w : World) (hx0 : 0 ≤ x) (hx1 : x < 4294967296) (hcell : w.cell? (ad.add a.toNat) = some (.int .u32 x)) (a0 : 0 ≤ a) (a1 : a < n) (hn : n ≤ 9223372036854775800)
    (hf : Hid (formOf (wrap64 (bits .and .u32 x 63)) = 6)) (op A B C N : Int) (hop : Hid (wrap64 (bits .and .u32 x 63) = op)) (hA : Hid (wrap64 (bits .and .u32 (x / 64) 7) = A)) (hB : B = 0) (hC : C = 0) (lo : a + 2 < n) (y1 z1 : Int) (hy : 0 ≤ y1 ∧ y1 < 4294967296) (hz : 0 ≤ z1 ∧ z1 < 4294967296) (hcy : w.cell? (ad.add (a + 1).toNat) = some (.int .u32 y1)) (hcz : w.cell? (ad.add (a + 2).toNat) = some (.int .u32 z1)) (hN : Hid (wrap64 (bits .or .u64 y1 (z1 * 4294967296)) = N)) :
    Calls Tryd.prog 27 #[.slice (some ad) n c, .int .i64 a] w (RPost w x ⟨op, A, B, C, N⟩ 3) := by
  subst hB
  subst hC
  have hlt : (ad.add a.toNat).block < w.heap.size := World.block_lt_of_cell? _ _ hcell
  obtain ⟨j1, hj1⟩ : ∃ j, Hid (a + 1 = j) := ⟨_, Lib.hid rfl⟩
  obtain ⟨j2, hj2⟩ : ∃ j, Hid (a + 2 = j) := ⟨_, Lib.hid rfl⟩
  rw [hj1.out] at hcy
  rw [hj2.out] at hcz
  have i0 : 0 ≤ j1 := by rw [← hj1.out]; omega
  have i1 : j1 < (n : Int) := by rw [← hj1.out]; omega
  have i2 : 0 ≤ j2 := by rw [← hj2.out]; omega
  have i5 : j2 < (n : Int) := by rw [← hj2.out]; omega
  have hly : (ad.add j1.toNat).block < w.heap.size := World.block_lt_of_cell? _ _ hcy
  have hlz : (ad.add j2.toNat).block < w.heap.size := World.block_lt_of_cell? _ _ hcz
  have i3 : Hid (IntKind.i64.wrap (a + 1) = j1) := Lib.hid (by rw [i64w]; unfold wrap64; rw [← hj1.out]; omega)
  have i4 : Hid (IntKind.i64.wrap (a + 2) = j2) := Lib.hid (by rw [i64w]; unfold wrap64; rw [← hj2.out]; omega)
  have t0 : decide (a < 0) = false := decide_eq_false (by omega)
  have t1 : decide ((n : Int) ≤ a) = false := decide_eq_false (by omega)
  go_enter Tryd.func27, Tryd.ntmps27
  go_wp2_with fail
  refine (form_any _ _).mono ?_
  rintro e w' ⟨rfl, rfl⟩
  rw [hf.out]
  go_wp2_with fail
  refine (field_any _ _).mono ?_
  rintro e w' ⟨rfl, rfl⟩
  simp only [Int.reduceEq, ↓reduceIte]
  go_wp2_with fail
  refine still_tail 16 (by kernel_rfl) (by kernel_rfl) ?_
  simp only [hop.out, hA.out]
  generalize hW : World.drew _ = W
  have B1 : W.heap[w.heap.size + 1]? = some (.cells #[.int .i64 op, .int .i64 A, .int .i64 0, .int .i64 0, .int .i64 0] 42 (0, 0)) := by
    rw [← hW]; refine blk_drew ?_; simpa using blk_new (w.alloc _) _
  have B0 : W.heap[w.heap.size]? = some (.cells #[.int .i64 0, .int .i64 0, .int .i64 0, .int .i64 0, .int .i64 0] 42 (0, 0)) := by
    rw [← hW]; refine blk_drew ?_; refine blk_alloc ?_ _; exact blk_new w _
  have HB0 : Below w.heap.size w W := by
    rw [← hW]; repeat (first | with_reducible exact Below.refl _ _ | with_reducible refine below_alloc ?_ _ | with_reducible refine below_drew1 ?_)
  have hsz : W.heap.size = w.heap.size + 2 := by rw [← hW]; simp
  clear hW
  have ky : W.cell? (ad.add j1.toNat) = some (.int .u32 y1) := (HB0.cell hly).trans hcy
  have kz : W.cell? (ad.add j2.toNat) = some (.int .u32 z1) := (HB0.cell hlz).trans hcz
  clear hcy hcz
  replace i3 := i3.out
  replace i4 := i4.out
  simp only [List.take_succ_cons, List.take_zero, List.drop_succ_cons, List.drop_zero]
  repeat still_step
  refine wpStill_nil ?_
  clear i3 i4
  have k10 : W.cell? ⟨w.heap.size + 1, 0, none⟩ = some (.int .i64 op) := (blk_cell B1 0).trans rfl
  have l10 := blk_frozen B1 0
  have k11 : W.cell? ⟨w.heap.size + 1, 1, none⟩ = some (.int .i64 A) := (blk_cell B1 1).trans rfl
  have l11 := blk_frozen B1 1
  have k12 : W.cell? ⟨w.heap.size + 1, 2, none⟩ = some (.int .i64 0) := (blk_cell B1 2).trans rfl
  have l12 := blk_frozen B1 2
  have k13 : W.cell? ⟨w.heap.size + 1, 3, none⟩ = some (.int .i64 0) := (blk_cell B1 3).trans rfl
  have l13 := blk_frozen B1 3
  have k14 : W.cell? ⟨w.heap.size + 1, 4, none⟩ = some (.int .i64 0) := (blk_cell B1 4).trans rfl
  have l14 := blk_frozen B1 4
  go_wp2_with fail
  simp only [hN.out]
  have B1' := blk_put (cs' := #[.int .i64 op, .int .i64 A, .int .i64 0, .int .i64 0, .int .i64 N]) B1 4 (.int .i64 N) rfl
  have B0' := blk_far B0 (p := ⟨w.heap.size + 1, 4, none⟩) (by simp) (.int .i64 N)
  have HB1 : Below w.heap.size w (W.setCell ⟨w.heap.size + 1, 4, none⟩ (.int .i64 N)) := Below.setCell HB0 (by simp) _
  have hsz1 : (W.setCell ⟨w.heap.size + 1, 4, none⟩ (.int .i64 N)).heap.size = w.heap.size + 2 := by simpa using hsz
  clear B1 B0 HB0 hsz ky kz hly hlz k10 k11 k12 k13 k14 l10 l11 l12 l13 l14
  generalize W.setCell ⟨w.heap.size + 1, 4, none⟩ (.int .i64 N) = V at *
  refine (renc_one ⟨op, A, 0, 0, N⟩ _ ?hb0).mono ?_
  case hb0 =>
    refine C42_blk (l := [⟨op, A, 0, 0, N⟩]) ?_ (by simp)
    rw [← hsz1]
    exact blk_new V _
  rintro e w1 ⟨v0, rfl, hR, hb⟩
  have HB := Aside0.mk (below_step (below_alloc HB1 _) hb : Below w.heap.size w w1)
  have hz : w.heap.size + 2 < w1.heap.size := by have := hb.size; simp at this; omega
  have hz1 : w.heap.size + 1 < w1.heap.size := by omega
  have hz0 : w.heap.size < w1.heap.size := by omega
  have B1 := blk_below (blk_alloc B1' _) hb
  have B0 := blk_below (blk_alloc B0' _) hb
  obtain ⟨c0, f0⟩ : w1.cell? ⟨w.heap.size + 1, 0, none⟩ = some (.int .i64 op) ∧ _ := ⟨(blk_cell B1 0).trans rfl, blk_frozen B1 0⟩
  obtain ⟨c1, f1⟩ : w1.cell? ⟨w.heap.size + 1, 1, none⟩ = some (.int .i64 A) ∧ _ := ⟨(blk_cell B1 1).trans rfl, blk_frozen B1 1⟩
  obtain ⟨c2, f2⟩ : w1.cell? ⟨w.heap.size + 1, 2, none⟩ = some (.int .i64 0) ∧ _ := ⟨(blk_cell B1 2).trans rfl, blk_frozen B1 2⟩
  obtain ⟨c3, f3⟩ : w1.cell? ⟨w.heap.size + 1, 3, none⟩ = some (.int .i64 0) ∧ _ := ⟨(blk_cell B1 3).trans rfl, blk_frozen B1 3⟩
  obtain ⟨c4, f4⟩ : w1.cell? ⟨w.heap.size + 1, 4, none⟩ = some (.int .i64 N) ∧ _ := ⟨(blk_cell B1 4).trans rfl, blk_frozen B1 4⟩
  obtain ⟨d0, g0⟩ : w1.cell? ⟨w.heap.size, 0, none⟩ = some (.int .i64 0) ∧ _ := ⟨(blk_cell B0 0).trans rfl, blk_frozen B0 0⟩
  obtain ⟨d1, g1⟩ : w1.cell? ⟨w.heap.size, 1, none⟩ = some (.int .i64 0) ∧ _ := ⟨(blk_cell B0 1).trans rfl, blk_frozen B0 1⟩
  obtain ⟨d2, g2⟩ : w1.cell? ⟨w.heap.size, 2, none⟩ = some (.int .i64 0) ∧ _ := ⟨(blk_cell B0 2).trans rfl, blk_frozen B0 2⟩
  obtain ⟨d3, g3⟩ : w1.cell? ⟨w.heap.size, 3, none⟩ = some (.int .i64 0) ∧ _ := ⟨(blk_cell B0 3).trans rfl, blk_frozen B0 3⟩
  obtain ⟨d4, g4⟩ : w1.cell? ⟨w.heap.size, 4, none⟩ = some (.int .i64 0) ∧ _ := ⟨(blk_cell B0 4).trans rfl, blk_frozen B0 4⟩
  clear hb
  by_cases hv : vI ⟨op, A, 0, 0, N⟩ = true
  · rw [encL_one hv] at hR ⊢
    obtain ⟨ad1, m, c5, rfl, hm, hc⟩ := first_word hv hR
    clear hR
    obtain ⟨y, hy⟩ : ∃ y, Hid (word1 op A 0 0 N = y) := ⟨_, rfl⟩
    rw [show word1 op A 0 0 N = y from hy] at hc
    by_cases hx : y = x
    · subst hx
      go_wp2_with fail
      refine end27 (b := w.heap.size) op A 0 0 N 3 0 ?p4a ?p5a ?p6a ?pda ?q0a ?q1a ?q2a ?q3a ?q4a ⟨by rw [if_pos ⟨hv, hy.out⟩], ?bela⟩
      case p4a => rfl
      case p5a => rfl
      case p6a => rfl
      case pda => rfl
      case q0a => go_simp
      case q1a => go_simp
      case q2a => go_simp
      case q3a => go_simp
      case q4a => go_simp
      case bela => repeat (first | with_reducible exact HB.out | with_reducible refine Below.setCell ?_ (by first | omega | (simp <;> omega)) _ | with_reducible refine Below.alloc ?_ (by first | omega | (simp <;> omega)) _)
    · have x1 : (y != x) = true := bne_iff_ne.2 hx
      have x2 : (y == x) = false := beq_eq_false_iff_ne.2 hx
      go_wp2_with fail
      refine end27 (b := w.heap.size) 0 0 0 0 0 0 204 ?p4b ?p5b ?p6b ?pdb ?q0b ?q1b ?q2b ?q3b ?q4b ⟨by rw [if_neg (fun h => hx (hy.out.symm.trans h.2))]; rfl, ?belb⟩
      case p4b => rfl
      case p5b => rfl
      case p6b => rfl
      case pdb => rfl
      case q0b => go_simp
      case q1b => go_simp
      case q2b => go_simp
      case q3b => go_simp
      case q4b => go_simp
      case belb => repeat (first | with_reducible exact HB.out | with_reducible refine Below.setCell ?_ (by first | omega | (simp <;> omega)) _ | with_reducible refine Below.alloc ?_ (by first | omega | (simp <;> omega)) _)
  · rw [encL_bad hv] at hR ⊢
    clear hR
    go_wp2_with fail
    refine end27 (b := w.heap.size) 0 0 0 0 0 0 204 ?p4c ?p5c ?p6c ?pdc ?q0c ?q1c ?q2c ?q3c ?q4c ⟨by rw [if_neg (fun h => hv h.1)]; rfl, ?belc⟩
    case p4c => rfl
    case p5c => rfl
    case p6c => rfl
    case pdc => rfl
    case q0c => go_simp
    case q1c => go_simp
    case q2c => go_simp
    case q3c => go_simp
    case q4c => go_simp
    case belc => repeat (first | with_reducible exact HB.out | with_reducible refine Below.setCell ?_ (by first | omega | (simp <;> omega)) _ | with_reducible refine Below.alloc ?_ (by first | omega | (simp <;> omega)) _)
end Go.Proofs.YtcjidibdidijaaaDoor
namespace Go.Proofs.YtcjidibdidijaaaDoor
open Go.RowKit Go.Proofs.YtcjidibdidijaaaDoor.PCod Go.Proofs.YtcjidibdidijaaaDoorW.PrintWords Go.Proofs.YtcjidibdidijaaaDoorW.PrintMore
set_option linter.unusedVariables false
set_option linter.unusedSimpArgs false

theorem decS_in (l : List Int) (a : Int) (a0 : 0 ≤ a) (hs : a + sizeI (rd l a % 64) ≤ l.length) : decS l a = if vI (decI l a) = true ∧ word1 (decI l a).f0 (decI l a).f1 (decI l a).f2 (decI l a).f3 (decI l a).f4 = rd l a then ((decI l a).f0, (decI l a).f1, (decI l a).f2, (decI l a).f3, (decI l a).f4, sizeI (rd l a % 64), 0) else errD := by
  unfold decS
  by_cases c : okD l a
  · rw [if_pos c, if_pos ⟨c.2.2.1, c.2.2.2⟩]
  · rw [if_neg c, if_neg (fun h => c ⟨a0, hs, h.1, h.2⟩)]
theorem rpost_dec {w : World} {l : List Int} {a : Int} (a0 : 0 ≤ a) (hs : a + sizeI (rd l a % 64) ≤ l.length) {s : Int} (he : sizeI (rd l a % 64) = s) {e : Ending} {w' : World} (h : RPost w (rd l a) (decI l a) s e w') : e = .returned (decV (decS l a)) ∧ Below w.heap.size w w' := by
  rw [decS_in l a a0 hs, he]
  exact h
theorem rdec_any (A : Option Addr) (c : Nat) (l : List Int) (a : Int) (w : World) (hr : Kd.C (Kd.int .u32) w A l.length l) (hu : u32s l) (hl : l.length ≤ 9223372036854775800) :
    Calls Tryd.prog 27 #[.slice A l.length c, .int .i64 a] w fun e w' => e = .returned (decV (decS l a)) ∧ Below w.heap.size w w' := by
  by_cases ho : a < 0 ∨ (l.length : Int) ≤ a
  · have hs : 1 ≤ sizeI (rd l a % 64) := by unfold sizeI; split <;> omega
    rw [show decS l a = errD from if_neg (fun hk => by have := hk.1; have := hk.2.1; omega)]
    exact rdec_out A l.length c a w ho
  · have hR : ReadsInt w .u32 A l.length l := readsInt_of.2 (Kd.reads_of_C (d := (0 : Int)) hr)
    obtain ⟨ad, rfl, hcell⟩ := hR.at_ a (by omega) (by omega)
    have hx := rd_u32 hu a
    have hop := op_small _ hx
    have hA := fA_small _ hx
    have hB := fB_small _ hx
    have hC := fC_small _ hx
    have a0 : 0 ≤ a := by omega
    have a1 : a < l.length := by omega
    by_cases h0 : formOf (rd l a % 64) = 0
    · rw [show decS l a = errD from if_neg (fun hk => by have hv := (vI_val hk.2.2.1); have h1 : 1 ≤ rd l a % 64 := hv.1; have h2 : rd l a % 64 ≤ 37 := hv.2.1; have := (formOf_iff0 _).1 h0; omega)]
      exact rdec_0 ad l.length c a _ w hx.1 hx.2 hcell a0 a1 hl (Lib.hid (by rw [hop]; exact h0))
    · have hN : ∀ f, formOf (rd l a % 64) = f → f ≠ 6 → sizeI (rd l a % 64) = 1 := fun f hf h6 => if_neg (by rw [hf]; exact h6)
      rcases form_vals _ h0 with hf | hf | hf | hf | hf | hf | hf | hf
      · have hs := hN _ hf (by decide)
        refine (rdec_1 ad l.length c a _ w hx.1 hx.2 hcell a0 a1 hl (Lib.hid (by rw [hop]; exact hf)) (decI l a).f0 (decI l a).f1 (decI l a).f2 (decI l a).f3 (decI l a).f4 (Lib.hid hop) (cA_no hf (by decide)) (cB_no hf (by decide)) (cC_no hf (by decide)) (cN_no hf (by decide))).mono fun e w' h => rpost_dec a0 (by omega) hs h
      · have hs := hN _ hf (by decide)
        refine (rdec_2 ad l.length c a _ w hx.1 hx.2 hcell a0 a1 hl (Lib.hid (by rw [hop]; exact hf)) (decI l a).f0 (decI l a).f1 (decI l a).f2 (decI l a).f3 (decI l a).f4 (Lib.hid hop) (Lib.hid (hA.trans (cA_yes hf (by decide)).symm)) (cB_no hf (by decide)) (cC_no hf (by decide)) (cN_no hf (by decide))).mono fun e w' h => rpost_dec a0 (by omega) hs h
      · have hs := hN _ hf (by decide)
        refine (rdec_3 ad l.length c a _ w hx.1 hx.2 hcell a0 a1 hl (Lib.hid (by rw [hop]; exact hf)) (decI l a).f0 (decI l a).f1 (decI l a).f2 (decI l a).f3 (decI l a).f4 (Lib.hid hop) (Lib.hid (hA.trans (cA_yes hf (by decide)).symm)) (Lib.hid (hB.trans (cB_yes hf (by decide)).symm)) (cC_no hf (by decide)) (cN_no hf (by decide))).mono fun e w' h => rpost_dec a0 (by omega) hs h
      · have hs := hN _ hf (by decide)
        refine (rdec_4 ad l.length c a _ w hx.1 hx.2 hcell a0 a1 hl (Lib.hid (by rw [hop]; exact hf)) (decI l a).f0 (decI l a).f1 (decI l a).f2 (decI l a).f3 (decI l a).f4 (Lib.hid hop) (Lib.hid (hA.trans (cA_yes hf (by decide)).symm)) (Lib.hid (hB.trans (cB_yes hf (by decide)).symm)) (Lib.hid (hC.trans (cC_yes hf (by decide)).symm)) (cN_no hf (by decide))).mono fun e w' h => rpost_dec a0 (by omega) hs h
      · have hs := hN _ hf (by decide)
        have e5 : (decI l a).f4 = _ := cN_5 hf
        by_cases lo : rd l a / 512 < 4194304
        · rw [if_pos lo] at e5
          refine (rdec_5p ad l.length c a _ w hx.1 hx.2 hcell a0 a1 hl (Lib.hid (by rw [hop]; exact hf)) (decI l a).f0 (decI l a).f1 (decI l a).f2 (decI l a).f3 (decI l a).f4 (Lib.hid hop) (Lib.hid (hA.trans (cA_yes hf (by decide)).symm)) (cB_no hf (by decide)) (cC_no hf (by decide)) (Lib.hid e5.symm) lo).mono fun e w' h => rpost_dec a0 (by omega) hs h
        · rw [if_neg lo] at e5
          refine (rdec_5n ad l.length c a _ w hx.1 hx.2 hcell a0 a1 hl (Lib.hid (by rw [hop]; exact hf)) (decI l a).f0 (decI l a).f1 (decI l a).f2 (decI l a).f3 (decI l a).f4 (Lib.hid hop) (Lib.hid (hA.trans (cA_yes hf (by decide)).symm)) (cB_no hf (by decide)) (cC_no hf (by decide)) (Lib.hid e5.symm) (by omega)).mono fun e w' h => rpost_dec a0 (by omega) hs h
      · have hs : sizeI (rd l a % 64) = 3 := if_pos hf
        have e6 : (decI l a).f4 = _ := cN_6 hf
        have hy := rd_u32 hu (a + 1)
        have hz := rd_u32 hu (a + 2)
        rw [← or64_add _ _ hy.1 hy.2 hz.1 hz.2] at e6
        by_cases lo : a + 2 < l.length
        · obtain ⟨ad1, h1, hc1⟩ := hR.at_ (a + 1) (by omega) (by omega)
          obtain ⟨ad2, h2, hc2⟩ := hR.at_ (a + 2) (by omega) (by omega)
          injection h1 with h1
          injection h2 with h2
          subst h1 h2
          refine (rdec_6 ad l.length c a _ w hx.1 hx.2 hcell a0 a1 hl (Lib.hid (by rw [hop]; exact hf)) (decI l a).f0 (decI l a).f1 (decI l a).f2 (decI l a).f3 (decI l a).f4 (Lib.hid hop) (Lib.hid (hA.trans (cA_yes hf (by decide)).symm)) (cB_no hf (by decide)) (cC_no hf (by decide)) lo (rd l (a + 1)) (rd l (a + 2)) hy hz hc1 hc2 (Lib.hid e6.symm)).mono fun e w' h => rpost_dec a0 (by omega) hs h
        · rw [show decS l a = errD from if_neg (fun hk => by have := hk.2.1; omega)]
          exact rdec_6e ad l.length c a _ w hx.1 hx.2 hcell a0 a1 hl (Lib.hid (by rw [hop]; exact hf)) (by omega)
      · have hs := hN _ hf (by decide)
        have e7 : (decI l a).f4 = _ := cN_7 hf
        by_cases lo : rd l a / 4096 < 524288
        · rw [if_pos lo] at e7
          refine (rdec_7p ad l.length c a _ w hx.1 hx.2 hcell a0 a1 hl (Lib.hid (by rw [hop]; exact hf)) (decI l a).f0 (decI l a).f1 (decI l a).f2 (decI l a).f3 (decI l a).f4 (Lib.hid hop) (Lib.hid (hA.trans (cA_yes hf (by decide)).symm)) (Lib.hid (hB.trans (cB_yes hf (by decide)).symm)) (cC_no hf (by decide)) (Lib.hid e7.symm) lo).mono fun e w' h => rpost_dec a0 (by omega) hs h
        · rw [if_neg lo] at e7
          refine (rdec_7n ad l.length c a _ w hx.1 hx.2 hcell a0 a1 hl (Lib.hid (by rw [hop]; exact hf)) (decI l a).f0 (decI l a).f1 (decI l a).f2 (decI l a).f3 (decI l a).f4 (Lib.hid hop) (Lib.hid (hA.trans (cA_yes hf (by decide)).symm)) (Lib.hid (hB.trans (cB_yes hf (by decide)).symm)) (cC_no hf (by decide)) (Lib.hid e7.symm) (by omega)).mono fun e w' h => rpost_dec a0 (by omega) hs h
      · have hs := hN _ hf (by decide)
        have e8 : (decI l a).f4 = _ := cN_8 hf
        by_cases lo : rd l a / 64 < 33554432
        · rw [if_pos lo] at e8
          refine (rdec_8p ad l.length c a _ w hx.1 hx.2 hcell a0 a1 hl (Lib.hid (by rw [hop]; exact hf)) (decI l a).f0 (decI l a).f1 (decI l a).f2 (decI l a).f3 (decI l a).f4 (Lib.hid hop) (cA_no hf (by decide)) (cB_no hf (by decide)) (cC_no hf (by decide)) (Lib.hid e8.symm) lo).mono fun e w' h => rpost_dec a0 (by omega) hs h
        · rw [if_neg lo] at e8
          refine (rdec_8n ad l.length c a _ w hx.1 hx.2 hcell a0 a1 hl (Lib.hid (by rw [hop]; exact hf)) (decI l a).f0 (decI l a).f1 (decI l a).f2 (decI l a).f3 (decI l a).f4 (Lib.hid hop) (cA_no hf (by decide)) (cB_no hf (by decide)) (cC_no hf (by decide)) (Lib.hid e8.symm) (by omega)).mono fun e w' h => rpost_dec a0 (by omega) hs h
instance (l : List Int) : Decidable (u32s l) := by unfold u32s; exact inferInstance
/-- The same in the printed form. -/
def decF (l : List Int) (a : Int) : Option (Int × Int × Int × Int × Int × Int × Int) := if u32s l ∧ l.length ≤ 9223372036854775800 then some (decS l a) else none
theorem rdec_calls (A0 : Option Addr) (c0 : Nat) (l0 : List Int) (a1 r1 r2 r3 r4 r5 r6 r7 : Int) (w : World) (hr0 : Kd.C (Kd.int .u32) w A0 l0.length l0) (hc0 : l0.length ≤ c0) (h : decF l0 a1 = some (r1, r2, r3, r4, r5, r6, r7)) :
    Calls Tryd.prog 27 #[.slice A0 l0.length c0, .int .i64 a1] w fun e w' => e = .returned (.tuple #[.agg #[.int .i64 r1, .int .i64 r2, .int .i64 r3, .int .i64 r4, .int .i64 r5], .int .i64 r6, .int .i64 r7]) ∧ Below w.heap.size w w' := by
  unfold decF at h
  split at h
  · rename_i hu
    have h := Option.some.inj h
    refine (rdec_any A0 c0 l0 a1 w hr0 hu.1 hu.2).mono fun e w' ⟨he, hb⟩ => ⟨?_, hb⟩
    rw [he, h]
    rfl
  · cases h
end Go.Proofs.YtcjidibdidijaaaDoor
namespace Go.Proofs.YtcjidibdidijaaaDoor.PCod
open Go.RowKit Go.Proofs.YtcjidibdidijaaaDoor Go.Proofs.YtcjidibdidijaaaDoorW.PrintWords Go.Proofs.YtcjidibdidijaaaDoorW.PrintLast Go.Proofs.YtcjidibdidijaaaDoorW.PrintMore
set_option linter.unusedVariables false
set_option linter.unusedSimpArgs false

def fullingref29_Decode.f (k : Nat) (l : List Int) (a : Int) : Option (Int × Int × Int × Int × Int × Int × Int) := decF l a
theorem fullingref29_Decode.mono : ∀ a0 a1 k, LeO (fullingref29_Decode.f k a0 a1) (fullingref29_Decode.f (k + 1) a0 a1) := fun _ _ _ => LeO.refl _
theorem fullingref29_Decode.calls (k : Nat) (A0 : Option Addr) (c0 : Nat) (l0 : List Int) (a1 : Int) (r1 : Int) (r2 : Int) (r3 : Int) (r4 : Int) (r5 : Int) (r6 : Int) (r7 : Int) (w : World) (hr0 : Kd.C (Kd.int .u32) w A0 l0.length l0) (hc0 : l0.length ≤ c0) (h : fullingref29_Decode.f k l0 a1 = some (r1, r2, r3, r4, r5, r6, r7)) :
    Calls Tryd.prog 27 #[.slice A0 l0.length c0, .int .i64 a1] w fun e w' => e = .returned (.tuple #[.agg #[.int .i64 r1, .int .i64 r2, .int .i64 r3, .int .i64 r4, .int .i64 r5], .int .i64 r6, .int .i64 r7]) ∧ Below w.heap.size w w' :=
  rdec_calls A0 c0 l0 a1 r1 r2 r3 r4 r5 r6 r7 w hr0 hc0 h
end Go.Proofs.YtcjidibdidijaaaDoor.PCod
namespace Go.Proofs.YtcjidibdidijaaaDoor.PCod
open Go.RowKit Go.Proofs.YtcjidibdidijaaaDoorW.PrintWords Go.Proofs.YtcjidibdidijaaaDoorW.PrintLast Go.Proofs.YtcjidibdidijaaaDoorW.PrintMore
attribute [local go_sem] max2_int min2_int max_two min_two max_three min_three max_four min_four   -- for this text's walks alone
set_option linter.unusedVariables false
set_option linter.unusedSimpArgs false

/-! ### fullingref29_DecodeAll: function 42 -/
def fullingref29_DecodeAll.l0 : Nat → List Int → List (S42) → List Int → Int → Option ((List (S42)) × List Int × Int)
  | 0, _, _, _, _ => none
  | k + 1, x0, x5, x6, x7 => if x7 < (x0.length : Int) then ((fullingref29_Decode.f k x0 x7).bind fun bt285 => (if bt285.2.2.2.2.2.2 = 0 then (if x5.length < 3518437208883 then (if x6.length < 17592186044416 then (fullingref29_DecodeAll.l0 k x0 (x5 ++ [(⟨bt285.1, bt285.2.1, bt285.2.2.1, bt285.2.2.2.1, bt285.2.2.2.2.1⟩ : S42)]) (x6 ++ [x7]) (wrap64 (x7 + bt285.2.2.2.2.2.1))) else (none)) else (none)) else (some (([] : List (S42)), ([] : List Int), bt285.2.2.2.2.2.2)))) else (some (x5, x6, 0))
def fullingref29_DecodeAll.f (k : Nat) (l0 : List Int) : Option ((List (S42)) × List Int × Int) := fullingref29_DecodeAll.l0 k l0 ([] : List (S42)) ([] : List Int) 0
theorem fullingref29_DecodeAll.mono_l : ∀ k, (∀ y0 y1 y2 y3, LeO (fullingref29_DecodeAll.l0 k y0 y1 y2 y3) (fullingref29_DecodeAll.l0 (k + 1) y0 y1 y2 y3))
  | 0 => fun _ _ _ _ r h => by simp [fullingref29_DecodeAll.l0] at h
  | k + 1 => by
    have ih0 := fullingref29_DecodeAll.mono_l k
    · intro y0 y1 y2 y3
      unfold fullingref29_DecodeAll.l0
      repeat' first
      | (with_reducible exact ih0 _ _ _ _)
      | (with_reducible exact fullingref29_Decode.mono _ _ _)
      | (with_reducible exact LeO.refl _)
      | (with_reducible exact LeO.none _)
      | (with_reducible refine LeO.ite ?_ ?_)
      | (with_reducible refine LeO.bind ?_ (fun _ => ?_))
      | exact ih0 _ _ _ _
      | exact fullingref29_Decode.mono _ _ _
      | exact LeO.none _
      | refine LeO.ite ?_ ?_
      | refine LeO.bind ?_ (fun _ => ?_)
theorem fullingref29_DecodeAll.mono : ∀ a0 k, LeO (fullingref29_DecodeAll.f k a0) (fullingref29_DecodeAll.f (k + 1) a0) := by
  intro a0 k
  have ih0 := fullingref29_DecodeAll.mono_l k
  unfold fullingref29_DecodeAll.f
  repeat' first
      | (with_reducible exact ih0 _ _ _ _)
      | (with_reducible exact fullingref29_Decode.mono _ _ _)
      | (with_reducible exact LeO.refl _)
      | (with_reducible exact LeO.none _)
      | (with_reducible refine LeO.ite ?_ ?_)
      | (with_reducible refine LeO.bind ?_ (fun _ => ?_))
      | exact ih0 _ _ _ _
      | exact fullingref29_Decode.mono _ _ _
      | exact LeO.none _
      | refine LeO.ite ?_ ?_
      | refine LeO.bind ?_ (fun _ => ?_)
set_option maxHeartbeats 8000000 in
set_option maxRecDepth 100000 in
theorem fullingref29_DecodeAll.calls (k : Nat) (A0 : Option Addr) (c0 : Nat) (l0 : List Int) (r1 : List (S42)) (r2 : List Int) (r3 : Int) (w : World) (hr0 : Kd.C (Kd.int .u32) w A0 l0.length l0) (hc0 : l0.length ≤ c0) (h : fullingref29_DecodeAll.f k l0 = some (r1, r2, r3)) :
    Calls Tryd.prog 42 #[.slice A0 l0.length c0] w fun e w' => ∃ v0_ v1_ : Value, e = .returned (.tuple #[v0_, v1_, .int .i64 r3]) ∧ Kd.R k42 42 w' w.heap.size (fun _ => True) v0_ r1 ∧ Kd.R (Kd.int .i64) 3 w' w.heap.size (fun _ => True) v1_ r2 ∧ Below w.heap.size w w' := by
  have hu42 := Tryd.underlying42
  have HR0 := Aside0.mk hr0
  have HC0 := Aside0.mk hc0
  clear hr0 hc0
  have HB := Aside0.mk (Below.refl w.heap.size w)
  have H : (fullingref29_DecodeAll.l0 k l0 ([] : List (S42)) ([] : List Int) 0) = some (r1, r2, r3) := h
  clear h
  have H' := Aside0.mk H
  clear H
  go_enter Tryd.func42, Tryd.ntmps42
  go_wp2
  go_loopg [5, 6, 7] k (fun kq v5 v6 v7 w' => ∃ (x5_1 : List (S42)) (x6_1 : List Int) (x7_1 : Int), v7 = .int .i64 x7_1 ∧ Aside0 (fullingref29_DecodeAll.l0 kq l0 x5_1 x6_1 x7_1 = some (r1, r2, r3)) ∧ Aside0 (kq ≤ k) ∧ Aside0 (Kd.R k42 42 w' w.heap.size (fun _ => True) v5 x5_1) ∧ Aside0 (Kd.R (Kd.int .i64) 3 w' w.heap.size (fun _ => True) v6 x6_1) ∧ Aside0 (Below w.heap.size w w'))
  case atStart => exact ⟨(([] : List (S42))), (([] : List Int)), (0), (by first | rfl | (simp; done) | (simp [*]; done)), H', ⟨Nat.le_refl _⟩, ⟨by first | exact Kd.R_nil _ _ _ _ _ | exact Kd.N_nil _ _ _ _ _ | exact Kd.V_nil _ _ _ _ _ | exact Kd.Q_nil _ _ _ _ _ | exact Kd.S_nil _ _ _ _ _⟩, ⟨by first | exact Kd.R_nil _ _ _ _ _ | exact Kd.N_nil _ _ _ _ _ | exact Kd.V_nil _ _ _ _ _ | exact Kd.Q_nil _ _ _ _ _ | exact Kd.S_nil _ _ _ _ _⟩, ⟨by repeat (first | (with_reducible first | exact HB.out | apply below_alloc | apply pw_below_drewN | apply below_drew1) | exact HB.out)⟩⟩
  case round =>
    clear H'
    obtain ⟨x5_1, x6_1, x7_1, rfl, HA, HK1, HO_5, HO_6, HB⟩ := hrel
    cases gk with
    | zero => exact absurd HA.out (by simp [fullingref29_DecodeAll.l0])
    | succ k1 =>
      have H := HA.out
      clear HA
      simp only [fullingref29_DecodeAll.l0] at H
      by_cases c2 : x7_1 < (l0.length : Int)
      · rw [if_pos c2] at H
        have c2b0 : decide (x7_1 < (l0.length : Int)) = true := decide_eq_true c2
        clear c2
        replace H := Option.bind_eq_some_iff.mp H
        obtain ⟨⟨t285, t286, t287, t288, t289, t290, t291⟩, A30, H⟩ := H
        replace H : (if t291 = 0 then (if x5_1.length < 3518437208883 then (if x6_1.length < 17592186044416 then (fullingref29_DecodeAll.l0 k1 l0 (x5_1 ++ [(⟨t285, t286, t287, t288, t289⟩ : S42)]) (x6_1 ++ [x7_1]) (wrap64 (x7_1 + t290))) else (none)) else (none)) else (some (([] : List (S42)), ([] : List Int), t291))) = some (r1, r2, r3) := H
        have A3 := Aside0.mk A30
        clear A30
        by_cases c4 : t291 = 0
        · rw [if_pos c4] at H
          have c4b0 : (t291 == 0) = true := beq_iff_eq.mpr c4
          have c4b1 : (t291 != 0) = false := bne_eq_false_iff_eq.mpr c4
          clear c4
          by_cases c5 : x5_1.length < 3518437208883
          · rw [if_pos c5] at H
            have LMc5 := Aside0.mk c5
            clear c5
            obtain ⟨y293, hy293⟩ : ∃ y_ : List (S42), y_ = (x5_1 ++ [(⟨t285, t286, t287, t288, t289⟩ : S42)]) := ⟨_, rfl⟩
            replace H : (if x6_1.length < 17592186044416 then (fullingref29_DecodeAll.l0 k1 l0 y293 (x6_1 ++ [x7_1]) (wrap64 (x7_1 + t290))) else (none)) = some (r1, r2, r3) := by first | (rw [hy293]; with_reducible exact H) | (have H2_ := (Option.bind_some _ _).symm.trans H; rw [hy293]; with_reducible exact H2_) | (have H2_ := (Option.bind_some _ _).symm.trans H; with_reducible exact H2_) | with_reducible exact H | (rw [hy293]; exact H) | exact H
            have Ny293 := Aside0.mk hy293
            clear hy293
            by_cases c6 : x6_1.length < 17592186044416
            · rw [if_pos c6] at H
              have LMc6 := Aside0.mk c6
              clear c6
              obtain ⟨y296, hy296⟩ : ∃ y_ : List Int, y_ = (x6_1 ++ [x7_1]) := ⟨_, rfl⟩
              replace H : (fullingref29_DecodeAll.l0 k1 l0 y293 y296 (wrap64 (x7_1 + t290))) = some (r1, r2, r3) := by first | (rw [hy296]; with_reducible exact H) | (have H2_ := (Option.bind_some _ _).symm.trans H; rw [hy296]; with_reducible exact H2_) | (have H2_ := (Option.bind_some _ _).symm.trans H; with_reducible exact H2_) | with_reducible exact H | (rw [hy296]; exact H) | exact H
              have Ny296 := Aside0.mk hy296
              clear hy296
              have H' := Aside0.mk H
              clear H
              go_wp2_with (first | ((with_reducible refine gate_callee (f := 27) rfl ?_); refine goesL_ (some 18) rfl rfl Tryd.func27 (by kernel_rfl) rfl #[.slice A0 l0.length c0, .int .i64 x7_1] rfl (by (try simp only [List.map_toArray, List.map_cons, List.map_nil]); first | done | rfl | (simp only [List.length_drop, List.length_take]; rfl)) ?_; (with_reducible refine (fullingref29_Decode.calls k1 _ _ l0 x7_1 t285 t286 t287 t288 t289 t290 t291 _ ?side1 ?side2 A3.out).mono ?_); (case side1 => repeat (first | exact (Kd.C_below HR0.out HB.out) | (with_reducible refine Kd.C_alloc ?_ _) | (with_reducible refine Kd.C_drewN ?_ _) | (with_reducible refine Kd.C_drew ?_))); (case side2 => exact HC0.out); rintro e w7 ⟨rfl, hb⟩; refine ⟨_, rfl, ?_⟩; have n0_ := Aside0.mk (Kd.R_below (by (with_reducible repeat (first | apply Kd.R_alloc | apply Kd.R_drewN | apply Kd.R_drew)); exact HO_5.out) hb); have n1_ := Aside0.mk (Kd.R_below (by (with_reducible repeat (first | apply Kd.R_alloc | apply Kd.R_drewN | apply Kd.R_drew)); exact HO_6.out) hb); have n2_ := Aside0.mk (below_step (by repeat (first | (with_reducible first | exact HB.out | apply below_alloc | apply pw_below_drewN | apply below_drew1) | exact HB.out)) hb); clear HO_5; clear HO_6; clear HB; have HO_5 := n0_; have HO_6 := n1_; have HB := n2_; clear n0_ n1_ n2_; (try clear hb); (try clear hb2); (try clear hk); (try clear hi)) | ((with_reducible refine gate_dst (N := 8) rfl ?_); refine box_event ?hg (N := 8) ?hd (cs := #[.int .i64 0, .int .i64 0, .int .i64 0, .int .i64 0, .int .i64 0]) (t := 42) ?hr ?_; (case hd => rfl); (case hg => rfl); (case hr => first | (go_simp; done) | (go_simp; rfl)); intro gb292 hg w8 hbox hb; have n0_ := Aside0.mk (Kd.R_below (Kd.R_elderB (by (with_reducible repeat (first | apply Kd.R_alloc | apply Kd.R_drewN | apply Kd.R_drew)); exact HO_5.out) gb292 (Nat.le_of_eq hg.symm)) hb); have n1_ := Aside0.mk (Kd.R_below (by (with_reducible repeat (first | apply Kd.R_alloc | apply Kd.R_drewN | apply Kd.R_drew)); exact HO_6.out) hb); have n2_ := Aside0.mk (below_step (by repeat (first | (with_reducible first | exact HB.out | apply below_alloc | apply pw_below_drewN | apply below_drew1) | exact HB.out)) hb); have n3_ := Aside0.mk (hbox); have n4_ := Aside0.mk ((by rw [hg]; exact (below_size (by repeat (first | (with_reducible first | exact HB.out | apply below_alloc | apply pw_below_drewN | apply below_drew1) | exact HB.out))) : w.heap.size ≤ gb292)); have n5_ := Aside0.mk ((by rw [hg]; exact (below_size (by repeat (first | (with_reducible first | exact HB.out | apply below_alloc | apply pw_below_drewN | apply below_drew1) | exact HB.out))) : w.heap.size ≤ gb292)); clear HO_5; clear HO_6; clear HB; have HO_5 := n0_; have HO_6 := n1_; have HB := n2_; have BK292 := n3_; have GW292 := n4_; have GE292 := n5_; clear n0_ n1_ n2_ n3_ n4_ n5_; clear hb hbox hg; have hcz9_0 : w8.cell? ⟨gb292, 0, none⟩ = some (.int .i64 0) := (blk_cell BK292.out 0).trans rfl; have hcz9_1 : w8.cell? ⟨gb292, 1, none⟩ = some (.int .i64 0) := (blk_cell BK292.out 1).trans rfl; have hcz9_2 : w8.cell? ⟨gb292, 2, none⟩ = some (.int .i64 0) := (blk_cell BK292.out 2).trans rfl; have hcz9_3 : w8.cell? ⟨gb292, 3, none⟩ = some (.int .i64 0) := (blk_cell BK292.out 3).trans rfl; have hcz9_4 : w8.cell? ⟨gb292, 4, none⟩ = some (.int .i64 0) := (blk_cell BK292.out 4).trans rfl; have hfz9_0 := blk_frozen BK292.out 0; have hfz9_1 := blk_frozen BK292.out 1; have hfz9_2 := blk_frozen BK292.out 2; have hfz9_3 := blk_frozen BK292.out 3; have hfz9_4 := blk_frozen BK292.out 4) | ((with_reducible refine gate_builtin (b := .append) (xs := #[.tmp 25, .tmp 27]) rfl ?_); at_builtin; refine Kd.R_append k42 (w0 := w) w.heap.size rfl (.tmp 25) (.tmp 27) 55 42 (.agg #[(.int .i64 0), (.int .i64 0), (.int .i64 0), (.int .i64 0), (.int .i64 0)]) 40 rfl Tryd.underlying55 info42 rfl (by decide) (by omega) u5 x5_1 (⟨t285, t286, t287, t288, t289⟩ : S42) [.int .i64 t285, .int .i64 t286, .int .i64 t287, .int .i64 t288, .int .i64 t289] (fun k_ => k_ ≠ gb292) (fun _ => False) rfl (by first | (go_simp; done) | (go_simp; rfl)) ?aP (fun _ hk => hk.elim) ?aF ?aO ?aB ?aS ?aL ?_; (case aP => exact k42_mkM _ _ _ (⟨t285, t286, t287, t288, t289⟩ : S42)); (case aB => exact (by repeat (first | (with_reducible first | exact HB.out | apply below_alloc | apply pw_below_drewN | apply below_drew1 | refine below_set ?_ GE292.out) | exact HB.out))); (case aF => exact (fun k_ hk => Kd.freshB (g := gb292) (o := .cells #[.int .i64 t285, .int .i64 t286, .int .i64 t287, .int .i64 t288, .int .i64 t289] 42 (0, 0)) (by (with_reducible repeat (first | refine blk_drewN ?_ _ | refine blk_drew ?_ | refine blk_alloc ?_ _)); refine blk_put (cs := #[.int .i64 t285, .int .i64 t286, .int .i64 t287, .int .i64 t288, .int .i64 0]) ?_ 4 _ rfl; (with_reducible repeat (first | refine blk_drewN ?_ _ | refine blk_drew ?_ | refine blk_alloc ?_ _)); refine blk_put (cs := #[.int .i64 t285, .int .i64 t286, .int .i64 t287, .int .i64 0, .int .i64 0]) ?_ 3 _ rfl; (with_reducible repeat (first | refine blk_drewN ?_ _ | refine blk_drew ?_ | refine blk_alloc ?_ _)); refine blk_put (cs := #[.int .i64 t285, .int .i64 t286, .int .i64 0, .int .i64 0, .int .i64 0]) ?_ 2 _ rfl; (with_reducible repeat (first | refine blk_drewN ?_ _ | refine blk_drew ?_ | refine blk_alloc ?_ _)); refine blk_put (cs := #[.int .i64 t285, .int .i64 0, .int .i64 0, .int .i64 0, .int .i64 0]) ?_ 1 _ rfl; (with_reducible repeat (first | refine blk_drewN ?_ _ | refine blk_drew ?_ | refine blk_alloc ?_ _)); refine blk_put (cs := #[.int .i64 0, .int .i64 0, .int .i64 0, .int .i64 0, .int .i64 0]) ?_ 0 _ rfl; (with_reducible repeat (first | refine blk_drewN ?_ _ | refine blk_drew ?_ | refine blk_alloc ?_ _)); exact BK292.out) k_ hk)); (case aO => exact (by (with_reducible repeat (first | apply Kd.R_alloc | apply Kd.R_drewN | apply Kd.R_drew)); exact Kd.R_mono (Kd.R_far (p := ⟨gb292, 4, none⟩) (Kd.R_far (p := ⟨gb292, 3, none⟩) (Kd.R_far (p := ⟨gb292, 2, none⟩) (Kd.R_far (p := ⟨gb292, 1, none⟩) (Kd.R_far (p := ⟨gb292, 0, none⟩) (Kd.R_mono HO_5.out (fun k_ hk => (⟨hk, hk.2⟩ : _ ∧ k_ ≠ gb292))) (fun _ hk => hk.2) (.int .i64 t285)) (fun _ hk => hk.2) (.int .i64 t286)) (fun _ hk => hk.2) (.int .i64 t287)) (fun _ hk => hk.2) (.int .i64 t288)) (fun _ hk => hk.2) (.int .i64 t289)) (fun _ hk => hk.1.2))); (case aS => exact (below_size (by repeat (first | (with_reducible first | exact HB.out | apply below_alloc | apply pw_below_drewN | apply below_drew1 | refine below_set ?_ GE292.out) | exact HB.out)))); (case aL => have := LMc5.out; omega); intro v294 w10 ho hb hg hat; rw [← Ny293.out] at ho; have n0_ := Aside0.mk (Kd.R_over' (by (with_reducible repeat (first | apply Kd.R_alloc | apply Kd.R_drewN | apply Kd.R_drew)); exact (Kd.R_mono (Kd.R_far (p := ⟨gb292, 4, none⟩) (Kd.R_far (p := ⟨gb292, 3, none⟩) (Kd.R_far (p := ⟨gb292, 2, none⟩) (Kd.R_far (p := ⟨gb292, 1, none⟩) (Kd.R_far (p := ⟨gb292, 0, none⟩) (Kd.R_types HO_6.out BK292.out (by decide)) (fun _ hk => hk.2) (.int .i64 t285)) (fun _ hk => hk.2) (.int .i64 t286)) (fun _ hk => hk.2) (.int .i64 t287)) (fun _ hk => hk.2) (.int .i64 t288)) (fun _ hk => hk.2) (.int .i64 t289)) (fun _ h_ => h_.1))) (Kd.R_typed (by (with_reducible repeat (first | apply Kd.R_alloc | apply Kd.R_drewN | apply Kd.R_drew)); exact (Kd.R_mono (Kd.R_far (p := ⟨gb292, 4, none⟩) (Kd.R_far (p := ⟨gb292, 3, none⟩) (Kd.R_far (p := ⟨gb292, 2, none⟩) (Kd.R_far (p := ⟨gb292, 1, none⟩) (Kd.R_far (p := ⟨gb292, 0, none⟩) (Kd.R_mono HO_5.out (fun k_ hk => (⟨hk, hk.2⟩ : _ ∧ k_ ≠ gb292))) (fun _ hk => hk.2) (.int .i64 t285)) (fun _ hk => hk.2) (.int .i64 t286)) (fun _ hk => hk.2) (.int .i64 t287)) (fun _ hk => hk.2) (.int .i64 t288)) (fun _ hk => hk.2) (.int .i64 t289)) (fun _ h_ => h_.1)))) (by decide) hg); have n1_ := Aside0.mk (blk_grown (g := gb292) (o := .cells #[.int .i64 t285, .int .i64 t286, .int .i64 t287, .int .i64 t288, .int .i64 t289] 42 (0, 0)) (by (with_reducible repeat (first | refine blk_drewN ?_ _ | refine blk_drew ?_ | refine blk_alloc ?_ _)); refine blk_put (cs := #[.int .i64 t285, .int .i64 t286, .int .i64 t287, .int .i64 t288, .int .i64 0]) ?_ 4 _ rfl; (with_reducible repeat (first | refine blk_drewN ?_ _ | refine blk_drew ?_ | refine blk_alloc ?_ _)); refine blk_put (cs := #[.int .i64 t285, .int .i64 t286, .int .i64 t287, .int .i64 0, .int .i64 0]) ?_ 3 _ rfl; (with_reducible repeat (first | refine blk_drewN ?_ _ | refine blk_drew ?_ | refine blk_alloc ?_ _)); refine blk_put (cs := #[.int .i64 t285, .int .i64 t286, .int .i64 0, .int .i64 0, .int .i64 0]) ?_ 2 _ rfl; (with_reducible repeat (first | refine blk_drewN ?_ _ | refine blk_drew ?_ | refine blk_alloc ?_ _)); refine blk_put (cs := #[.int .i64 t285, .int .i64 0, .int .i64 0, .int .i64 0, .int .i64 0]) ?_ 1 _ rfl; (with_reducible repeat (first | refine blk_drewN ?_ _ | refine blk_drew ?_ | refine blk_alloc ?_ _)); refine blk_put (cs := #[.int .i64 0, .int .i64 0, .int .i64 0, .int .i64 0, .int .i64 0]) ?_ 0 _ rfl; (with_reducible repeat (first | refine blk_drewN ?_ _ | refine blk_drew ?_ | refine blk_alloc ?_ _)); exact BK292.out) hg (Kd.R_away HO_5.out (fun _ hk => hk.2))); have n2_ := Aside0.mk (hb); have n3_ := Aside0.mk (ho); clear HO_6; clear BK292; clear HB; clear HO_5; have HO_6 := n0_; have BK292 := n1_; have HB := n2_; have HO295 := n3_; clear n0_ n1_ n2_ n3_; clear ho hb hg hat) | ((with_reducible refine gate_builtin (b := .append) (xs := #[.tmp 29, .tmp 31]) rfl ?_); at_builtin; refine Kd.R_append (Kd.int .i64) (w0 := w) w.heap.size rfl (.tmp 29) (.tmp 31) 22 3 (.int .i64 0) 8 rfl Tryd.underlying22 info3 rfl (by decide) (by omega) u6 x6_1 x7_1 [.int .i64 x7_1] (fun _ => True) (fun _ => False) rfl rfl ?aP (fun _ hk => hk.elim) ?aF ?aO ?aB ?aS ?aL ?_; (case aP => exact rfl); (case aB => exact (by repeat (first | (with_reducible first | exact HB.out | apply below_alloc | apply pw_below_drewN | apply below_drew1 | refine below_set ?_ GE292.out) | exact HB.out))); (case aF => exact (fun _ _ => trivial)); (case aO => exact (by (with_reducible repeat (first | apply Kd.R_alloc | apply Kd.R_drewN | apply Kd.R_drew)); exact HO_6.out)); (case aS => exact (below_size (by repeat (first | (with_reducible first | exact HB.out | apply below_alloc | apply pw_below_drewN | apply below_drew1 | refine below_set ?_ GE292.out) | exact HB.out)))); (case aL => have := LMc6.out; omega); intro v297 w11 ho hb hg hat; rw [← Ny296.out] at ho; have n0_ := Aside0.mk (blk_grown (g := gb292) (o := .cells #[.int .i64 t285, .int .i64 t286, .int .i64 t287, .int .i64 t288, .int .i64 t289] 42 (0, 0)) (by (with_reducible repeat (first | refine blk_drewN ?_ _ | refine blk_drew ?_ | refine blk_alloc ?_ _)); exact BK292.out) hg (Kd.R_ne HO_6.out BK292.out (by decide))); have n1_ := Aside0.mk (Kd.R_over' (by (with_reducible repeat (first | apply Kd.R_alloc | apply Kd.R_drewN | apply Kd.R_drew)); exact HO295.out) (Kd.R_typed (by (with_reducible repeat (first | apply Kd.R_alloc | apply Kd.R_drewN | apply Kd.R_drew)); exact HO_6.out)) (by decide) hg); have n2_ := Aside0.mk (hb); have n3_ := Aside0.mk (ho); clear BK292; clear HO295; clear HB; clear HO_6; have BK292 := n0_; have HO295 := n1_; have HB := n2_; have HO298 := n3_; clear n0_ n1_ n2_ n3_; clear ho hb hg hat))
              go_roundg k1
              case measure => have := HK1.out; omega
              case rel => exact ⟨(y293), (y296), (wrap64 (x7_1 + t290)), (by first | rfl | (simp; done) | (simp [*]; done)), H', ⟨by have := HK1.out; omega⟩, ⟨by (with_reducible repeat (first | apply Kd.R_alloc | apply Kd.R_drewN | apply Kd.R_drew)); exact Kd.R_mono HO295.out (fun _ hk => trivial)⟩, ⟨by (with_reducible repeat (first | apply Kd.R_alloc | apply Kd.R_drewN | apply Kd.R_drew)); exact HO298.out⟩, ⟨by repeat (first | (with_reducible first | exact HB.out | apply below_alloc | apply pw_below_drewN | apply below_drew1 | refine below_set ?_ GE292.out) | exact HB.out)⟩⟩
            · rw [if_neg c6] at H
              exact absurd H (by simp)
          · rw [if_neg c5] at H
            exact absurd H (by simp)
        · rw [if_neg c4] at H
          have c4b0 : (t291 == 0) = false := beq_eq_false_iff_ne.mpr c4
          have c4b1 : (t291 != 0) = true := bne_iff_ne.mpr c4
          simp only [Option.some.injEq, Prod.mk.injEq] at H
          obtain ⟨rfl, rfl, rfl⟩ := H
          go_wp2_with (first | ((with_reducible refine gate_callee (f := 27) rfl ?_); refine goesL_ (some 18) rfl rfl Tryd.func27 (by kernel_rfl) rfl #[.slice A0 l0.length c0, .int .i64 x7_1] rfl (by (try simp only [List.map_toArray, List.map_cons, List.map_nil]); first | done | rfl | (simp only [List.length_drop, List.length_take]; rfl)) ?_; (with_reducible refine (fullingref29_Decode.calls k1 _ _ l0 x7_1 t285 t286 t287 t288 t289 t290 t291 _ ?side1 ?side2 A3.out).mono ?_); (case side1 => repeat (first | exact (Kd.C_below HR0.out HB.out) | (with_reducible refine Kd.C_alloc ?_ _) | (with_reducible refine Kd.C_drewN ?_ _) | (with_reducible refine Kd.C_drew ?_))); (case side2 => exact HC0.out); rintro e w12 ⟨rfl, hb⟩; refine ⟨_, rfl, ?_⟩; have n0_ := Aside0.mk (Kd.R_below (by (with_reducible repeat (first | apply Kd.R_alloc | apply Kd.R_drewN | apply Kd.R_drew)); exact HO_5.out) hb); have n1_ := Aside0.mk (Kd.R_below (by (with_reducible repeat (first | apply Kd.R_alloc | apply Kd.R_drewN | apply Kd.R_drew)); exact HO_6.out) hb); have n2_ := Aside0.mk (below_step (by repeat (first | (with_reducible first | exact HB.out | apply below_alloc | apply pw_below_drewN | apply below_drew1) | exact HB.out)) hb); clear HO_5; clear HO_6; clear HB; have HO_5 := n0_; have HO_6 := n1_; have HB := n2_; clear n0_ n1_ n2_; (try clear hb); (try clear hb2); (try clear hk); (try clear hi)) | ((with_reducible refine gate_dst (N := 8) rfl ?_); refine box_event ?hg (N := 8) ?hd (cs := #[.int .i64 0, .int .i64 0, .int .i64 0, .int .i64 0, .int .i64 0]) (t := 42) ?hr ?_; (case hd => rfl); (case hg => rfl); (case hr => first | (go_simp; done) | (go_simp; rfl)); intro gb292 hg w13 hbox hb; have n0_ := Aside0.mk (Kd.R_below (Kd.R_elderB (by (with_reducible repeat (first | apply Kd.R_alloc | apply Kd.R_drewN | apply Kd.R_drew)); exact HO_5.out) gb292 (Nat.le_of_eq hg.symm)) hb); have n1_ := Aside0.mk (Kd.R_below (by (with_reducible repeat (first | apply Kd.R_alloc | apply Kd.R_drewN | apply Kd.R_drew)); exact HO_6.out) hb); have n2_ := Aside0.mk (below_step (by repeat (first | (with_reducible first | exact HB.out | apply below_alloc | apply pw_below_drewN | apply below_drew1) | exact HB.out)) hb); have n3_ := Aside0.mk (hbox); have n4_ := Aside0.mk ((by rw [hg]; exact (below_size (by repeat (first | (with_reducible first | exact HB.out | apply below_alloc | apply pw_below_drewN | apply below_drew1) | exact HB.out))) : w.heap.size ≤ gb292)); have n5_ := Aside0.mk ((by rw [hg]; exact (below_size (by repeat (first | (with_reducible first | exact HB.out | apply below_alloc | apply pw_below_drewN | apply below_drew1) | exact HB.out))) : w.heap.size ≤ gb292)); clear HO_5; clear HO_6; clear HB; have HO_5 := n0_; have HO_6 := n1_; have HB := n2_; have BK292 := n3_; have GW292 := n4_; have GE292 := n5_; clear n0_ n1_ n2_ n3_ n4_ n5_; clear hb hbox hg; have hcz14_0 : w13.cell? ⟨gb292, 0, none⟩ = some (.int .i64 0) := (blk_cell BK292.out 0).trans rfl; have hcz14_1 : w13.cell? ⟨gb292, 1, none⟩ = some (.int .i64 0) := (blk_cell BK292.out 1).trans rfl; have hcz14_2 : w13.cell? ⟨gb292, 2, none⟩ = some (.int .i64 0) := (blk_cell BK292.out 2).trans rfl; have hcz14_3 : w13.cell? ⟨gb292, 3, none⟩ = some (.int .i64 0) := (blk_cell BK292.out 3).trans rfl; have hcz14_4 : w13.cell? ⟨gb292, 4, none⟩ = some (.int .i64 0) := (blk_cell BK292.out 4).trans rfl; have hfz14_0 := blk_frozen BK292.out 0; have hfz14_1 := blk_frozen BK292.out 1; have hfz14_2 := blk_frozen BK292.out 2; have hfz14_3 := blk_frozen BK292.out 3; have hfz14_4 := blk_frozen BK292.out 4))
          go_ret3
          exact ⟨_, _, by first | rfl | (simp [errW_none, errW_some] <;> rfl) | (simp [*, errW_none, errW_some] <;> rfl), by first | exact Kd.R_nil _ _ _ _ _ | exact Kd.N_nil _ _ _ _ _ | exact Kd.V_nil _ _ _ _ _ | exact Kd.Q_nil _ _ _ _ _ | exact Kd.S_nil _ _ _ _ _, by first | exact Kd.R_nil _ _ _ _ _ | exact Kd.N_nil _ _ _ _ _ | exact Kd.V_nil _ _ _ _ _ | exact Kd.Q_nil _ _ _ _ _ | exact Kd.S_nil _ _ _ _ _, by repeat (first | (with_reducible first | exact HB.out | apply below_alloc | apply pw_below_drewN | apply below_drew1 | refine below_set ?_ GE292.out) | exact HB.out)⟩
      · rw [if_neg c2] at H
        have c2b0 : decide (x7_1 < (l0.length : Int)) = false := decide_eq_false c2
        clear c2
        simp only [Option.some.injEq, Prod.mk.injEq] at H
        obtain ⟨rfl, rfl, rfl⟩ := H
        go_wp2
        go_ret3
        exact ⟨_, _, by first | rfl | (simp [errW_none, errW_some] <;> rfl) | (simp [*, errW_none, errW_some] <;> rfl), by (with_reducible repeat (first | apply Kd.R_alloc | apply Kd.R_drewN | apply Kd.R_drew)); exact HO_5.out, by (with_reducible repeat (first | apply Kd.R_alloc | apply Kd.R_drewN | apply Kd.R_drew)); exact HO_6.out, by repeat (first | (with_reducible first | exact HB.out | apply below_alloc | apply pw_below_drewN | apply below_drew1) | exact HB.out)⟩
end Go.Proofs.YtcjidibdidijaaaDoor.PCod
namespace Go.Proofs.YtcjidibdidijaaaDoor
open Go.RowKit Go.Proofs.YtcjidibdidijaaaDoor.PCod Go.Proofs.YtcjidibdidijaaaDoorW.PrintWords Go.Proofs.YtcjidibdidijaaaDoorW.PrintMore
set_option linter.unusedVariables false
set_option linter.unusedSimpArgs false

theorem rdec_ev (w : List Int) (hw : u32s w) (hl : w.length ≤ 9223372036854775800) (a : Int) : Ev (fun k => fullingref29_Decode.f k w a) (decS w a) :=
  Ev.congr (fun k => if_pos ⟨hw, hl⟩) (Ev.now _)
theorem rdall_loop (w : List Int) (hw : u32s w) (hl : w.length < 3518437208883) : ∀ (n a : Nat) (is : List S42) (ps : List Int), a ≤ w.length → w.length - a < n → is.length ≤ a → ps.length ≤ a →
    Ev (fun k => fullingref29_DecodeAll.l0 k w is ps (a : Int)) (match decA w n a with | none => ([], [], 204) | some l => (is ++ l, ps ++ starts a l, 0))
  | 0, a, is, ps, ha, hn, hi, hp => by omega
  | n + 1, a, is, ps, ha, hn, hi, hp => by
    rw [decA]
    by_cases hlt : a < w.length
    · rw [if_pos hlt]
      refine Ev.step (f := fun k => (fullingref29_Decode.f k w (a : Int)).bind fun bt175 => (if bt175.2.2.2.2.2.2 = 0 then (if is.length < 3518437208883 then (if ps.length < 17592186044416 then (fullingref29_DecodeAll.l0 k w (is ++ [(⟨bt175.1, bt175.2.1, bt175.2.2.1, bt175.2.2.2.1, bt175.2.2.2.2.1⟩ : S42)]) (ps ++ [(a : Int)]) (wrap64 ((a : Int) + bt175.2.2.2.2.2.1))) else (none)) else (none)) else (some (([] : List (S42)), ([] : List Int), bt175.2.2.2.2.2.2)))) (fun k => ?_) ?_
      · rw [fullingref29_DecodeAll.l0, if_pos (by omega)]
      · refine Ev.bind (rdec_ev w hw (by omega) a) ?_
        by_cases hk : okD w a
        · obtain ⟨hv, hs, _, hd⟩ := ok_words w hw a hk
          have hle := hk.2.1
          have h3 := wI_len3 hv
          have ih := rdall_loop w hw hl n (a + (wI (decI w a)).length) (is ++ [decI w a]) (ps ++ [(a : Int)]) (by omega) (by omega) (by simp; omega) (by simp; omega)
          have e : decS w a = ((decI w a).f0, (decI w a).f1, (decI w a).f2, (decI w a).f3, (decI w a).f4, sizeI (rd w a % 64), 0) := if_pos hk
          rw [e, if_pos hk]
          simp only [if_true]
          rw [hs]
          refine Ev.congr (fun k => ?_) (f := fun k => fullingref29_DecodeAll.l0 k w (is ++ [decI w a]) (ps ++ [(a : Int)]) ((a + (wI (decI w a)).length : Nat) : Int)) ?_
          · rw [if_pos (by omega), if_pos (by omega), show wrap64 ((a : Int) + ((wI (decI w a)).length : Int)) = ((a + (wI (decI w a)).length : Nat) : Int) by unfold wrap64; omega]
          · cases hm : decA w n (a + (wI (decI w a)).length) with
            | none =>
              rw [hm] at ih
              exact ih
            | some l =>
              rw [hm] at ih
              simp only [Option.map_some, starts]
              simp only [List.append_assoc, List.cons_append, List.nil_append] at ih
              exact ih
        · rw [if_neg hk, show decS w a = errD from if_neg hk]
          refine Ev.congr (fun k => ?_) (Ev.now _)
          exact (if_neg (show ¬ errD.2.2.2.2.2.2 = 0 by decide)).trans rfl
    · rw [if_neg hlt]
      refine Ev.step (f := fun _ => some (is, ps, 0)) (fun k => ?_) ?_
      · rw [fullingref29_DecodeAll.l0, if_neg (by omega)]
      · simp only [starts, List.append_nil]
        exact Ev.now _
theorem rdall_ev (w : List Int) (hw : u32s w) (hl : w.length < 3518437208883) : Ev (fun k => fullingref29_DecodeAll.f k w) (decR w) := by
  have h := rdall_loop w hw hl (w.length + 1) 0 [] [] (by omega) (by omega) (by simp) (by simp)
  simp only [List.nil_append] at h
  exact h
end Go.Proofs.YtcjidibdidijaaaDoor
