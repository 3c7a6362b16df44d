/- Parts of this proof in one text: Ins1. -/
import Derived.Test.YtcjidibdidijaaaDoorQV11
import Derived.Test.YtcjidibdidijaaaDoorQV16
namespace Go.Proofs.YtcjidibdidijaaaDoor
set_option linter.unusedVariables false
set_option linter.unusedSimpArgs false
open Go.RowKit Go.Proofs.YtcjidibdidijaaaDoorW.PrintWords
theorem insD_20 (n : Int) : instrD 20 n = (20, (pickN (nextN n 37) 8), (pickN (nextN (nextN n 37) 8) 8), 0, 0) := by
  simp [instrD, show formOf 20 = 3 by decide +kernel, hasA, hasB, hasC]
set_option maxRecDepth 100000 in
set_option maxHeartbeats 4000000 in
theorem ins_20 (n : Int) (w : World) (hp1 : Hid (pickN n 37 = 19)) : Calls Tryd.prog 39 #[.int .i64 n] w fun e w' => e = .returned (insV (instrD 20 n)) ∧ Below w.heap.size w w' := by
  obtain ⟨d1, hd1⟩ : ∃ d, Hid (nextN n 37 = d) := ⟨_, rfl⟩
  obtain ⟨d2, hd2⟩ : ∃ d, Hid (nextN d1 8 = d) := ⟨_, rfl⟩
  obtain ⟨p2, hp2⟩ : ∃ p, Hid (pickN d1 8 = p) := ⟨_, rfl⟩
  obtain ⟨d3, hd3⟩ : ∃ d, Hid (nextN d2 8 = d) := ⟨_, rfl⟩
  obtain ⟨p3, hp3⟩ : ∃ p, Hid (pickN d2 8 = p) := ⟨_, rfl⟩
  go_enter Tryd.func39, Tryd.ntmps39
  go_wp2_with fail
  refine (next_any n _ _ _ hp1 hd1 _ ?hm _ ?hc ?hf).mono ?_
  (case hm => decide)
  (case hc => first | with_reducible assumption | go_simp)
  (case hf => first | with_reducible assumption | go_simp)
  rintro e w2 ⟨rfl, rfl⟩
  go_wp2_with fail
  refine (rinfo20 _).mono ?_
  rintro e w1 ⟨rfl, hb⟩
  have hz : w.heap.size + 2 < w1.heap.size := by have := hb.size; simp at this; omega
  have hz0 : w.heap.size < w1.heap.size := by omega
  have hz1 : w.heap.size + 1 < w1.heap.size := by omega
  obtain ⟨cw10, fw10⟩ := kc hb (w.heap.size) 0 0 (by go_simp) (by go_simp)
  obtain ⟨cw11, fw11⟩ := kc hb (w.heap.size) 1 0 (by go_simp) (by go_simp)
  obtain ⟨cw12, fw12⟩ := kc hb (w.heap.size) 2 0 (by go_simp) (by go_simp)
  obtain ⟨cw13, fw13⟩ := kc hb (w.heap.size) 3 0 (by go_simp) (by go_simp)
  obtain ⟨cw14, fw14⟩ := kc hb (w.heap.size) 4 0 (by go_simp) (by go_simp)
  obtain ⟨cw15, fw15⟩ := kc hb (w.heap.size + 1) 0 d1 (by go_simp) (by go_simp)
  obtain ⟨cw16, fw16⟩ := kc hb (w.heap.size + 2) 0 20 (by go_simp) (by go_simp)
  obtain ⟨cw17, fw17⟩ := kc hb (w.heap.size + 2) 1 0 (by go_simp) (by go_simp)
  obtain ⟨cw18, fw18⟩ := kc hb (w.heap.size + 2) 2 0 (by go_simp) (by go_simp)
  obtain ⟨cw19, fw19⟩ := kc hb (w.heap.size + 2) 3 0 (by go_simp) (by go_simp)
  obtain ⟨cw110, fw110⟩ := kc hb (w.heap.size + 2) 4 0 (by go_simp) (by go_simp)
  have HB := Aside0.mk (below_step (by repeat (first | with_reducible exact Below.refl _ _ | with_reducible refine Below.setCell ?_ (by first | omega | (simp <;> omega)) _ | with_reducible refine Below.alloc ?_ (by first | omega | (simp <;> omega)) _)) hb : Below w.heap.size w w1)
  clear hb
  go_wp2_with fail
  refine (next_any d1 _ _ _ hp2 hd2 _ ?hm _ ?hc ?hf).mono ?_
  (case hm => decide)
  (case hc => first | with_reducible assumption | go_simp)
  (case hf => first | with_reducible assumption | go_simp)
  rintro e w2 ⟨rfl, rfl⟩
  go_wp2_with fail
  refine (next_any d2 _ _ _ hp3 hd3 _ ?hm _ ?hc ?hf).mono ?_
  (case hm => decide)
  (case hc => first | with_reducible assumption | go_simp)
  (case hf => first | with_reducible assumption | go_simp)
  rintro e w2 ⟨rfl, rfl⟩
  go_wp2_with fail
  refine end39 20 p2 p3 0 0 ?hp ?hd ?c0 ?c1 ?c2 ?c3 ?c4 ?hv ?hb
  case hp => rfl
  case hd => rfl
  case hv => rw [insD_20]; simp only [hd1.out, hp2.out, hd2.out, hp3.out]
  case c0 => go_simp
  case c1 => go_simp
  case c2 => go_simp
  case c3 => go_simp
  case c4 => go_simp
  case hb => repeat (first | with_reducible exact HB.out | with_reducible exact Below.refl _ _ | with_reducible refine Below.setCell ?_ (by first | omega | (simp <;> omega)) _ | with_reducible refine Below.alloc ?_ (by first | omega | (simp <;> omega)) _)
theorem insD_21 (n : Int) : instrD 21 n = (21, (pickN (nextN n 37) 8), (pickN (nextN (nextN n 37) 8) 8), 0, 0) := by
  simp [instrD, show formOf 21 = 3 by decide +kernel, hasA, hasB, hasC]
set_option maxRecDepth 100000 in
set_option maxHeartbeats 4000000 in
theorem ins_21 (n : Int) (w : World) (hp1 : Hid (pickN n 37 = 20)) : Calls Tryd.prog 39 #[.int .i64 n] w fun e w' => e = .returned (insV (instrD 21 n)) ∧ Below w.heap.size w w' := by
  obtain ⟨d1, hd1⟩ : ∃ d, Hid (nextN n 37 = d) := ⟨_, rfl⟩
  obtain ⟨d2, hd2⟩ : ∃ d, Hid (nextN d1 8 = d) := ⟨_, rfl⟩
  obtain ⟨p2, hp2⟩ : ∃ p, Hid (pickN d1 8 = p) := ⟨_, rfl⟩
  obtain ⟨d3, hd3⟩ : ∃ d, Hid (nextN d2 8 = d) := ⟨_, rfl⟩
  obtain ⟨p3, hp3⟩ : ∃ p, Hid (pickN d2 8 = p) := ⟨_, rfl⟩
  go_enter Tryd.func39, Tryd.ntmps39
  go_wp2_with fail
  refine (next_any n _ _ _ hp1 hd1 _ ?hm _ ?hc ?hf).mono ?_
  (case hm => decide)
  (case hc => first | with_reducible assumption | go_simp)
  (case hf => first | with_reducible assumption | go_simp)
  rintro e w2 ⟨rfl, rfl⟩
  go_wp2_with fail
  refine (rinfo21 _).mono ?_
  rintro e w1 ⟨rfl, hb⟩
  have hz : w.heap.size + 2 < w1.heap.size := by have := hb.size; simp at this; omega
  have hz0 : w.heap.size < w1.heap.size := by omega
  have hz1 : w.heap.size + 1 < w1.heap.size := by omega
  obtain ⟨cw10, fw10⟩ := kc hb (w.heap.size) 0 0 (by go_simp) (by go_simp)
  obtain ⟨cw11, fw11⟩ := kc hb (w.heap.size) 1 0 (by go_simp) (by go_simp)
  obtain ⟨cw12, fw12⟩ := kc hb (w.heap.size) 2 0 (by go_simp) (by go_simp)
  obtain ⟨cw13, fw13⟩ := kc hb (w.heap.size) 3 0 (by go_simp) (by go_simp)
  obtain ⟨cw14, fw14⟩ := kc hb (w.heap.size) 4 0 (by go_simp) (by go_simp)
  obtain ⟨cw15, fw15⟩ := kc hb (w.heap.size + 1) 0 d1 (by go_simp) (by go_simp)
  obtain ⟨cw16, fw16⟩ := kc hb (w.heap.size + 2) 0 21 (by go_simp) (by go_simp)
  obtain ⟨cw17, fw17⟩ := kc hb (w.heap.size + 2) 1 0 (by go_simp) (by go_simp)
  obtain ⟨cw18, fw18⟩ := kc hb (w.heap.size + 2) 2 0 (by go_simp) (by go_simp)
  obtain ⟨cw19, fw19⟩ := kc hb (w.heap.size + 2) 3 0 (by go_simp) (by go_simp)
  obtain ⟨cw110, fw110⟩ := kc hb (w.heap.size + 2) 4 0 (by go_simp) (by go_simp)
  have HB := Aside0.mk (below_step (by repeat (first | with_reducible exact Below.refl _ _ | with_reducible refine Below.setCell ?_ (by first | omega | (simp <;> omega)) _ | with_reducible refine Below.alloc ?_ (by first | omega | (simp <;> omega)) _)) hb : Below w.heap.size w w1)
  clear hb
  go_wp2_with fail
  refine (next_any d1 _ _ _ hp2 hd2 _ ?hm _ ?hc ?hf).mono ?_
  (case hm => decide)
  (case hc => first | with_reducible assumption | go_simp)
  (case hf => first | with_reducible assumption | go_simp)
  rintro e w2 ⟨rfl, rfl⟩
  go_wp2_with fail
  refine (next_any d2 _ _ _ hp3 hd3 _ ?hm _ ?hc ?hf).mono ?_
  (case hm => decide)
  (case hc => first | with_reducible assumption | go_simp)
  (case hf => first | with_reducible assumption | go_simp)
  rintro e w2 ⟨rfl, rfl⟩
  go_wp2_with fail
  refine end39 21 p2 p3 0 0 ?hp ?hd ?c0 ?c1 ?c2 ?c3 ?c4 ?hv ?hb
  case hp => rfl
  case hd => rfl
  case hv => rw [insD_21]; simp only [hd1.out, hp2.out, hd2.out, hp3.out]
  case c0 => go_simp
  case c1 => go_simp
  case c2 => go_simp
  case c3 => go_simp
  case c4 => go_simp
  case hb => repeat (first | with_reducible exact HB.out | with_reducible exact Below.refl _ _ | with_reducible refine Below.setCell ?_ (by first | omega | (simp <;> omega)) _ | with_reducible refine Below.alloc ?_ (by first | omega | (simp <;> omega)) _)
theorem insD_22 (n : Int) : instrD 22 n = (22, (pickN (nextN n 37) 8), (pickN (nextN (nextN n 37) 8) 8), 0, 0) := by
  simp [instrD, show formOf 22 = 3 by decide +kernel, hasA, hasB, hasC]
set_option maxRecDepth 100000 in
set_option maxHeartbeats 4000000 in
theorem ins_22 (n : Int) (w : World) (hp1 : Hid (pickN n 37 = 21)) : Calls Tryd.prog 39 #[.int .i64 n] w fun e w' => e = .returned (insV (instrD 22 n)) ∧ Below w.heap.size w w' := by
  obtain ⟨d1, hd1⟩ : ∃ d, Hid (nextN n 37 = d) := ⟨_, rfl⟩
  obtain ⟨d2, hd2⟩ : ∃ d, Hid (nextN d1 8 = d) := ⟨_, rfl⟩
  obtain ⟨p2, hp2⟩ : ∃ p, Hid (pickN d1 8 = p) := ⟨_, rfl⟩
  obtain ⟨d3, hd3⟩ : ∃ d, Hid (nextN d2 8 = d) := ⟨_, rfl⟩
  obtain ⟨p3, hp3⟩ : ∃ p, Hid (pickN d2 8 = p) := ⟨_, rfl⟩
  go_enter Tryd.func39, Tryd.ntmps39
  go_wp2_with fail
  refine (next_any n _ _ _ hp1 hd1 _ ?hm _ ?hc ?hf).mono ?_
  (case hm => decide)
  (case hc => first | with_reducible assumption | go_simp)
  (case hf => first | with_reducible assumption | go_simp)
  rintro e w2 ⟨rfl, rfl⟩
  go_wp2_with fail
  refine (rinfo22 _).mono ?_
  rintro e w1 ⟨rfl, hb⟩
  have hz : w.heap.size + 2 < w1.heap.size := by have := hb.size; simp at this; omega
  have hz0 : w.heap.size < w1.heap.size := by omega
  have hz1 : w.heap.size + 1 < w1.heap.size := by omega
  obtain ⟨cw10, fw10⟩ := kc hb (w.heap.size) 0 0 (by go_simp) (by go_simp)
  obtain ⟨cw11, fw11⟩ := kc hb (w.heap.size) 1 0 (by go_simp) (by go_simp)
  obtain ⟨cw12, fw12⟩ := kc hb (w.heap.size) 2 0 (by go_simp) (by go_simp)
  obtain ⟨cw13, fw13⟩ := kc hb (w.heap.size) 3 0 (by go_simp) (by go_simp)
  obtain ⟨cw14, fw14⟩ := kc hb (w.heap.size) 4 0 (by go_simp) (by go_simp)
  obtain ⟨cw15, fw15⟩ := kc hb (w.heap.size + 1) 0 d1 (by go_simp) (by go_simp)
  obtain ⟨cw16, fw16⟩ := kc hb (w.heap.size + 2) 0 22 (by go_simp) (by go_simp)
  obtain ⟨cw17, fw17⟩ := kc hb (w.heap.size + 2) 1 0 (by go_simp) (by go_simp)
  obtain ⟨cw18, fw18⟩ := kc hb (w.heap.size + 2) 2 0 (by go_simp) (by go_simp)
  obtain ⟨cw19, fw19⟩ := kc hb (w.heap.size + 2) 3 0 (by go_simp) (by go_simp)
  obtain ⟨cw110, fw110⟩ := kc hb (w.heap.size + 2) 4 0 (by go_simp) (by go_simp)
  have HB := Aside0.mk (below_step (by repeat (first | with_reducible exact Below.refl _ _ | with_reducible refine Below.setCell ?_ (by first | omega | (simp <;> omega)) _ | with_reducible refine Below.alloc ?_ (by first | omega | (simp <;> omega)) _)) hb : Below w.heap.size w w1)
  clear hb
  go_wp2_with fail
  refine (next_any d1 _ _ _ hp2 hd2 _ ?hm _ ?hc ?hf).mono ?_
  (case hm => decide)
  (case hc => first | with_reducible assumption | go_simp)
  (case hf => first | with_reducible assumption | go_simp)
  rintro e w2 ⟨rfl, rfl⟩
  go_wp2_with fail
  refine (next_any d2 _ _ _ hp3 hd3 _ ?hm _ ?hc ?hf).mono ?_
  (case hm => decide)
  (case hc => first | with_reducible assumption | go_simp)
  (case hf => first | with_reducible assumption | go_simp)
  rintro e w2 ⟨rfl, rfl⟩
  go_wp2_with fail
  refine end39 22 p2 p3 0 0 ?hp ?hd ?c0 ?c1 ?c2 ?c3 ?c4 ?hv ?hb
  case hp => rfl
  case hd => rfl
  case hv => rw [insD_22]; simp only [hd1.out, hp2.out, hd2.out, hp3.out]
  case c0 => go_simp
  case c1 => go_simp
  case c2 => go_simp
  case c3 => go_simp
  case c4 => go_simp
  case hb => repeat (first | with_reducible exact HB.out | with_reducible exact Below.refl _ _ | with_reducible refine Below.setCell ?_ (by first | omega | (simp <;> omega)) _ | with_reducible refine Below.alloc ?_ (by first | omega | (simp <;> omega)) _)
theorem insD_23 (n : Int) : instrD 23 n = (23, (pickN (nextN n 37) 8), (pickN (nextN (nextN n 37) 8) 8), 0, 0) := by
  simp [instrD, show formOf 23 = 3 by decide +kernel, hasA, hasB, hasC]
set_option maxRecDepth 100000 in
set_option maxHeartbeats 4000000 in
theorem ins_23 (n : Int) (w : World) (hp1 : Hid (pickN n 37 = 22)) : Calls Tryd.prog 39 #[.int .i64 n] w fun e w' => e = .returned (insV (instrD 23 n)) ∧ Below w.heap.size w w' := by
  obtain ⟨d1, hd1⟩ : ∃ d, Hid (nextN n 37 = d) := ⟨_, rfl⟩
  obtain ⟨d2, hd2⟩ : ∃ d, Hid (nextN d1 8 = d) := ⟨_, rfl⟩
  obtain ⟨p2, hp2⟩ : ∃ p, Hid (pickN d1 8 = p) := ⟨_, rfl⟩
  obtain ⟨d3, hd3⟩ : ∃ d, Hid (nextN d2 8 = d) := ⟨_, rfl⟩
  obtain ⟨p3, hp3⟩ : ∃ p, Hid (pickN d2 8 = p) := ⟨_, rfl⟩
  go_enter Tryd.func39, Tryd.ntmps39
  go_wp2_with fail
  refine (next_any n _ _ _ hp1 hd1 _ ?hm _ ?hc ?hf).mono ?_
  (case hm => decide)
  (case hc => first | with_reducible assumption | go_simp)
  (case hf => first | with_reducible assumption | go_simp)
  rintro e w2 ⟨rfl, rfl⟩
  go_wp2_with fail
  refine (rinfo23 _).mono ?_
  rintro e w1 ⟨rfl, hb⟩
  have hz : w.heap.size + 2 < w1.heap.size := by have := hb.size; simp at this; omega
  have hz0 : w.heap.size < w1.heap.size := by omega
  have hz1 : w.heap.size + 1 < w1.heap.size := by omega
  obtain ⟨cw10, fw10⟩ := kc hb (w.heap.size) 0 0 (by go_simp) (by go_simp)
  obtain ⟨cw11, fw11⟩ := kc hb (w.heap.size) 1 0 (by go_simp) (by go_simp)
  obtain ⟨cw12, fw12⟩ := kc hb (w.heap.size) 2 0 (by go_simp) (by go_simp)
  obtain ⟨cw13, fw13⟩ := kc hb (w.heap.size) 3 0 (by go_simp) (by go_simp)
  obtain ⟨cw14, fw14⟩ := kc hb (w.heap.size) 4 0 (by go_simp) (by go_simp)
  obtain ⟨cw15, fw15⟩ := kc hb (w.heap.size + 1) 0 d1 (by go_simp) (by go_simp)
  obtain ⟨cw16, fw16⟩ := kc hb (w.heap.size + 2) 0 23 (by go_simp) (by go_simp)
  obtain ⟨cw17, fw17⟩ := kc hb (w.heap.size + 2) 1 0 (by go_simp) (by go_simp)
  obtain ⟨cw18, fw18⟩ := kc hb (w.heap.size + 2) 2 0 (by go_simp) (by go_simp)
  obtain ⟨cw19, fw19⟩ := kc hb (w.heap.size + 2) 3 0 (by go_simp) (by go_simp)
  obtain ⟨cw110, fw110⟩ := kc hb (w.heap.size + 2) 4 0 (by go_simp) (by go_simp)
  have HB := Aside0.mk (below_step (by repeat (first | with_reducible exact Below.refl _ _ | with_reducible refine Below.setCell ?_ (by first | omega | (simp <;> omega)) _ | with_reducible refine Below.alloc ?_ (by first | omega | (simp <;> omega)) _)) hb : Below w.heap.size w w1)
  clear hb
  go_wp2_with fail
  refine (next_any d1 _ _ _ hp2 hd2 _ ?hm _ ?hc ?hf).mono ?_
  (case hm => decide)
  (case hc => first | with_reducible assumption | go_simp)
  (case hf => first | with_reducible assumption | go_simp)
  rintro e w2 ⟨rfl, rfl⟩
  go_wp2_with fail
  refine (next_any d2 _ _ _ hp3 hd3 _ ?hm _ ?hc ?hf).mono ?_
  (case hm => decide)
  (case hc => first | with_reducible assumption | go_simp)
  (case hf => first | with_reducible assumption | go_simp)
  rintro e w2 ⟨rfl, rfl⟩
  go_wp2_with fail
  refine end39 23 p2 p3 0 0 ?hp ?hd ?c0 ?c1 ?c2 ?c3 ?c4 ?hv ?hb
  case hp => rfl
  case hd => rfl
  case hv => rw [insD_23]; simp only [hd1.out, hp2.out, hd2.out, hp3.out]
  case c0 => go_simp
  case c1 => go_simp
  case c2 => go_simp
  case c3 => go_simp
  case c4 => go_simp
  case hb => repeat (first | with_reducible exact HB.out | with_reducible exact Below.refl _ _ | with_reducible refine Below.setCell ?_ (by first | omega | (simp <;> omega)) _ | with_reducible refine Below.alloc ?_ (by first | omega | (simp <;> omega)) _)
theorem insD_24 (n : Int) : instrD 24 n = (24, (pickN (nextN n 37) 8), (pickN (nextN (nextN n 37) 8) 8), 0, 0) := by
  simp [instrD, show formOf 24 = 3 by decide +kernel, hasA, hasB, hasC]
set_option maxRecDepth 100000 in
set_option maxHeartbeats 4000000 in
theorem ins_24 (n : Int) (w : World) (hp1 : Hid (pickN n 37 = 23)) : Calls Tryd.prog 39 #[.int .i64 n] w fun e w' => e = .returned (insV (instrD 24 n)) ∧ Below w.heap.size w w' := by
  obtain ⟨d1, hd1⟩ : ∃ d, Hid (nextN n 37 = d) := ⟨_, rfl⟩
  obtain ⟨d2, hd2⟩ : ∃ d, Hid (nextN d1 8 = d) := ⟨_, rfl⟩
  obtain ⟨p2, hp2⟩ : ∃ p, Hid (pickN d1 8 = p) := ⟨_, rfl⟩
  obtain ⟨d3, hd3⟩ : ∃ d, Hid (nextN d2 8 = d) := ⟨_, rfl⟩
  obtain ⟨p3, hp3⟩ : ∃ p, Hid (pickN d2 8 = p) := ⟨_, rfl⟩
  go_enter Tryd.func39, Tryd.ntmps39
  go_wp2_with fail
  refine (next_any n _ _ _ hp1 hd1 _ ?hm _ ?hc ?hf).mono ?_
  (case hm => decide)
  (case hc => first | with_reducible assumption | go_simp)
  (case hf => first | with_reducible assumption | go_simp)
  rintro e w2 ⟨rfl, rfl⟩
  go_wp2_with fail
  refine (rinfo24 _).mono ?_
  rintro e w1 ⟨rfl, hb⟩
  have hz : w.heap.size + 2 < w1.heap.size := by have := hb.size; simp at this; omega
  have hz0 : w.heap.size < w1.heap.size := by omega
  have hz1 : w.heap.size + 1 < w1.heap.size := by omega
  obtain ⟨cw10, fw10⟩ := kc hb (w.heap.size) 0 0 (by go_simp) (by go_simp)
  obtain ⟨cw11, fw11⟩ := kc hb (w.heap.size) 1 0 (by go_simp) (by go_simp)
  obtain ⟨cw12, fw12⟩ := kc hb (w.heap.size) 2 0 (by go_simp) (by go_simp)
  obtain ⟨cw13, fw13⟩ := kc hb (w.heap.size) 3 0 (by go_simp) (by go_simp)
  obtain ⟨cw14, fw14⟩ := kc hb (w.heap.size) 4 0 (by go_simp) (by go_simp)
  obtain ⟨cw15, fw15⟩ := kc hb (w.heap.size + 1) 0 d1 (by go_simp) (by go_simp)
  obtain ⟨cw16, fw16⟩ := kc hb (w.heap.size + 2) 0 24 (by go_simp) (by go_simp)
  obtain ⟨cw17, fw17⟩ := kc hb (w.heap.size + 2) 1 0 (by go_simp) (by go_simp)
  obtain ⟨cw18, fw18⟩ := kc hb (w.heap.size + 2) 2 0 (by go_simp) (by go_simp)
  obtain ⟨cw19, fw19⟩ := kc hb (w.heap.size + 2) 3 0 (by go_simp) (by go_simp)
  obtain ⟨cw110, fw110⟩ := kc hb (w.heap.size + 2) 4 0 (by go_simp) (by go_simp)
  have HB := Aside0.mk (below_step (by repeat (first | with_reducible exact Below.refl _ _ | with_reducible refine Below.setCell ?_ (by first | omega | (simp <;> omega)) _ | with_reducible refine Below.alloc ?_ (by first | omega | (simp <;> omega)) _)) hb : Below w.heap.size w w1)
  clear hb
  go_wp2_with fail
  refine (next_any d1 _ _ _ hp2 hd2 _ ?hm _ ?hc ?hf).mono ?_
  (case hm => decide)
  (case hc => first | with_reducible assumption | go_simp)
  (case hf => first | with_reducible assumption | go_simp)
  rintro e w2 ⟨rfl, rfl⟩
  go_wp2_with fail
  refine (next_any d2 _ _ _ hp3 hd3 _ ?hm _ ?hc ?hf).mono ?_
  (case hm => decide)
  (case hc => first | with_reducible assumption | go_simp)
  (case hf => first | with_reducible assumption | go_simp)
  rintro e w2 ⟨rfl, rfl⟩
  go_wp2_with fail
  refine end39 24 p2 p3 0 0 ?hp ?hd ?c0 ?c1 ?c2 ?c3 ?c4 ?hv ?hb
  case hp => rfl
  case hd => rfl
  case hv => rw [insD_24]; simp only [hd1.out, hp2.out, hd2.out, hp3.out]
  case c0 => go_simp
  case c1 => go_simp
  case c2 => go_simp
  case c3 => go_simp
  case c4 => go_simp
  case hb => repeat (first | with_reducible exact HB.out | with_reducible exact Below.refl _ _ | with_reducible refine Below.setCell ?_ (by first | omega | (simp <;> omega)) _ | with_reducible refine Below.alloc ?_ (by first | omega | (simp <;> omega)) _)
theorem insD_25 (n : Int) : instrD 25 n = (25, (pickN (nextN n 37) 8), (pickN (nextN (nextN n 37) 8) 8), 0, 0) := by
  simp [instrD, show formOf 25 = 3 by decide +kernel, hasA, hasB, hasC]
set_option maxRecDepth 100000 in
set_option maxHeartbeats 4000000 in
theorem ins_25 (n : Int) (w : World) (hp1 : Hid (pickN n 37 = 24)) : Calls Tryd.prog 39 #[.int .i64 n] w fun e w' => e = .returned (insV (instrD 25 n)) ∧ Below w.heap.size w w' := by
  obtain ⟨d1, hd1⟩ : ∃ d, Hid (nextN n 37 = d) := ⟨_, rfl⟩
  obtain ⟨d2, hd2⟩ : ∃ d, Hid (nextN d1 8 = d) := ⟨_, rfl⟩
  obtain ⟨p2, hp2⟩ : ∃ p, Hid (pickN d1 8 = p) := ⟨_, rfl⟩
  obtain ⟨d3, hd3⟩ : ∃ d, Hid (nextN d2 8 = d) := ⟨_, rfl⟩
  obtain ⟨p3, hp3⟩ : ∃ p, Hid (pickN d2 8 = p) := ⟨_, rfl⟩
  go_enter Tryd.func39, Tryd.ntmps39
  go_wp2_with fail
  refine (next_any n _ _ _ hp1 hd1 _ ?hm _ ?hc ?hf).mono ?_
  (case hm => decide)
  (case hc => first | with_reducible assumption | go_simp)
  (case hf => first | with_reducible assumption | go_simp)
  rintro e w2 ⟨rfl, rfl⟩
  go_wp2_with fail
  refine (rinfo25 _).mono ?_
  rintro e w1 ⟨rfl, hb⟩
  have hz : w.heap.size + 2 < w1.heap.size := by have := hb.size; simp at this; omega
  have hz0 : w.heap.size < w1.heap.size := by omega
  have hz1 : w.heap.size + 1 < w1.heap.size := by omega
  obtain ⟨cw10, fw10⟩ := kc hb (w.heap.size) 0 0 (by go_simp) (by go_simp)
  obtain ⟨cw11, fw11⟩ := kc hb (w.heap.size) 1 0 (by go_simp) (by go_simp)
  obtain ⟨cw12, fw12⟩ := kc hb (w.heap.size) 2 0 (by go_simp) (by go_simp)
  obtain ⟨cw13, fw13⟩ := kc hb (w.heap.size) 3 0 (by go_simp) (by go_simp)
  obtain ⟨cw14, fw14⟩ := kc hb (w.heap.size) 4 0 (by go_simp) (by go_simp)
  obtain ⟨cw15, fw15⟩ := kc hb (w.heap.size + 1) 0 d1 (by go_simp) (by go_simp)
  obtain ⟨cw16, fw16⟩ := kc hb (w.heap.size + 2) 0 25 (by go_simp) (by go_simp)
  obtain ⟨cw17, fw17⟩ := kc hb (w.heap.size + 2) 1 0 (by go_simp) (by go_simp)
  obtain ⟨cw18, fw18⟩ := kc hb (w.heap.size + 2) 2 0 (by go_simp) (by go_simp)
  obtain ⟨cw19, fw19⟩ := kc hb (w.heap.size + 2) 3 0 (by go_simp) (by go_simp)
  obtain ⟨cw110, fw110⟩ := kc hb (w.heap.size + 2) 4 0 (by go_simp) (by go_simp)
  have HB := Aside0.mk (below_step (by repeat (first | with_reducible exact Below.refl _ _ | with_reducible refine Below.setCell ?_ (by first | omega | (simp <;> omega)) _ | with_reducible refine Below.alloc ?_ (by first | omega | (simp <;> omega)) _)) hb : Below w.heap.size w w1)
  clear hb
  go_wp2_with fail
  refine (next_any d1 _ _ _ hp2 hd2 _ ?hm _ ?hc ?hf).mono ?_
  (case hm => decide)
  (case hc => first | with_reducible assumption | go_simp)
  (case hf => first | with_reducible assumption | go_simp)
  rintro e w2 ⟨rfl, rfl⟩
  go_wp2_with fail
  refine (next_any d2 _ _ _ hp3 hd3 _ ?hm _ ?hc ?hf).mono ?_
  (case hm => decide)
  (case hc => first | with_reducible assumption | go_simp)
  (case hf => first | with_reducible assumption | go_simp)
  rintro e w2 ⟨rfl, rfl⟩
  go_wp2_with fail
  refine end39 25 p2 p3 0 0 ?hp ?hd ?c0 ?c1 ?c2 ?c3 ?c4 ?hv ?hb
  case hp => rfl
  case hd => rfl
  case hv => rw [insD_25]; simp only [hd1.out, hp2.out, hd2.out, hp3.out]
  case c0 => go_simp
  case c1 => go_simp
  case c2 => go_simp
  case c3 => go_simp
  case c4 => go_simp
  case hb => repeat (first | with_reducible exact HB.out | with_reducible exact Below.refl _ _ | with_reducible refine Below.setCell ?_ (by first | omega | (simp <;> omega)) _ | with_reducible refine Below.alloc ?_ (by first | omega | (simp <;> omega)) _)
theorem insD_26 (n : Int) : instrD 26 n = (26, (pickN (nextN n 37) 8), (pickN (nextN (nextN n 37) 8) 8), 0, 0) := by
  simp [instrD, show formOf 26 = 3 by decide +kernel, hasA, hasB, hasC]
set_option maxRecDepth 100000 in
set_option maxHeartbeats 4000000 in
theorem ins_26 (n : Int) (w : World) (hp1 : Hid (pickN n 37 = 25)) : Calls Tryd.prog 39 #[.int .i64 n] w fun e w' => e = .returned (insV (instrD 26 n)) ∧ Below w.heap.size w w' := by
  obtain ⟨d1, hd1⟩ : ∃ d, Hid (nextN n 37 = d) := ⟨_, rfl⟩
  obtain ⟨d2, hd2⟩ : ∃ d, Hid (nextN d1 8 = d) := ⟨_, rfl⟩
  obtain ⟨p2, hp2⟩ : ∃ p, Hid (pickN d1 8 = p) := ⟨_, rfl⟩
  obtain ⟨d3, hd3⟩ : ∃ d, Hid (nextN d2 8 = d) := ⟨_, rfl⟩
  obtain ⟨p3, hp3⟩ : ∃ p, Hid (pickN d2 8 = p) := ⟨_, rfl⟩
  go_enter Tryd.func39, Tryd.ntmps39
  go_wp2_with fail
  refine (next_any n _ _ _ hp1 hd1 _ ?hm _ ?hc ?hf).mono ?_
  (case hm => decide)
  (case hc => first | with_reducible assumption | go_simp)
  (case hf => first | with_reducible assumption | go_simp)
  rintro e w2 ⟨rfl, rfl⟩
  go_wp2_with fail
  refine (rinfo26 _).mono ?_
  rintro e w1 ⟨rfl, hb⟩
  have hz : w.heap.size + 2 < w1.heap.size := by have := hb.size; simp at this; omega
  have hz0 : w.heap.size < w1.heap.size := by omega
  have hz1 : w.heap.size + 1 < w1.heap.size := by omega
  obtain ⟨cw10, fw10⟩ := kc hb (w.heap.size) 0 0 (by go_simp) (by go_simp)
  obtain ⟨cw11, fw11⟩ := kc hb (w.heap.size) 1 0 (by go_simp) (by go_simp)
  obtain ⟨cw12, fw12⟩ := kc hb (w.heap.size) 2 0 (by go_simp) (by go_simp)
  obtain ⟨cw13, fw13⟩ := kc hb (w.heap.size) 3 0 (by go_simp) (by go_simp)
  obtain ⟨cw14, fw14⟩ := kc hb (w.heap.size) 4 0 (by go_simp) (by go_simp)
  obtain ⟨cw15, fw15⟩ := kc hb (w.heap.size + 1) 0 d1 (by go_simp) (by go_simp)
  obtain ⟨cw16, fw16⟩ := kc hb (w.heap.size + 2) 0 26 (by go_simp) (by go_simp)
  obtain ⟨cw17, fw17⟩ := kc hb (w.heap.size + 2) 1 0 (by go_simp) (by go_simp)
  obtain ⟨cw18, fw18⟩ := kc hb (w.heap.size + 2) 2 0 (by go_simp) (by go_simp)
  obtain ⟨cw19, fw19⟩ := kc hb (w.heap.size + 2) 3 0 (by go_simp) (by go_simp)
  obtain ⟨cw110, fw110⟩ := kc hb (w.heap.size + 2) 4 0 (by go_simp) (by go_simp)
  have HB := Aside0.mk (below_step (by repeat (first | with_reducible exact Below.refl _ _ | with_reducible refine Below.setCell ?_ (by first | omega | (simp <;> omega)) _ | with_reducible refine Below.alloc ?_ (by first | omega | (simp <;> omega)) _)) hb : Below w.heap.size w w1)
  clear hb
  go_wp2_with fail
  refine (next_any d1 _ _ _ hp2 hd2 _ ?hm _ ?hc ?hf).mono ?_
  (case hm => decide)
  (case hc => first | with_reducible assumption | go_simp)
  (case hf => first | with_reducible assumption | go_simp)
  rintro e w2 ⟨rfl, rfl⟩
  go_wp2_with fail
  refine (next_any d2 _ _ _ hp3 hd3 _ ?hm _ ?hc ?hf).mono ?_
  (case hm => decide)
  (case hc => first | with_reducible assumption | go_simp)
  (case hf => first | with_reducible assumption | go_simp)
  rintro e w2 ⟨rfl, rfl⟩
  go_wp2_with fail
  refine end39 26 p2 p3 0 0 ?hp ?hd ?c0 ?c1 ?c2 ?c3 ?c4 ?hv ?hb
  case hp => rfl
  case hd => rfl
  case hv => rw [insD_26]; simp only [hd1.out, hp2.out, hd2.out, hp3.out]
  case c0 => go_simp
  case c1 => go_simp
  case c2 => go_simp
  case c3 => go_simp
  case c4 => go_simp
  case hb => repeat (first | with_reducible exact HB.out | with_reducible exact Below.refl _ _ | with_reducible refine Below.setCell ?_ (by first | omega | (simp <;> omega)) _ | with_reducible refine Below.alloc ?_ (by first | omega | (simp <;> omega)) _)
theorem insD_27 (n : Int) : instrD 27 n = (27, (pickN (nextN n 37) 8), (pickN (nextN (nextN n 37) 8) 8), 0, 0) := by
  simp [instrD, show formOf 27 = 3 by decide +kernel, hasA, hasB, hasC]
set_option maxRecDepth 100000 in
set_option maxHeartbeats 4000000 in
theorem ins_27 (n : Int) (w : World) (hp1 : Hid (pickN n 37 = 26)) : Calls Tryd.prog 39 #[.int .i64 n] w fun e w' => e = .returned (insV (instrD 27 n)) ∧ Below w.heap.size w w' := by
  obtain ⟨d1, hd1⟩ : ∃ d, Hid (nextN n 37 = d) := ⟨_, rfl⟩
  obtain ⟨d2, hd2⟩ : ∃ d, Hid (nextN d1 8 = d) := ⟨_, rfl⟩
  obtain ⟨p2, hp2⟩ : ∃ p, Hid (pickN d1 8 = p) := ⟨_, rfl⟩
  obtain ⟨d3, hd3⟩ : ∃ d, Hid (nextN d2 8 = d) := ⟨_, rfl⟩
  obtain ⟨p3, hp3⟩ : ∃ p, Hid (pickN d2 8 = p) := ⟨_, rfl⟩
  go_enter Tryd.func39, Tryd.ntmps39
  go_wp2_with fail
  refine (next_any n _ _ _ hp1 hd1 _ ?hm _ ?hc ?hf).mono ?_
  (case hm => decide)
  (case hc => first | with_reducible assumption | go_simp)
  (case hf => first | with_reducible assumption | go_simp)
  rintro e w2 ⟨rfl, rfl⟩
  go_wp2_with fail
  refine (rinfo27 _).mono ?_
  rintro e w1 ⟨rfl, hb⟩
  have hz : w.heap.size + 2 < w1.heap.size := by have := hb.size; simp at this; omega
  have hz0 : w.heap.size < w1.heap.size := by omega
  have hz1 : w.heap.size + 1 < w1.heap.size := by omega
  obtain ⟨cw10, fw10⟩ := kc hb (w.heap.size) 0 0 (by go_simp) (by go_simp)
  obtain ⟨cw11, fw11⟩ := kc hb (w.heap.size) 1 0 (by go_simp) (by go_simp)
  obtain ⟨cw12, fw12⟩ := kc hb (w.heap.size) 2 0 (by go_simp) (by go_simp)
  obtain ⟨cw13, fw13⟩ := kc hb (w.heap.size) 3 0 (by go_simp) (by go_simp)
  obtain ⟨cw14, fw14⟩ := kc hb (w.heap.size) 4 0 (by go_simp) (by go_simp)
  obtain ⟨cw15, fw15⟩ := kc hb (w.heap.size + 1) 0 d1 (by go_simp) (by go_simp)
  obtain ⟨cw16, fw16⟩ := kc hb (w.heap.size + 2) 0 27 (by go_simp) (by go_simp)
  obtain ⟨cw17, fw17⟩ := kc hb (w.heap.size + 2) 1 0 (by go_simp) (by go_simp)
  obtain ⟨cw18, fw18⟩ := kc hb (w.heap.size + 2) 2 0 (by go_simp) (by go_simp)
  obtain ⟨cw19, fw19⟩ := kc hb (w.heap.size + 2) 3 0 (by go_simp) (by go_simp)
  obtain ⟨cw110, fw110⟩ := kc hb (w.heap.size + 2) 4 0 (by go_simp) (by go_simp)
  have HB := Aside0.mk (below_step (by repeat (first | with_reducible exact Below.refl _ _ | with_reducible refine Below.setCell ?_ (by first | omega | (simp <;> omega)) _ | with_reducible refine Below.alloc ?_ (by first | omega | (simp <;> omega)) _)) hb : Below w.heap.size w w1)
  clear hb
  go_wp2_with fail
  refine (next_any d1 _ _ _ hp2 hd2 _ ?hm _ ?hc ?hf).mono ?_
  (case hm => decide)
  (case hc => first | with_reducible assumption | go_simp)
  (case hf => first | with_reducible assumption | go_simp)
  rintro e w2 ⟨rfl, rfl⟩
  go_wp2_with fail
  refine (next_any d2 _ _ _ hp3 hd3 _ ?hm _ ?hc ?hf).mono ?_
  (case hm => decide)
  (case hc => first | with_reducible assumption | go_simp)
  (case hf => first | with_reducible assumption | go_simp)
  rintro e w2 ⟨rfl, rfl⟩
  go_wp2_with fail
  refine end39 27 p2 p3 0 0 ?hp ?hd ?c0 ?c1 ?c2 ?c3 ?c4 ?hv ?hb
  case hp => rfl
  case hd => rfl
  case hv => rw [insD_27]; simp only [hd1.out, hp2.out, hd2.out, hp3.out]
  case c0 => go_simp
  case c1 => go_simp
  case c2 => go_simp
  case c3 => go_simp
  case c4 => go_simp
  case hb => repeat (first | with_reducible exact HB.out | with_reducible exact Below.refl _ _ | with_reducible refine Below.setCell ?_ (by first | omega | (simp <;> omega)) _ | with_reducible refine Below.alloc ?_ (by first | omega | (simp <;> omega)) _)
theorem insD_28 (n : Int) : instrD 28 n = (28, (pickN (nextN n 37) 8), (pickN (nextN (nextN n 37) 8) 8), 0, 0) := by
  simp [instrD, show formOf 28 = 3 by decide +kernel, hasA, hasB, hasC]
set_option maxRecDepth 100000 in
set_option maxHeartbeats 4000000 in
theorem ins_28 (n : Int) (w : World) (hp1 : Hid (pickN n 37 = 27)) : Calls Tryd.prog 39 #[.int .i64 n] w fun e w' => e = .returned (insV (instrD 28 n)) ∧ Below w.heap.size w w' := by
  obtain ⟨d1, hd1⟩ : ∃ d, Hid (nextN n 37 = d) := ⟨_, rfl⟩
  obtain ⟨d2, hd2⟩ : ∃ d, Hid (nextN d1 8 = d) := ⟨_, rfl⟩
  obtain ⟨p2, hp2⟩ : ∃ p, Hid (pickN d1 8 = p) := ⟨_, rfl⟩
  obtain ⟨d3, hd3⟩ : ∃ d, Hid (nextN d2 8 = d) := ⟨_, rfl⟩
  obtain ⟨p3, hp3⟩ : ∃ p, Hid (pickN d2 8 = p) := ⟨_, rfl⟩
  go_enter Tryd.func39, Tryd.ntmps39
  go_wp2_with fail
  refine (next_any n _ _ _ hp1 hd1 _ ?hm _ ?hc ?hf).mono ?_
  (case hm => decide)
  (case hc => first | with_reducible assumption | go_simp)
  (case hf => first | with_reducible assumption | go_simp)
  rintro e w2 ⟨rfl, rfl⟩
  go_wp2_with fail
  refine (rinfo28 _).mono ?_
  rintro e w1 ⟨rfl, hb⟩
  have hz : w.heap.size + 2 < w1.heap.size := by have := hb.size; simp at this; omega
  have hz0 : w.heap.size < w1.heap.size := by omega
  have hz1 : w.heap.size + 1 < w1.heap.size := by omega
  obtain ⟨cw10, fw10⟩ := kc hb (w.heap.size) 0 0 (by go_simp) (by go_simp)
  obtain ⟨cw11, fw11⟩ := kc hb (w.heap.size) 1 0 (by go_simp) (by go_simp)
  obtain ⟨cw12, fw12⟩ := kc hb (w.heap.size) 2 0 (by go_simp) (by go_simp)
  obtain ⟨cw13, fw13⟩ := kc hb (w.heap.size) 3 0 (by go_simp) (by go_simp)
  obtain ⟨cw14, fw14⟩ := kc hb (w.heap.size) 4 0 (by go_simp) (by go_simp)
  obtain ⟨cw15, fw15⟩ := kc hb (w.heap.size + 1) 0 d1 (by go_simp) (by go_simp)
  obtain ⟨cw16, fw16⟩ := kc hb (w.heap.size + 2) 0 28 (by go_simp) (by go_simp)
  obtain ⟨cw17, fw17⟩ := kc hb (w.heap.size + 2) 1 0 (by go_simp) (by go_simp)
  obtain ⟨cw18, fw18⟩ := kc hb (w.heap.size + 2) 2 0 (by go_simp) (by go_simp)
  obtain ⟨cw19, fw19⟩ := kc hb (w.heap.size + 2) 3 0 (by go_simp) (by go_simp)
  obtain ⟨cw110, fw110⟩ := kc hb (w.heap.size + 2) 4 0 (by go_simp) (by go_simp)
  have HB := Aside0.mk (below_step (by repeat (first | with_reducible exact Below.refl _ _ | with_reducible refine Below.setCell ?_ (by first | omega | (simp <;> omega)) _ | with_reducible refine Below.alloc ?_ (by first | omega | (simp <;> omega)) _)) hb : Below w.heap.size w w1)
  clear hb
  go_wp2_with fail
  refine (next_any d1 _ _ _ hp2 hd2 _ ?hm _ ?hc ?hf).mono ?_
  (case hm => decide)
  (case hc => first | with_reducible assumption | go_simp)
  (case hf => first | with_reducible assumption | go_simp)
  rintro e w2 ⟨rfl, rfl⟩
  go_wp2_with fail
  refine (next_any d2 _ _ _ hp3 hd3 _ ?hm _ ?hc ?hf).mono ?_
  (case hm => decide)
  (case hc => first | with_reducible assumption | go_simp)
  (case hf => first | with_reducible assumption | go_simp)
  rintro e w2 ⟨rfl, rfl⟩
  go_wp2_with fail
  refine end39 28 p2 p3 0 0 ?hp ?hd ?c0 ?c1 ?c2 ?c3 ?c4 ?hv ?hb
  case hp => rfl
  case hd => rfl
  case hv => rw [insD_28]; simp only [hd1.out, hp2.out, hd2.out, hp3.out]
  case c0 => go_simp
  case c1 => go_simp
  case c2 => go_simp
  case c3 => go_simp
  case c4 => go_simp
  case hb => repeat (first | with_reducible exact HB.out | with_reducible exact Below.refl _ _ | with_reducible refine Below.setCell ?_ (by first | omega | (simp <;> omega)) _ | with_reducible refine Below.alloc ?_ (by first | omega | (simp <;> omega)) _)
theorem insD_29 (n : Int) : instrD 29 n = (29, (pickN (nextN n 37) 8), (pickN (nextN (nextN n 37) 8) 8), 0, 0) := by
  simp [instrD, show formOf 29 = 3 by decide +kernel, hasA, hasB, hasC]
set_option maxRecDepth 100000 in
set_option maxHeartbeats 4000000 in
theorem ins_29 (n : Int) (w : World) (hp1 : Hid (pickN n 37 = 28)) : Calls Tryd.prog 39 #[.int .i64 n] w fun e w' => e = .returned (insV (instrD 29 n)) ∧ Below w.heap.size w w' := by
  obtain ⟨d1, hd1⟩ : ∃ d, Hid (nextN n 37 = d) := ⟨_, rfl⟩
  obtain ⟨d2, hd2⟩ : ∃ d, Hid (nextN d1 8 = d) := ⟨_, rfl⟩
  obtain ⟨p2, hp2⟩ : ∃ p, Hid (pickN d1 8 = p) := ⟨_, rfl⟩
  obtain ⟨d3, hd3⟩ : ∃ d, Hid (nextN d2 8 = d) := ⟨_, rfl⟩
  obtain ⟨p3, hp3⟩ : ∃ p, Hid (pickN d2 8 = p) := ⟨_, rfl⟩
  go_enter Tryd.func39, Tryd.ntmps39
  go_wp2_with fail
  refine (next_any n _ _ _ hp1 hd1 _ ?hm _ ?hc ?hf).mono ?_
  (case hm => decide)
  (case hc => first | with_reducible assumption | go_simp)
  (case hf => first | with_reducible assumption | go_simp)
  rintro e w2 ⟨rfl, rfl⟩
  go_wp2_with fail
  refine (rinfo29 _).mono ?_
  rintro e w1 ⟨rfl, hb⟩
  have hz : w.heap.size + 2 < w1.heap.size := by have := hb.size; simp at this; omega
  have hz0 : w.heap.size < w1.heap.size := by omega
  have hz1 : w.heap.size + 1 < w1.heap.size := by omega
  obtain ⟨cw10, fw10⟩ := kc hb (w.heap.size) 0 0 (by go_simp) (by go_simp)
  obtain ⟨cw11, fw11⟩ := kc hb (w.heap.size) 1 0 (by go_simp) (by go_simp)
  obtain ⟨cw12, fw12⟩ := kc hb (w.heap.size) 2 0 (by go_simp) (by go_simp)
  obtain ⟨cw13, fw13⟩ := kc hb (w.heap.size) 3 0 (by go_simp) (by go_simp)
  obtain ⟨cw14, fw14⟩ := kc hb (w.heap.size) 4 0 (by go_simp) (by go_simp)
  obtain ⟨cw15, fw15⟩ := kc hb (w.heap.size + 1) 0 d1 (by go_simp) (by go_simp)
  obtain ⟨cw16, fw16⟩ := kc hb (w.heap.size + 2) 0 29 (by go_simp) (by go_simp)
  obtain ⟨cw17, fw17⟩ := kc hb (w.heap.size + 2) 1 0 (by go_simp) (by go_simp)
  obtain ⟨cw18, fw18⟩ := kc hb (w.heap.size + 2) 2 0 (by go_simp) (by go_simp)
  obtain ⟨cw19, fw19⟩ := kc hb (w.heap.size + 2) 3 0 (by go_simp) (by go_simp)
  obtain ⟨cw110, fw110⟩ := kc hb (w.heap.size + 2) 4 0 (by go_simp) (by go_simp)
  have HB := Aside0.mk (below_step (by repeat (first | with_reducible exact Below.refl _ _ | with_reducible refine Below.setCell ?_ (by first | omega | (simp <;> omega)) _ | with_reducible refine Below.alloc ?_ (by first | omega | (simp <;> omega)) _)) hb : Below w.heap.size w w1)
  clear hb
  go_wp2_with fail
  refine (next_any d1 _ _ _ hp2 hd2 _ ?hm _ ?hc ?hf).mono ?_
  (case hm => decide)
  (case hc => first | with_reducible assumption | go_simp)
  (case hf => first | with_reducible assumption | go_simp)
  rintro e w2 ⟨rfl, rfl⟩
  go_wp2_with fail
  refine (next_any d2 _ _ _ hp3 hd3 _ ?hm _ ?hc ?hf).mono ?_
  (case hm => decide)
  (case hc => first | with_reducible assumption | go_simp)
  (case hf => first | with_reducible assumption | go_simp)
  rintro e w2 ⟨rfl, rfl⟩
  go_wp2_with fail
  refine end39 29 p2 p3 0 0 ?hp ?hd ?c0 ?c1 ?c2 ?c3 ?c4 ?hv ?hb
  case hp => rfl
  case hd => rfl
  case hv => rw [insD_29]; simp only [hd1.out, hp2.out, hd2.out, hp3.out]
  case c0 => go_simp
  case c1 => go_simp
  case c2 => go_simp
  case c3 => go_simp
  case c4 => go_simp
  case hb => repeat (first | with_reducible exact HB.out | with_reducible exact Below.refl _ _ | with_reducible refine Below.setCell ?_ (by first | omega | (simp <;> omega)) _ | with_reducible refine Below.alloc ?_ (by first | omega | (simp <;> omega)) _)
theorem insD_30 (n : Int) : instrD 30 n = (30, (pickN (nextN n 37) 8), (pickN (nextN (nextN n 37) 8) 8), 0, 0) := by
  simp [instrD, show formOf 30 = 3 by decide +kernel, hasA, hasB, hasC]
set_option maxRecDepth 100000 in
set_option maxHeartbeats 4000000 in
theorem ins_30 (n : Int) (w : World) (hp1 : Hid (pickN n 37 = 29)) : Calls Tryd.prog 39 #[.int .i64 n] w fun e w' => e = .returned (insV (instrD 30 n)) ∧ Below w.heap.size w w' := by
  obtain ⟨d1, hd1⟩ : ∃ d, Hid (nextN n 37 = d) := ⟨_, rfl⟩
  obtain ⟨d2, hd2⟩ : ∃ d, Hid (nextN d1 8 = d) := ⟨_, rfl⟩
  obtain ⟨p2, hp2⟩ : ∃ p, Hid (pickN d1 8 = p) := ⟨_, rfl⟩
  obtain ⟨d3, hd3⟩ : ∃ d, Hid (nextN d2 8 = d) := ⟨_, rfl⟩
  obtain ⟨p3, hp3⟩ : ∃ p, Hid (pickN d2 8 = p) := ⟨_, rfl⟩
  go_enter Tryd.func39, Tryd.ntmps39
  go_wp2_with fail
  refine (next_any n _ _ _ hp1 hd1 _ ?hm _ ?hc ?hf).mono ?_
  (case hm => decide)
  (case hc => first | with_reducible assumption | go_simp)
  (case hf => first | with_reducible assumption | go_simp)
  rintro e w2 ⟨rfl, rfl⟩
  go_wp2_with fail
  refine (rinfo30 _).mono ?_
  rintro e w1 ⟨rfl, hb⟩
  have hz : w.heap.size + 2 < w1.heap.size := by have := hb.size; simp at this; omega
  have hz0 : w.heap.size < w1.heap.size := by omega
  have hz1 : w.heap.size + 1 < w1.heap.size := by omega
  obtain ⟨cw10, fw10⟩ := kc hb (w.heap.size) 0 0 (by go_simp) (by go_simp)
  obtain ⟨cw11, fw11⟩ := kc hb (w.heap.size) 1 0 (by go_simp) (by go_simp)
  obtain ⟨cw12, fw12⟩ := kc hb (w.heap.size) 2 0 (by go_simp) (by go_simp)
  obtain ⟨cw13, fw13⟩ := kc hb (w.heap.size) 3 0 (by go_simp) (by go_simp)
  obtain ⟨cw14, fw14⟩ := kc hb (w.heap.size) 4 0 (by go_simp) (by go_simp)
  obtain ⟨cw15, fw15⟩ := kc hb (w.heap.size + 1) 0 d1 (by go_simp) (by go_simp)
  obtain ⟨cw16, fw16⟩ := kc hb (w.heap.size + 2) 0 30 (by go_simp) (by go_simp)
  obtain ⟨cw17, fw17⟩ := kc hb (w.heap.size + 2) 1 0 (by go_simp) (by go_simp)
  obtain ⟨cw18, fw18⟩ := kc hb (w.heap.size + 2) 2 0 (by go_simp) (by go_simp)
  obtain ⟨cw19, fw19⟩ := kc hb (w.heap.size + 2) 3 0 (by go_simp) (by go_simp)
  obtain ⟨cw110, fw110⟩ := kc hb (w.heap.size + 2) 4 0 (by go_simp) (by go_simp)
  have HB := Aside0.mk (below_step (by repeat (first | with_reducible exact Below.refl _ _ | with_reducible refine Below.setCell ?_ (by first | omega | (simp <;> omega)) _ | with_reducible refine Below.alloc ?_ (by first | omega | (simp <;> omega)) _)) hb : Below w.heap.size w w1)
  clear hb
  go_wp2_with fail
  refine (next_any d1 _ _ _ hp2 hd2 _ ?hm _ ?hc ?hf).mono ?_
  (case hm => decide)
  (case hc => first | with_reducible assumption | go_simp)
  (case hf => first | with_reducible assumption | go_simp)
  rintro e w2 ⟨rfl, rfl⟩
  go_wp2_with fail
  refine (next_any d2 _ _ _ hp3 hd3 _ ?hm _ ?hc ?hf).mono ?_
  (case hm => decide)
  (case hc => first | with_reducible assumption | go_simp)
  (case hf => first | with_reducible assumption | go_simp)
  rintro e w2 ⟨rfl, rfl⟩
  go_wp2_with fail
  refine end39 30 p2 p3 0 0 ?hp ?hd ?c0 ?c1 ?c2 ?c3 ?c4 ?hv ?hb
  case hp => rfl
  case hd => rfl
  case hv => rw [insD_30]; simp only [hd1.out, hp2.out, hd2.out, hp3.out]
  case c0 => go_simp
  case c1 => go_simp
  case c2 => go_simp
  case c3 => go_simp
  case c4 => go_simp
  case hb => repeat (first | with_reducible exact HB.out | with_reducible exact Below.refl _ _ | with_reducible refine Below.setCell ?_ (by first | omega | (simp <;> omega)) _ | with_reducible refine Below.alloc ?_ (by first | omega | (simp <;> omega)) _)
theorem insD_31 (n : Int) : instrD 31 n = (31, (pickN (nextN n 37) 8), (pickN (nextN (nextN n 37) 8) 8), 0, 0) := by
  simp [instrD, show formOf 31 = 3 by decide +kernel, hasA, hasB, hasC]
set_option maxRecDepth 100000 in
set_option maxHeartbeats 4000000 in
theorem ins_31 (n : Int) (w : World) (hp1 : Hid (pickN n 37 = 30)) : Calls Tryd.prog 39 #[.int .i64 n] w fun e w' => e = .returned (insV (instrD 31 n)) ∧ Below w.heap.size w w' := by
  obtain ⟨d1, hd1⟩ : ∃ d, Hid (nextN n 37 = d) := ⟨_, rfl⟩
  obtain ⟨d2, hd2⟩ : ∃ d, Hid (nextN d1 8 = d) := ⟨_, rfl⟩
  obtain ⟨p2, hp2⟩ : ∃ p, Hid (pickN d1 8 = p) := ⟨_, rfl⟩
  obtain ⟨d3, hd3⟩ : ∃ d, Hid (nextN d2 8 = d) := ⟨_, rfl⟩
  obtain ⟨p3, hp3⟩ : ∃ p, Hid (pickN d2 8 = p) := ⟨_, rfl⟩
  go_enter Tryd.func39, Tryd.ntmps39
  go_wp2_with fail
  refine (next_any n _ _ _ hp1 hd1 _ ?hm _ ?hc ?hf).mono ?_
  (case hm => decide)
  (case hc => first | with_reducible assumption | go_simp)
  (case hf => first | with_reducible assumption | go_simp)
  rintro e w2 ⟨rfl, rfl⟩
  go_wp2_with fail
  refine (rinfo31 _).mono ?_
  rintro e w1 ⟨rfl, hb⟩
  have hz : w.heap.size + 2 < w1.heap.size := by have := hb.size; simp at this; omega
  have hz0 : w.heap.size < w1.heap.size := by omega
  have hz1 : w.heap.size + 1 < w1.heap.size := by omega
  obtain ⟨cw10, fw10⟩ := kc hb (w.heap.size) 0 0 (by go_simp) (by go_simp)
  obtain ⟨cw11, fw11⟩ := kc hb (w.heap.size) 1 0 (by go_simp) (by go_simp)
  obtain ⟨cw12, fw12⟩ := kc hb (w.heap.size) 2 0 (by go_simp) (by go_simp)
  obtain ⟨cw13, fw13⟩ := kc hb (w.heap.size) 3 0 (by go_simp) (by go_simp)
  obtain ⟨cw14, fw14⟩ := kc hb (w.heap.size) 4 0 (by go_simp) (by go_simp)
  obtain ⟨cw15, fw15⟩ := kc hb (w.heap.size + 1) 0 d1 (by go_simp) (by go_simp)
  obtain ⟨cw16, fw16⟩ := kc hb (w.heap.size + 2) 0 31 (by go_simp) (by go_simp)
  obtain ⟨cw17, fw17⟩ := kc hb (w.heap.size + 2) 1 0 (by go_simp) (by go_simp)
  obtain ⟨cw18, fw18⟩ := kc hb (w.heap.size + 2) 2 0 (by go_simp) (by go_simp)
  obtain ⟨cw19, fw19⟩ := kc hb (w.heap.size + 2) 3 0 (by go_simp) (by go_simp)
  obtain ⟨cw110, fw110⟩ := kc hb (w.heap.size + 2) 4 0 (by go_simp) (by go_simp)
  have HB := Aside0.mk (below_step (by repeat (first | with_reducible exact Below.refl _ _ | with_reducible refine Below.setCell ?_ (by first | omega | (simp <;> omega)) _ | with_reducible refine Below.alloc ?_ (by first | omega | (simp <;> omega)) _)) hb : Below w.heap.size w w1)
  clear hb
  go_wp2_with fail
  refine (next_any d1 _ _ _ hp2 hd2 _ ?hm _ ?hc ?hf).mono ?_
  (case hm => decide)
  (case hc => first | with_reducible assumption | go_simp)
  (case hf => first | with_reducible assumption | go_simp)
  rintro e w2 ⟨rfl, rfl⟩
  go_wp2_with fail
  refine (next_any d2 _ _ _ hp3 hd3 _ ?hm _ ?hc ?hf).mono ?_
  (case hm => decide)
  (case hc => first | with_reducible assumption | go_simp)
  (case hf => first | with_reducible assumption | go_simp)
  rintro e w2 ⟨rfl, rfl⟩
  go_wp2_with fail
  refine end39 31 p2 p3 0 0 ?hp ?hd ?c0 ?c1 ?c2 ?c3 ?c4 ?hv ?hb
  case hp => rfl
  case hd => rfl
  case hv => rw [insD_31]; simp only [hd1.out, hp2.out, hd2.out, hp3.out]
  case c0 => go_simp
  case c1 => go_simp
  case c2 => go_simp
  case c3 => go_simp
  case c4 => go_simp
  case hb => repeat (first | with_reducible exact HB.out | with_reducible exact Below.refl _ _ | with_reducible refine Below.setCell ?_ (by first | omega | (simp <;> omega)) _ | with_reducible refine Below.alloc ?_ (by first | omega | (simp <;> omega)) _)
theorem insD_32 (n : Int) : instrD 32 n = (32, (pickN (nextN n 37) 8), (pickN (nextN (nextN n 37) 8) 8), 0, 0) := by
  simp [instrD, show formOf 32 = 3 by decide +kernel, hasA, hasB, hasC]
set_option maxRecDepth 100000 in
set_option maxHeartbeats 4000000 in
theorem ins_32 (n : Int) (w : World) (hp1 : Hid (pickN n 37 = 31)) : Calls Tryd.prog 39 #[.int .i64 n] w fun e w' => e = .returned (insV (instrD 32 n)) ∧ Below w.heap.size w w' := by
  obtain ⟨d1, hd1⟩ : ∃ d, Hid (nextN n 37 = d) := ⟨_, rfl⟩
  obtain ⟨d2, hd2⟩ : ∃ d, Hid (nextN d1 8 = d) := ⟨_, rfl⟩
  obtain ⟨p2, hp2⟩ : ∃ p, Hid (pickN d1 8 = p) := ⟨_, rfl⟩
  obtain ⟨d3, hd3⟩ : ∃ d, Hid (nextN d2 8 = d) := ⟨_, rfl⟩
  obtain ⟨p3, hp3⟩ : ∃ p, Hid (pickN d2 8 = p) := ⟨_, rfl⟩
  go_enter Tryd.func39, Tryd.ntmps39
  go_wp2_with fail
  refine (next_any n _ _ _ hp1 hd1 _ ?hm _ ?hc ?hf).mono ?_
  (case hm => decide)
  (case hc => first | with_reducible assumption | go_simp)
  (case hf => first | with_reducible assumption | go_simp)
  rintro e w2 ⟨rfl, rfl⟩
  go_wp2_with fail
  refine (rinfo32 _).mono ?_
  rintro e w1 ⟨rfl, hb⟩
  have hz : w.heap.size + 2 < w1.heap.size := by have := hb.size; simp at this; omega
  have hz0 : w.heap.size < w1.heap.size := by omega
  have hz1 : w.heap.size + 1 < w1.heap.size := by omega
  obtain ⟨cw10, fw10⟩ := kc hb (w.heap.size) 0 0 (by go_simp) (by go_simp)
  obtain ⟨cw11, fw11⟩ := kc hb (w.heap.size) 1 0 (by go_simp) (by go_simp)
  obtain ⟨cw12, fw12⟩ := kc hb (w.heap.size) 2 0 (by go_simp) (by go_simp)
  obtain ⟨cw13, fw13⟩ := kc hb (w.heap.size) 3 0 (by go_simp) (by go_simp)
  obtain ⟨cw14, fw14⟩ := kc hb (w.heap.size) 4 0 (by go_simp) (by go_simp)
  obtain ⟨cw15, fw15⟩ := kc hb (w.heap.size + 1) 0 d1 (by go_simp) (by go_simp)
  obtain ⟨cw16, fw16⟩ := kc hb (w.heap.size + 2) 0 32 (by go_simp) (by go_simp)
  obtain ⟨cw17, fw17⟩ := kc hb (w.heap.size + 2) 1 0 (by go_simp) (by go_simp)
  obtain ⟨cw18, fw18⟩ := kc hb (w.heap.size + 2) 2 0 (by go_simp) (by go_simp)
  obtain ⟨cw19, fw19⟩ := kc hb (w.heap.size + 2) 3 0 (by go_simp) (by go_simp)
  obtain ⟨cw110, fw110⟩ := kc hb (w.heap.size + 2) 4 0 (by go_simp) (by go_simp)
  have HB := Aside0.mk (below_step (by repeat (first | with_reducible exact Below.refl _ _ | with_reducible refine Below.setCell ?_ (by first | omega | (simp <;> omega)) _ | with_reducible refine Below.alloc ?_ (by first | omega | (simp <;> omega)) _)) hb : Below w.heap.size w w1)
  clear hb
  go_wp2_with fail
  refine (next_any d1 _ _ _ hp2 hd2 _ ?hm _ ?hc ?hf).mono ?_
  (case hm => decide)
  (case hc => first | with_reducible assumption | go_simp)
  (case hf => first | with_reducible assumption | go_simp)
  rintro e w2 ⟨rfl, rfl⟩
  go_wp2_with fail
  refine (next_any d2 _ _ _ hp3 hd3 _ ?hm _ ?hc ?hf).mono ?_
  (case hm => decide)
  (case hc => first | with_reducible assumption | go_simp)
  (case hf => first | with_reducible assumption | go_simp)
  rintro e w2 ⟨rfl, rfl⟩
  go_wp2_with fail
  refine end39 32 p2 p3 0 0 ?hp ?hd ?c0 ?c1 ?c2 ?c3 ?c4 ?hv ?hb
  case hp => rfl
  case hd => rfl
  case hv => rw [insD_32]; simp only [hd1.out, hp2.out, hd2.out, hp3.out]
  case c0 => go_simp
  case c1 => go_simp
  case c2 => go_simp
  case c3 => go_simp
  case c4 => go_simp
  case hb => repeat (first | with_reducible exact HB.out | with_reducible exact Below.refl _ _ | with_reducible refine Below.setCell ?_ (by first | omega | (simp <;> omega)) _ | with_reducible refine Below.alloc ?_ (by first | omega | (simp <;> omega)) _)
theorem insD_33 (n : Int) : instrD 33 n = (33, (pickN (nextN n 37) 8), 0, 0, (wrap64 ((pickN (nextN (nextN n 37) 8) 15) - 6))) := by
  simp [instrD, show formOf 33 = 5 by decide +kernel, hasA, hasB, hasC]
set_option maxRecDepth 100000 in
set_option maxHeartbeats 4000000 in
theorem ins_33 (n : Int) (w : World) (hp1 : Hid (pickN n 37 = 32)) : Calls Tryd.prog 39 #[.int .i64 n] w fun e w' => e = .returned (insV (instrD 33 n)) ∧ Below w.heap.size w w' := by
  obtain ⟨d1, hd1⟩ : ∃ d, Hid (nextN n 37 = d) := ⟨_, rfl⟩
  obtain ⟨d2, hd2⟩ : ∃ d, Hid (nextN d1 8 = d) := ⟨_, rfl⟩
  obtain ⟨p2, hp2⟩ : ∃ p, Hid (pickN d1 8 = p) := ⟨_, rfl⟩
  obtain ⟨d3, hd3⟩ : ∃ d, Hid (nextN d2 15 = d) := ⟨_, rfl⟩
  obtain ⟨p3, hp3⟩ : ∃ p, Hid (pickN d2 15 = p) := ⟨_, rfl⟩
  go_enter Tryd.func39, Tryd.ntmps39
  go_wp2_with fail
  refine (next_any n _ _ _ hp1 hd1 _ ?hm _ ?hc ?hf).mono ?_
  (case hm => decide)
  (case hc => first | with_reducible assumption | go_simp)
  (case hf => first | with_reducible assumption | go_simp)
  rintro e w2 ⟨rfl, rfl⟩
  go_wp2_with fail
  refine (rinfo33 _).mono ?_
  rintro e w1 ⟨rfl, hb⟩
  have hz : w.heap.size + 2 < w1.heap.size := by have := hb.size; simp at this; omega
  have hz0 : w.heap.size < w1.heap.size := by omega
  have hz1 : w.heap.size + 1 < w1.heap.size := by omega
  obtain ⟨cw10, fw10⟩ := kc hb (w.heap.size) 0 0 (by go_simp) (by go_simp)
  obtain ⟨cw11, fw11⟩ := kc hb (w.heap.size) 1 0 (by go_simp) (by go_simp)
  obtain ⟨cw12, fw12⟩ := kc hb (w.heap.size) 2 0 (by go_simp) (by go_simp)
  obtain ⟨cw13, fw13⟩ := kc hb (w.heap.size) 3 0 (by go_simp) (by go_simp)
  obtain ⟨cw14, fw14⟩ := kc hb (w.heap.size) 4 0 (by go_simp) (by go_simp)
  obtain ⟨cw15, fw15⟩ := kc hb (w.heap.size + 1) 0 d1 (by go_simp) (by go_simp)
  obtain ⟨cw16, fw16⟩ := kc hb (w.heap.size + 2) 0 33 (by go_simp) (by go_simp)
  obtain ⟨cw17, fw17⟩ := kc hb (w.heap.size + 2) 1 0 (by go_simp) (by go_simp)
  obtain ⟨cw18, fw18⟩ := kc hb (w.heap.size + 2) 2 0 (by go_simp) (by go_simp)
  obtain ⟨cw19, fw19⟩ := kc hb (w.heap.size + 2) 3 0 (by go_simp) (by go_simp)
  obtain ⟨cw110, fw110⟩ := kc hb (w.heap.size + 2) 4 0 (by go_simp) (by go_simp)
  have HB := Aside0.mk (below_step (by repeat (first | with_reducible exact Below.refl _ _ | with_reducible refine Below.setCell ?_ (by first | omega | (simp <;> omega)) _ | with_reducible refine Below.alloc ?_ (by first | omega | (simp <;> omega)) _)) hb : Below w.heap.size w w1)
  clear hb
  go_wp2_with fail
  refine (next_any d1 _ _ _ hp2 hd2 _ ?hm _ ?hc ?hf).mono ?_
  (case hm => decide)
  (case hc => first | with_reducible assumption | go_simp)
  (case hf => first | with_reducible assumption | go_simp)
  rintro e w2 ⟨rfl, rfl⟩
  go_wp2_with fail
  refine (next_any d2 _ _ _ hp3 hd3 _ ?hm _ ?hc ?hf).mono ?_
  (case hm => decide)
  (case hc => first | with_reducible assumption | go_simp)
  (case hf => first | with_reducible assumption | go_simp)
  rintro e w2 ⟨rfl, rfl⟩
  go_wp2_with fail
  refine end39 33 p2 0 0 (wrap64 (p3 - 6)) ?hp ?hd ?c0 ?c1 ?c2 ?c3 ?c4 ?hv ?hb
  case hp => rfl
  case hd => rfl
  case hv => rw [insD_33]; simp only [hd1.out, hp2.out, hd2.out, hp3.out]
  case c0 => go_simp
  case c1 => go_simp
  case c2 => go_simp
  case c3 => go_simp
  case c4 => go_simp
  case hb => repeat (first | with_reducible exact HB.out | with_reducible exact Below.refl _ _ | with_reducible refine Below.setCell ?_ (by first | omega | (simp <;> omega)) _ | with_reducible refine Below.alloc ?_ (by first | omega | (simp <;> omega)) _)
theorem insD_34 (n : Int) : instrD 34 n = (34, (pickN (nextN n 37) 8), (pickN (nextN (nextN n 37) 8) 8), 0, (pickN (nextN (nextN (nextN n 37) 8) 8) 2)) := by
  simp [instrD, show formOf 34 = 7 by decide +kernel, hasA, hasB, hasC]
set_option maxRecDepth 100000 in
set_option maxHeartbeats 4000000 in
theorem ins_34 (n : Int) (w : World) (hp1 : Hid (pickN n 37 = 33)) : Calls Tryd.prog 39 #[.int .i64 n] w fun e w' => e = .returned (insV (instrD 34 n)) ∧ Below w.heap.size w w' := by
  obtain ⟨d1, hd1⟩ : ∃ d, Hid (nextN n 37 = d) := ⟨_, rfl⟩
  obtain ⟨d2, hd2⟩ : ∃ d, Hid (nextN d1 8 = d) := ⟨_, rfl⟩
  obtain ⟨p2, hp2⟩ : ∃ p, Hid (pickN d1 8 = p) := ⟨_, rfl⟩
  obtain ⟨d3, hd3⟩ : ∃ d, Hid (nextN d2 8 = d) := ⟨_, rfl⟩
  obtain ⟨p3, hp3⟩ : ∃ p, Hid (pickN d2 8 = p) := ⟨_, rfl⟩
  obtain ⟨d4, hd4⟩ : ∃ d, Hid (nextN d3 2 = d) := ⟨_, rfl⟩
  obtain ⟨p4, hp4⟩ : ∃ p, Hid (pickN d3 2 = p) := ⟨_, rfl⟩
  go_enter Tryd.func39, Tryd.ntmps39
  go_wp2_with fail
  refine (next_any n _ _ _ hp1 hd1 _ ?hm _ ?hc ?hf).mono ?_
  (case hm => decide)
  (case hc => first | with_reducible assumption | go_simp)
  (case hf => first | with_reducible assumption | go_simp)
  rintro e w2 ⟨rfl, rfl⟩
  go_wp2_with fail
  refine (rinfo34 _).mono ?_
  rintro e w1 ⟨rfl, hb⟩
  have hz : w.heap.size + 2 < w1.heap.size := by have := hb.size; simp at this; omega
  have hz0 : w.heap.size < w1.heap.size := by omega
  have hz1 : w.heap.size + 1 < w1.heap.size := by omega
  obtain ⟨cw10, fw10⟩ := kc hb (w.heap.size) 0 0 (by go_simp) (by go_simp)
  obtain ⟨cw11, fw11⟩ := kc hb (w.heap.size) 1 0 (by go_simp) (by go_simp)
  obtain ⟨cw12, fw12⟩ := kc hb (w.heap.size) 2 0 (by go_simp) (by go_simp)
  obtain ⟨cw13, fw13⟩ := kc hb (w.heap.size) 3 0 (by go_simp) (by go_simp)
  obtain ⟨cw14, fw14⟩ := kc hb (w.heap.size) 4 0 (by go_simp) (by go_simp)
  obtain ⟨cw15, fw15⟩ := kc hb (w.heap.size + 1) 0 d1 (by go_simp) (by go_simp)
  obtain ⟨cw16, fw16⟩ := kc hb (w.heap.size + 2) 0 34 (by go_simp) (by go_simp)
  obtain ⟨cw17, fw17⟩ := kc hb (w.heap.size + 2) 1 0 (by go_simp) (by go_simp)
  obtain ⟨cw18, fw18⟩ := kc hb (w.heap.size + 2) 2 0 (by go_simp) (by go_simp)
  obtain ⟨cw19, fw19⟩ := kc hb (w.heap.size + 2) 3 0 (by go_simp) (by go_simp)
  obtain ⟨cw110, fw110⟩ := kc hb (w.heap.size + 2) 4 0 (by go_simp) (by go_simp)
  have HB := Aside0.mk (below_step (by repeat (first | with_reducible exact Below.refl _ _ | with_reducible refine Below.setCell ?_ (by first | omega | (simp <;> omega)) _ | with_reducible refine Below.alloc ?_ (by first | omega | (simp <;> omega)) _)) hb : Below w.heap.size w w1)
  clear hb
  go_wp2_with fail
  refine (next_any d1 _ _ _ hp2 hd2 _ ?hm _ ?hc ?hf).mono ?_
  (case hm => decide)
  (case hc => first | with_reducible assumption | go_simp)
  (case hf => first | with_reducible assumption | go_simp)
  rintro e w2 ⟨rfl, rfl⟩
  go_wp2_with fail
  refine (next_any d2 _ _ _ hp3 hd3 _ ?hm _ ?hc ?hf).mono ?_
  (case hm => decide)
  (case hc => first | with_reducible assumption | go_simp)
  (case hf => first | with_reducible assumption | go_simp)
  rintro e w2 ⟨rfl, rfl⟩
  go_wp2_with fail
  refine (next_any d3 _ _ _ hp4 hd4 _ ?hm _ ?hc ?hf).mono ?_
  (case hm => decide)
  (case hc => first | with_reducible assumption | go_simp)
  (case hf => first | with_reducible assumption | go_simp)
  rintro e w2 ⟨rfl, rfl⟩
  go_wp2_with fail
  refine end39 34 p2 p3 0 p4 ?hp ?hd ?c0 ?c1 ?c2 ?c3 ?c4 ?hv ?hb
  case hp => rfl
  case hd => rfl
  case hv => rw [insD_34]; simp only [hd1.out, hp2.out, hd2.out, hp3.out, hd3.out, hp4.out]
  case c0 => go_simp
  case c1 => go_simp
  case c2 => go_simp
  case c3 => go_simp
  case c4 => go_simp
  case hb => repeat (first | with_reducible exact HB.out | with_reducible exact Below.refl _ _ | with_reducible refine Below.setCell ?_ (by first | omega | (simp <;> omega)) _ | with_reducible refine Below.alloc ?_ (by first | omega | (simp <;> omega)) _)
theorem insD_35 (n : Int) : instrD 35 n = (35, (pickN (nextN n 37) 8), (pickN (nextN (nextN n 37) 8) 8), 0, (pickN (nextN (nextN (nextN n 37) 8) 8) 2)) := by
  simp [instrD, show formOf 35 = 7 by decide +kernel, hasA, hasB, hasC]
set_option maxRecDepth 100000 in
set_option maxHeartbeats 4000000 in
theorem ins_35 (n : Int) (w : World) (hp1 : Hid (pickN n 37 = 34)) : Calls Tryd.prog 39 #[.int .i64 n] w fun e w' => e = .returned (insV (instrD 35 n)) ∧ Below w.heap.size w w' := by
  obtain ⟨d1, hd1⟩ : ∃ d, Hid (nextN n 37 = d) := ⟨_, rfl⟩
  obtain ⟨d2, hd2⟩ : ∃ d, Hid (nextN d1 8 = d) := ⟨_, rfl⟩
  obtain ⟨p2, hp2⟩ : ∃ p, Hid (pickN d1 8 = p) := ⟨_, rfl⟩
  obtain ⟨d3, hd3⟩ : ∃ d, Hid (nextN d2 8 = d) := ⟨_, rfl⟩
  obtain ⟨p3, hp3⟩ : ∃ p, Hid (pickN d2 8 = p) := ⟨_, rfl⟩
  obtain ⟨d4, hd4⟩ : ∃ d, Hid (nextN d3 2 = d) := ⟨_, rfl⟩
  obtain ⟨p4, hp4⟩ : ∃ p, Hid (pickN d3 2 = p) := ⟨_, rfl⟩
  go_enter Tryd.func39, Tryd.ntmps39
  go_wp2_with fail
  refine (next_any n _ _ _ hp1 hd1 _ ?hm _ ?hc ?hf).mono ?_
  (case hm => decide)
  (case hc => first | with_reducible assumption | go_simp)
  (case hf => first | with_reducible assumption | go_simp)
  rintro e w2 ⟨rfl, rfl⟩
  go_wp2_with fail
  refine (rinfo35 _).mono ?_
  rintro e w1 ⟨rfl, hb⟩
  have hz : w.heap.size + 2 < w1.heap.size := by have := hb.size; simp at this; omega
  have hz0 : w.heap.size < w1.heap.size := by omega
  have hz1 : w.heap.size + 1 < w1.heap.size := by omega
  obtain ⟨cw10, fw10⟩ := kc hb (w.heap.size) 0 0 (by go_simp) (by go_simp)
  obtain ⟨cw11, fw11⟩ := kc hb (w.heap.size) 1 0 (by go_simp) (by go_simp)
  obtain ⟨cw12, fw12⟩ := kc hb (w.heap.size) 2 0 (by go_simp) (by go_simp)
  obtain ⟨cw13, fw13⟩ := kc hb (w.heap.size) 3 0 (by go_simp) (by go_simp)
  obtain ⟨cw14, fw14⟩ := kc hb (w.heap.size) 4 0 (by go_simp) (by go_simp)
  obtain ⟨cw15, fw15⟩ := kc hb (w.heap.size + 1) 0 d1 (by go_simp) (by go_simp)
  obtain ⟨cw16, fw16⟩ := kc hb (w.heap.size + 2) 0 35 (by go_simp) (by go_simp)
  obtain ⟨cw17, fw17⟩ := kc hb (w.heap.size + 2) 1 0 (by go_simp) (by go_simp)
  obtain ⟨cw18, fw18⟩ := kc hb (w.heap.size + 2) 2 0 (by go_simp) (by go_simp)
  obtain ⟨cw19, fw19⟩ := kc hb (w.heap.size + 2) 3 0 (by go_simp) (by go_simp)
  obtain ⟨cw110, fw110⟩ := kc hb (w.heap.size + 2) 4 0 (by go_simp) (by go_simp)
  have HB := Aside0.mk (below_step (by repeat (first | with_reducible exact Below.refl _ _ | with_reducible refine Below.setCell ?_ (by first | omega | (simp <;> omega)) _ | with_reducible refine Below.alloc ?_ (by first | omega | (simp <;> omega)) _)) hb : Below w.heap.size w w1)
  clear hb
  go_wp2_with fail
  refine (next_any d1 _ _ _ hp2 hd2 _ ?hm _ ?hc ?hf).mono ?_
  (case hm => decide)
  (case hc => first | with_reducible assumption | go_simp)
  (case hf => first | with_reducible assumption | go_simp)
  rintro e w2 ⟨rfl, rfl⟩
  go_wp2_with fail
  refine (next_any d2 _ _ _ hp3 hd3 _ ?hm _ ?hc ?hf).mono ?_
  (case hm => decide)
  (case hc => first | with_reducible assumption | go_simp)
  (case hf => first | with_reducible assumption | go_simp)
  rintro e w2 ⟨rfl, rfl⟩
  go_wp2_with fail
  refine (next_any d3 _ _ _ hp4 hd4 _ ?hm _ ?hc ?hf).mono ?_
  (case hm => decide)
  (case hc => first | with_reducible assumption | go_simp)
  (case hf => first | with_reducible assumption | go_simp)
  rintro e w2 ⟨rfl, rfl⟩
  go_wp2_with fail
  refine end39 35 p2 p3 0 p4 ?hp ?hd ?c0 ?c1 ?c2 ?c3 ?c4 ?hv ?hb
  case hp => rfl
  case hd => rfl
  case hv => rw [insD_35]; simp only [hd1.out, hp2.out, hd2.out, hp3.out, hd3.out, hp4.out]
  case c0 => go_simp
  case c1 => go_simp
  case c2 => go_simp
  case c3 => go_simp
  case c4 => go_simp
  case hb => repeat (first | with_reducible exact HB.out | with_reducible exact Below.refl _ _ | with_reducible refine Below.setCell ?_ (by first | omega | (simp <;> omega)) _ | with_reducible refine Below.alloc ?_ (by first | omega | (simp <;> omega)) _)
theorem insD_36 (n : Int) : instrD 36 n = (36, (pickN (nextN n 37) 8), 0, 0, (pickN (nextN (nextN n 37) 8) 6)) := by
  simp [instrD, show formOf 36 = 5 by decide +kernel, hasA, hasB, hasC]
set_option maxRecDepth 100000 in
set_option maxHeartbeats 4000000 in
theorem ins_36 (n : Int) (w : World) (hp1 : Hid (pickN n 37 = 35)) : Calls Tryd.prog 39 #[.int .i64 n] w fun e w' => e = .returned (insV (instrD 36 n)) ∧ Below w.heap.size w w' := by
  obtain ⟨d1, hd1⟩ : ∃ d, Hid (nextN n 37 = d) := ⟨_, rfl⟩
  obtain ⟨d2, hd2⟩ : ∃ d, Hid (nextN d1 8 = d) := ⟨_, rfl⟩
  obtain ⟨p2, hp2⟩ : ∃ p, Hid (pickN d1 8 = p) := ⟨_, rfl⟩
  obtain ⟨d3, hd3⟩ : ∃ d, Hid (nextN d2 6 = d) := ⟨_, rfl⟩
  obtain ⟨p3, hp3⟩ : ∃ p, Hid (pickN d2 6 = p) := ⟨_, rfl⟩
  go_enter Tryd.func39, Tryd.ntmps39
  go_wp2_with fail
  refine (next_any n _ _ _ hp1 hd1 _ ?hm _ ?hc ?hf).mono ?_
  (case hm => decide)
  (case hc => first | with_reducible assumption | go_simp)
  (case hf => first | with_reducible assumption | go_simp)
  rintro e w2 ⟨rfl, rfl⟩
  go_wp2_with fail
  refine (rinfo36 _).mono ?_
  rintro e w1 ⟨rfl, hb⟩
  have hz : w.heap.size + 2 < w1.heap.size := by have := hb.size; simp at this; omega
  have hz0 : w.heap.size < w1.heap.size := by omega
  have hz1 : w.heap.size + 1 < w1.heap.size := by omega
  obtain ⟨cw10, fw10⟩ := kc hb (w.heap.size) 0 0 (by go_simp) (by go_simp)
  obtain ⟨cw11, fw11⟩ := kc hb (w.heap.size) 1 0 (by go_simp) (by go_simp)
  obtain ⟨cw12, fw12⟩ := kc hb (w.heap.size) 2 0 (by go_simp) (by go_simp)
  obtain ⟨cw13, fw13⟩ := kc hb (w.heap.size) 3 0 (by go_simp) (by go_simp)
  obtain ⟨cw14, fw14⟩ := kc hb (w.heap.size) 4 0 (by go_simp) (by go_simp)
  obtain ⟨cw15, fw15⟩ := kc hb (w.heap.size + 1) 0 d1 (by go_simp) (by go_simp)
  obtain ⟨cw16, fw16⟩ := kc hb (w.heap.size + 2) 0 36 (by go_simp) (by go_simp)
  obtain ⟨cw17, fw17⟩ := kc hb (w.heap.size + 2) 1 0 (by go_simp) (by go_simp)
  obtain ⟨cw18, fw18⟩ := kc hb (w.heap.size + 2) 2 0 (by go_simp) (by go_simp)
  obtain ⟨cw19, fw19⟩ := kc hb (w.heap.size + 2) 3 0 (by go_simp) (by go_simp)
  obtain ⟨cw110, fw110⟩ := kc hb (w.heap.size + 2) 4 0 (by go_simp) (by go_simp)
  have HB := Aside0.mk (below_step (by repeat (first | with_reducible exact Below.refl _ _ | with_reducible refine Below.setCell ?_ (by first | omega | (simp <;> omega)) _ | with_reducible refine Below.alloc ?_ (by first | omega | (simp <;> omega)) _)) hb : Below w.heap.size w w1)
  clear hb
  go_wp2_with fail
  refine (next_any d1 _ _ _ hp2 hd2 _ ?hm _ ?hc ?hf).mono ?_
  (case hm => decide)
  (case hc => first | with_reducible assumption | go_simp)
  (case hf => first | with_reducible assumption | go_simp)
  rintro e w2 ⟨rfl, rfl⟩
  go_wp2_with fail
  refine (next_any d2 _ _ _ hp3 hd3 _ ?hm _ ?hc ?hf).mono ?_
  (case hm => decide)
  (case hc => first | with_reducible assumption | go_simp)
  (case hf => first | with_reducible assumption | go_simp)
  rintro e w2 ⟨rfl, rfl⟩
  go_wp2_with fail
  refine end39 36 p2 0 0 p3 ?hp ?hd ?c0 ?c1 ?c2 ?c3 ?c4 ?hv ?hb
  case hp => rfl
  case hd => rfl
  case hv => rw [insD_36]; simp only [hd1.out, hp2.out, hd2.out, hp3.out]
  case c0 => go_simp
  case c1 => go_simp
  case c2 => go_simp
  case c3 => go_simp
  case c4 => go_simp
  case hb => repeat (first | with_reducible exact HB.out | with_reducible exact Below.refl _ _ | with_reducible refine Below.setCell ?_ (by first | omega | (simp <;> omega)) _ | with_reducible refine Below.alloc ?_ (by first | omega | (simp <;> omega)) _)
theorem insD_37 (n : Int) : instrD 37 n = (37, (pickN (nextN n 37) 8), 0, 0, (pickN (nextN (nextN n 37) 8) 6)) := by
  simp [instrD, show formOf 37 = 5 by decide +kernel, hasA, hasB, hasC]
set_option maxRecDepth 100000 in
set_option maxHeartbeats 4000000 in
theorem ins_37 (n : Int) (w : World) (hp1 : Hid (pickN n 37 = 36)) : Calls Tryd.prog 39 #[.int .i64 n] w fun e w' => e = .returned (insV (instrD 37 n)) ∧ Below w.heap.size w w' := by
  obtain ⟨d1, hd1⟩ : ∃ d, Hid (nextN n 37 = d) := ⟨_, rfl⟩
  obtain ⟨d2, hd2⟩ : ∃ d, Hid (nextN d1 8 = d) := ⟨_, rfl⟩
  obtain ⟨p2, hp2⟩ : ∃ p, Hid (pickN d1 8 = p) := ⟨_, rfl⟩
  obtain ⟨d3, hd3⟩ : ∃ d, Hid (nextN d2 6 = d) := ⟨_, rfl⟩
  obtain ⟨p3, hp3⟩ : ∃ p, Hid (pickN d2 6 = p) := ⟨_, rfl⟩
  go_enter Tryd.func39, Tryd.ntmps39
  go_wp2_with fail
  refine (next_any n _ _ _ hp1 hd1 _ ?hm _ ?hc ?hf).mono ?_
  (case hm => decide)
  (case hc => first | with_reducible assumption | go_simp)
  (case hf => first | with_reducible assumption | go_simp)
  rintro e w2 ⟨rfl, rfl⟩
  go_wp2_with fail
  refine (rinfo37 _).mono ?_
  rintro e w1 ⟨rfl, hb⟩
  have hz : w.heap.size + 2 < w1.heap.size := by have := hb.size; simp at this; omega
  have hz0 : w.heap.size < w1.heap.size := by omega
  have hz1 : w.heap.size + 1 < w1.heap.size := by omega
  obtain ⟨cw10, fw10⟩ := kc hb (w.heap.size) 0 0 (by go_simp) (by go_simp)
  obtain ⟨cw11, fw11⟩ := kc hb (w.heap.size) 1 0 (by go_simp) (by go_simp)
  obtain ⟨cw12, fw12⟩ := kc hb (w.heap.size) 2 0 (by go_simp) (by go_simp)
  obtain ⟨cw13, fw13⟩ := kc hb (w.heap.size) 3 0 (by go_simp) (by go_simp)
  obtain ⟨cw14, fw14⟩ := kc hb (w.heap.size) 4 0 (by go_simp) (by go_simp)
  obtain ⟨cw15, fw15⟩ := kc hb (w.heap.size + 1) 0 d1 (by go_simp) (by go_simp)
  obtain ⟨cw16, fw16⟩ := kc hb (w.heap.size + 2) 0 37 (by go_simp) (by go_simp)
  obtain ⟨cw17, fw17⟩ := kc hb (w.heap.size + 2) 1 0 (by go_simp) (by go_simp)
  obtain ⟨cw18, fw18⟩ := kc hb (w.heap.size + 2) 2 0 (by go_simp) (by go_simp)
  obtain ⟨cw19, fw19⟩ := kc hb (w.heap.size + 2) 3 0 (by go_simp) (by go_simp)
  obtain ⟨cw110, fw110⟩ := kc hb (w.heap.size + 2) 4 0 (by go_simp) (by go_simp)
  have HB := Aside0.mk (below_step (by repeat (first | with_reducible exact Below.refl _ _ | with_reducible refine Below.setCell ?_ (by first | omega | (simp <;> omega)) _ | with_reducible refine Below.alloc ?_ (by first | omega | (simp <;> omega)) _)) hb : Below w.heap.size w w1)
  clear hb
  go_wp2_with fail
  refine (next_any d1 _ _ _ hp2 hd2 _ ?hm _ ?hc ?hf).mono ?_
  (case hm => decide)
  (case hc => first | with_reducible assumption | go_simp)
  (case hf => first | with_reducible assumption | go_simp)
  rintro e w2 ⟨rfl, rfl⟩
  go_wp2_with fail
  refine (next_any d2 _ _ _ hp3 hd3 _ ?hm _ ?hc ?hf).mono ?_
  (case hm => decide)
  (case hc => first | with_reducible assumption | go_simp)
  (case hf => first | with_reducible assumption | go_simp)
  rintro e w2 ⟨rfl, rfl⟩
  go_wp2_with fail
  refine end39 37 p2 0 0 p3 ?hp ?hd ?c0 ?c1 ?c2 ?c3 ?c4 ?hv ?hb
  case hp => rfl
  case hd => rfl
  case hv => rw [insD_37]; simp only [hd1.out, hp2.out, hd2.out, hp3.out]
  case c0 => go_simp
  case c1 => go_simp
  case c2 => go_simp
  case c3 => go_simp
  case c4 => go_simp
  case hb => repeat (first | with_reducible exact HB.out | with_reducible exact Below.refl _ _ | with_reducible refine Below.setCell ?_ (by first | omega | (simp <;> omega)) _ | with_reducible refine Below.alloc ?_ (by first | omega | (simp <;> omega)) _)
end Go.Proofs.YtcjidibdidijaaaDoor
