/- Parts of this proof in one text: Ins0. -/
import Derived.Test.YtcjidibdidijaaaDoorQV11
import Derived.Test.YtcjidibdidijaaaDoorQV16
namespace Go.Proofs.YtcjidibdidijaaaDoor
set_option linter.unusedVariables false
set_option linter.unusedSimpArgs false
open Go.RowKit Go.Proofs.YtcjidibdidijaaaDoorW.PrintWords
theorem insD_1 (n : Int) : instrD 1 n = (1, 0, 0, 0, 0) := by
  simp [instrD, show formOf 1 = 1 by decide +kernel, hasA, hasB, hasC]
set_option maxRecDepth 100000 in
set_option maxHeartbeats 4000000 in
theorem ins_1 (n : Int) (w : World) (hp1 : Hid (pickN n 37 = 0)) : Calls Tryd.prog 39 #[.int .i64 n] w fun e w' => e = .returned (insV (instrD 1 n)) ∧ Below w.heap.size w w' := by
  obtain ⟨d1, hd1⟩ : ∃ d, Hid (nextN n 37 = d) := ⟨_, rfl⟩
  go_enter Tryd.func39, Tryd.ntmps39
  go_wp2_with fail
  refine (next_any n _ _ _ hp1 hd1 _ ?hm _ ?hc ?hf).mono ?_
  (case hm => decide)
  (case hc => first | with_reducible assumption | go_simp)
  (case hf => first | with_reducible assumption | go_simp)
  rintro e w2 ⟨rfl, rfl⟩
  go_wp2_with fail
  refine (rinfo1 _).mono ?_
  rintro e w1 ⟨rfl, hb⟩
  have hz : w.heap.size + 2 < w1.heap.size := by have := hb.size; simp at this; omega
  have hz0 : w.heap.size < w1.heap.size := by omega
  have hz1 : w.heap.size + 1 < w1.heap.size := by omega
  obtain ⟨cw10, fw10⟩ := kc hb (w.heap.size) 0 0 (by go_simp) (by go_simp)
  obtain ⟨cw11, fw11⟩ := kc hb (w.heap.size) 1 0 (by go_simp) (by go_simp)
  obtain ⟨cw12, fw12⟩ := kc hb (w.heap.size) 2 0 (by go_simp) (by go_simp)
  obtain ⟨cw13, fw13⟩ := kc hb (w.heap.size) 3 0 (by go_simp) (by go_simp)
  obtain ⟨cw14, fw14⟩ := kc hb (w.heap.size) 4 0 (by go_simp) (by go_simp)
  obtain ⟨cw15, fw15⟩ := kc hb (w.heap.size + 1) 0 d1 (by go_simp) (by go_simp)
  obtain ⟨cw16, fw16⟩ := kc hb (w.heap.size + 2) 0 1 (by go_simp) (by go_simp)
  obtain ⟨cw17, fw17⟩ := kc hb (w.heap.size + 2) 1 0 (by go_simp) (by go_simp)
  obtain ⟨cw18, fw18⟩ := kc hb (w.heap.size + 2) 2 0 (by go_simp) (by go_simp)
  obtain ⟨cw19, fw19⟩ := kc hb (w.heap.size + 2) 3 0 (by go_simp) (by go_simp)
  obtain ⟨cw110, fw110⟩ := kc hb (w.heap.size + 2) 4 0 (by go_simp) (by go_simp)
  have HB := Aside0.mk (below_step (by repeat (first | with_reducible exact Below.refl _ _ | with_reducible refine Below.setCell ?_ (by first | omega | (simp <;> omega)) _ | with_reducible refine Below.alloc ?_ (by first | omega | (simp <;> omega)) _)) hb : Below w.heap.size w w1)
  clear hb
  go_wp2_with fail
  refine end39 1 0 0 0 0 ?hp ?hd ?c0 ?c1 ?c2 ?c3 ?c4 ?hv ?hb
  case hp => rfl
  case hd => rfl
  case hv => rw [insD_1]
  case c0 => go_simp
  case c1 => go_simp
  case c2 => go_simp
  case c3 => go_simp
  case c4 => go_simp
  case hb => repeat (first | with_reducible exact HB.out | with_reducible exact Below.refl _ _ | with_reducible refine Below.setCell ?_ (by first | omega | (simp <;> omega)) _ | with_reducible refine Below.alloc ?_ (by first | omega | (simp <;> omega)) _)
theorem insD_2 (n : Int) : instrD 2 n = (2, 0, 0, 0, 0) := by
  simp [instrD, show formOf 2 = 1 by decide +kernel, hasA, hasB, hasC]
set_option maxRecDepth 100000 in
set_option maxHeartbeats 4000000 in
theorem ins_2 (n : Int) (w : World) (hp1 : Hid (pickN n 37 = 1)) : Calls Tryd.prog 39 #[.int .i64 n] w fun e w' => e = .returned (insV (instrD 2 n)) ∧ Below w.heap.size w w' := by
  obtain ⟨d1, hd1⟩ : ∃ d, Hid (nextN n 37 = d) := ⟨_, rfl⟩
  go_enter Tryd.func39, Tryd.ntmps39
  go_wp2_with fail
  refine (next_any n _ _ _ hp1 hd1 _ ?hm _ ?hc ?hf).mono ?_
  (case hm => decide)
  (case hc => first | with_reducible assumption | go_simp)
  (case hf => first | with_reducible assumption | go_simp)
  rintro e w2 ⟨rfl, rfl⟩
  go_wp2_with fail
  refine (rinfo2 _).mono ?_
  rintro e w1 ⟨rfl, hb⟩
  have hz : w.heap.size + 2 < w1.heap.size := by have := hb.size; simp at this; omega
  have hz0 : w.heap.size < w1.heap.size := by omega
  have hz1 : w.heap.size + 1 < w1.heap.size := by omega
  obtain ⟨cw10, fw10⟩ := kc hb (w.heap.size) 0 0 (by go_simp) (by go_simp)
  obtain ⟨cw11, fw11⟩ := kc hb (w.heap.size) 1 0 (by go_simp) (by go_simp)
  obtain ⟨cw12, fw12⟩ := kc hb (w.heap.size) 2 0 (by go_simp) (by go_simp)
  obtain ⟨cw13, fw13⟩ := kc hb (w.heap.size) 3 0 (by go_simp) (by go_simp)
  obtain ⟨cw14, fw14⟩ := kc hb (w.heap.size) 4 0 (by go_simp) (by go_simp)
  obtain ⟨cw15, fw15⟩ := kc hb (w.heap.size + 1) 0 d1 (by go_simp) (by go_simp)
  obtain ⟨cw16, fw16⟩ := kc hb (w.heap.size + 2) 0 2 (by go_simp) (by go_simp)
  obtain ⟨cw17, fw17⟩ := kc hb (w.heap.size + 2) 1 0 (by go_simp) (by go_simp)
  obtain ⟨cw18, fw18⟩ := kc hb (w.heap.size + 2) 2 0 (by go_simp) (by go_simp)
  obtain ⟨cw19, fw19⟩ := kc hb (w.heap.size + 2) 3 0 (by go_simp) (by go_simp)
  obtain ⟨cw110, fw110⟩ := kc hb (w.heap.size + 2) 4 0 (by go_simp) (by go_simp)
  have HB := Aside0.mk (below_step (by repeat (first | with_reducible exact Below.refl _ _ | with_reducible refine Below.setCell ?_ (by first | omega | (simp <;> omega)) _ | with_reducible refine Below.alloc ?_ (by first | omega | (simp <;> omega)) _)) hb : Below w.heap.size w w1)
  clear hb
  go_wp2_with fail
  refine end39 2 0 0 0 0 ?hp ?hd ?c0 ?c1 ?c2 ?c3 ?c4 ?hv ?hb
  case hp => rfl
  case hd => rfl
  case hv => rw [insD_2]
  case c0 => go_simp
  case c1 => go_simp
  case c2 => go_simp
  case c3 => go_simp
  case c4 => go_simp
  case hb => repeat (first | with_reducible exact HB.out | with_reducible exact Below.refl _ _ | with_reducible refine Below.setCell ?_ (by first | omega | (simp <;> omega)) _ | with_reducible refine Below.alloc ?_ (by first | omega | (simp <;> omega)) _)
theorem insD_3 (n : Int) : instrD 3 n = (3, 0, 0, 0, 0) := by
  simp [instrD, show formOf 3 = 1 by decide +kernel, hasA, hasB, hasC]
set_option maxRecDepth 100000 in
set_option maxHeartbeats 4000000 in
theorem ins_3 (n : Int) (w : World) (hp1 : Hid (pickN n 37 = 2)) : Calls Tryd.prog 39 #[.int .i64 n] w fun e w' => e = .returned (insV (instrD 3 n)) ∧ Below w.heap.size w w' := by
  obtain ⟨d1, hd1⟩ : ∃ d, Hid (nextN n 37 = d) := ⟨_, rfl⟩
  go_enter Tryd.func39, Tryd.ntmps39
  go_wp2_with fail
  refine (next_any n _ _ _ hp1 hd1 _ ?hm _ ?hc ?hf).mono ?_
  (case hm => decide)
  (case hc => first | with_reducible assumption | go_simp)
  (case hf => first | with_reducible assumption | go_simp)
  rintro e w2 ⟨rfl, rfl⟩
  go_wp2_with fail
  refine (rinfo3 _).mono ?_
  rintro e w1 ⟨rfl, hb⟩
  have hz : w.heap.size + 2 < w1.heap.size := by have := hb.size; simp at this; omega
  have hz0 : w.heap.size < w1.heap.size := by omega
  have hz1 : w.heap.size + 1 < w1.heap.size := by omega
  obtain ⟨cw10, fw10⟩ := kc hb (w.heap.size) 0 0 (by go_simp) (by go_simp)
  obtain ⟨cw11, fw11⟩ := kc hb (w.heap.size) 1 0 (by go_simp) (by go_simp)
  obtain ⟨cw12, fw12⟩ := kc hb (w.heap.size) 2 0 (by go_simp) (by go_simp)
  obtain ⟨cw13, fw13⟩ := kc hb (w.heap.size) 3 0 (by go_simp) (by go_simp)
  obtain ⟨cw14, fw14⟩ := kc hb (w.heap.size) 4 0 (by go_simp) (by go_simp)
  obtain ⟨cw15, fw15⟩ := kc hb (w.heap.size + 1) 0 d1 (by go_simp) (by go_simp)
  obtain ⟨cw16, fw16⟩ := kc hb (w.heap.size + 2) 0 3 (by go_simp) (by go_simp)
  obtain ⟨cw17, fw17⟩ := kc hb (w.heap.size + 2) 1 0 (by go_simp) (by go_simp)
  obtain ⟨cw18, fw18⟩ := kc hb (w.heap.size + 2) 2 0 (by go_simp) (by go_simp)
  obtain ⟨cw19, fw19⟩ := kc hb (w.heap.size + 2) 3 0 (by go_simp) (by go_simp)
  obtain ⟨cw110, fw110⟩ := kc hb (w.heap.size + 2) 4 0 (by go_simp) (by go_simp)
  have HB := Aside0.mk (below_step (by repeat (first | with_reducible exact Below.refl _ _ | with_reducible refine Below.setCell ?_ (by first | omega | (simp <;> omega)) _ | with_reducible refine Below.alloc ?_ (by first | omega | (simp <;> omega)) _)) hb : Below w.heap.size w w1)
  clear hb
  go_wp2_with fail
  refine end39 3 0 0 0 0 ?hp ?hd ?c0 ?c1 ?c2 ?c3 ?c4 ?hv ?hb
  case hp => rfl
  case hd => rfl
  case hv => rw [insD_3]
  case c0 => go_simp
  case c1 => go_simp
  case c2 => go_simp
  case c3 => go_simp
  case c4 => go_simp
  case hb => repeat (first | with_reducible exact HB.out | with_reducible exact Below.refl _ _ | with_reducible refine Below.setCell ?_ (by first | omega | (simp <;> omega)) _ | with_reducible refine Below.alloc ?_ (by first | omega | (simp <;> omega)) _)
theorem insD_4 (n : Int) : instrD 4 n = (4, 0, 0, 0, (wrap64 (1 + (pickN (nextN n 37) 40)))) := by
  simp [instrD, show formOf 4 = 8 by decide +kernel, hasA, hasB, hasC]
set_option maxRecDepth 100000 in
set_option maxHeartbeats 4000000 in
theorem ins_4 (n : Int) (w : World) (hp1 : Hid (pickN n 37 = 3)) : Calls Tryd.prog 39 #[.int .i64 n] w fun e w' => e = .returned (insV (instrD 4 n)) ∧ Below w.heap.size w w' := by
  obtain ⟨d1, hd1⟩ : ∃ d, Hid (nextN n 37 = d) := ⟨_, rfl⟩
  obtain ⟨d2, hd2⟩ : ∃ d, Hid (nextN d1 40 = d) := ⟨_, rfl⟩
  obtain ⟨p2, hp2⟩ : ∃ p, Hid (pickN d1 40 = p) := ⟨_, rfl⟩
  go_enter Tryd.func39, Tryd.ntmps39
  go_wp2_with fail
  refine (next_any n _ _ _ hp1 hd1 _ ?hm _ ?hc ?hf).mono ?_
  (case hm => decide)
  (case hc => first | with_reducible assumption | go_simp)
  (case hf => first | with_reducible assumption | go_simp)
  rintro e w2 ⟨rfl, rfl⟩
  go_wp2_with fail
  refine (rinfo4 _).mono ?_
  rintro e w1 ⟨rfl, hb⟩
  have hz : w.heap.size + 2 < w1.heap.size := by have := hb.size; simp at this; omega
  have hz0 : w.heap.size < w1.heap.size := by omega
  have hz1 : w.heap.size + 1 < w1.heap.size := by omega
  obtain ⟨cw10, fw10⟩ := kc hb (w.heap.size) 0 0 (by go_simp) (by go_simp)
  obtain ⟨cw11, fw11⟩ := kc hb (w.heap.size) 1 0 (by go_simp) (by go_simp)
  obtain ⟨cw12, fw12⟩ := kc hb (w.heap.size) 2 0 (by go_simp) (by go_simp)
  obtain ⟨cw13, fw13⟩ := kc hb (w.heap.size) 3 0 (by go_simp) (by go_simp)
  obtain ⟨cw14, fw14⟩ := kc hb (w.heap.size) 4 0 (by go_simp) (by go_simp)
  obtain ⟨cw15, fw15⟩ := kc hb (w.heap.size + 1) 0 d1 (by go_simp) (by go_simp)
  obtain ⟨cw16, fw16⟩ := kc hb (w.heap.size + 2) 0 4 (by go_simp) (by go_simp)
  obtain ⟨cw17, fw17⟩ := kc hb (w.heap.size + 2) 1 0 (by go_simp) (by go_simp)
  obtain ⟨cw18, fw18⟩ := kc hb (w.heap.size + 2) 2 0 (by go_simp) (by go_simp)
  obtain ⟨cw19, fw19⟩ := kc hb (w.heap.size + 2) 3 0 (by go_simp) (by go_simp)
  obtain ⟨cw110, fw110⟩ := kc hb (w.heap.size + 2) 4 0 (by go_simp) (by go_simp)
  have HB := Aside0.mk (below_step (by repeat (first | with_reducible exact Below.refl _ _ | with_reducible refine Below.setCell ?_ (by first | omega | (simp <;> omega)) _ | with_reducible refine Below.alloc ?_ (by first | omega | (simp <;> omega)) _)) hb : Below w.heap.size w w1)
  clear hb
  go_wp2_with fail
  refine (next_any d1 _ _ _ hp2 hd2 _ ?hm _ ?hc ?hf).mono ?_
  (case hm => decide)
  (case hc => first | with_reducible assumption | go_simp)
  (case hf => first | with_reducible assumption | go_simp)
  rintro e w2 ⟨rfl, rfl⟩
  go_wp2_with fail
  refine end39 4 0 0 0 (wrap64 (1 + p2)) ?hp ?hd ?c0 ?c1 ?c2 ?c3 ?c4 ?hv ?hb
  case hp => rfl
  case hd => rfl
  case hv => rw [insD_4]; simp only [hd1.out, hp2.out]
  case c0 => go_simp
  case c1 => go_simp
  case c2 => go_simp
  case c3 => go_simp
  case c4 => go_simp
  case hb => repeat (first | with_reducible exact HB.out | with_reducible exact Below.refl _ _ | with_reducible refine Below.setCell ?_ (by first | omega | (simp <;> omega)) _ | with_reducible refine Below.alloc ?_ (by first | omega | (simp <;> omega)) _)
theorem insD_5 (n : Int) : instrD 5 n = (5, 0, 0, 0, (wrap64 ((pickN (nextN n 37) 15) - 6))) := by
  simp [instrD, show formOf 5 = 8 by decide +kernel, hasA, hasB, hasC]
set_option maxRecDepth 100000 in
set_option maxHeartbeats 4000000 in
theorem ins_5 (n : Int) (w : World) (hp1 : Hid (pickN n 37 = 4)) : Calls Tryd.prog 39 #[.int .i64 n] w fun e w' => e = .returned (insV (instrD 5 n)) ∧ Below w.heap.size w w' := by
  obtain ⟨d1, hd1⟩ : ∃ d, Hid (nextN n 37 = d) := ⟨_, rfl⟩
  obtain ⟨d2, hd2⟩ : ∃ d, Hid (nextN d1 15 = d) := ⟨_, rfl⟩
  obtain ⟨p2, hp2⟩ : ∃ p, Hid (pickN d1 15 = p) := ⟨_, rfl⟩
  go_enter Tryd.func39, Tryd.ntmps39
  go_wp2_with fail
  refine (next_any n _ _ _ hp1 hd1 _ ?hm _ ?hc ?hf).mono ?_
  (case hm => decide)
  (case hc => first | with_reducible assumption | go_simp)
  (case hf => first | with_reducible assumption | go_simp)
  rintro e w2 ⟨rfl, rfl⟩
  go_wp2_with fail
  refine (rinfo5 _).mono ?_
  rintro e w1 ⟨rfl, hb⟩
  have hz : w.heap.size + 2 < w1.heap.size := by have := hb.size; simp at this; omega
  have hz0 : w.heap.size < w1.heap.size := by omega
  have hz1 : w.heap.size + 1 < w1.heap.size := by omega
  obtain ⟨cw10, fw10⟩ := kc hb (w.heap.size) 0 0 (by go_simp) (by go_simp)
  obtain ⟨cw11, fw11⟩ := kc hb (w.heap.size) 1 0 (by go_simp) (by go_simp)
  obtain ⟨cw12, fw12⟩ := kc hb (w.heap.size) 2 0 (by go_simp) (by go_simp)
  obtain ⟨cw13, fw13⟩ := kc hb (w.heap.size) 3 0 (by go_simp) (by go_simp)
  obtain ⟨cw14, fw14⟩ := kc hb (w.heap.size) 4 0 (by go_simp) (by go_simp)
  obtain ⟨cw15, fw15⟩ := kc hb (w.heap.size + 1) 0 d1 (by go_simp) (by go_simp)
  obtain ⟨cw16, fw16⟩ := kc hb (w.heap.size + 2) 0 5 (by go_simp) (by go_simp)
  obtain ⟨cw17, fw17⟩ := kc hb (w.heap.size + 2) 1 0 (by go_simp) (by go_simp)
  obtain ⟨cw18, fw18⟩ := kc hb (w.heap.size + 2) 2 0 (by go_simp) (by go_simp)
  obtain ⟨cw19, fw19⟩ := kc hb (w.heap.size + 2) 3 0 (by go_simp) (by go_simp)
  obtain ⟨cw110, fw110⟩ := kc hb (w.heap.size + 2) 4 0 (by go_simp) (by go_simp)
  have HB := Aside0.mk (below_step (by repeat (first | with_reducible exact Below.refl _ _ | with_reducible refine Below.setCell ?_ (by first | omega | (simp <;> omega)) _ | with_reducible refine Below.alloc ?_ (by first | omega | (simp <;> omega)) _)) hb : Below w.heap.size w w1)
  clear hb
  go_wp2_with fail
  refine (next_any d1 _ _ _ hp2 hd2 _ ?hm _ ?hc ?hf).mono ?_
  (case hm => decide)
  (case hc => first | with_reducible assumption | go_simp)
  (case hf => first | with_reducible assumption | go_simp)
  rintro e w2 ⟨rfl, rfl⟩
  go_wp2_with fail
  refine end39 5 0 0 0 (wrap64 (p2 - 6)) ?hp ?hd ?c0 ?c1 ?c2 ?c3 ?c4 ?hv ?hb
  case hp => rfl
  case hd => rfl
  case hv => rw [insD_5]; simp only [hd1.out, hp2.out]
  case c0 => go_simp
  case c1 => go_simp
  case c2 => go_simp
  case c3 => go_simp
  case c4 => go_simp
  case hb => repeat (first | with_reducible exact HB.out | with_reducible exact Below.refl _ _ | with_reducible refine Below.setCell ?_ (by first | omega | (simp <;> omega)) _ | with_reducible refine Below.alloc ?_ (by first | omega | (simp <;> omega)) _)
theorem insD_6 (n : Int) : instrD 6 n = (6, (pickN (nextN (nextN n 37) 8) 3), 0, 0, (pickN (nextN (nextN (nextN n 37) 8) 3) 2)) := by
  simp [instrD, show formOf 6 = 5 by decide +kernel, hasA, hasB, hasC]
set_option maxRecDepth 100000 in
set_option maxHeartbeats 4000000 in
theorem ins_6 (n : Int) (w : World) (hp1 : Hid (pickN n 37 = 5)) : Calls Tryd.prog 39 #[.int .i64 n] w fun e w' => e = .returned (insV (instrD 6 n)) ∧ Below w.heap.size w w' := by
  obtain ⟨d1, hd1⟩ : ∃ d, Hid (nextN n 37 = d) := ⟨_, rfl⟩
  obtain ⟨d2, hd2⟩ : ∃ d, Hid (nextN d1 8 = d) := ⟨_, rfl⟩
  obtain ⟨p2, hp2⟩ : ∃ p, Hid (pickN d1 8 = p) := ⟨_, rfl⟩
  obtain ⟨d3, hd3⟩ : ∃ d, Hid (nextN d2 3 = d) := ⟨_, rfl⟩
  obtain ⟨p3, hp3⟩ : ∃ p, Hid (pickN d2 3 = p) := ⟨_, rfl⟩
  obtain ⟨d4, hd4⟩ : ∃ d, Hid (nextN d3 2 = d) := ⟨_, rfl⟩
  obtain ⟨p4, hp4⟩ : ∃ p, Hid (pickN d3 2 = p) := ⟨_, rfl⟩
  go_enter Tryd.func39, Tryd.ntmps39
  go_wp2_with fail
  refine (next_any n _ _ _ hp1 hd1 _ ?hm _ ?hc ?hf).mono ?_
  (case hm => decide)
  (case hc => first | with_reducible assumption | go_simp)
  (case hf => first | with_reducible assumption | go_simp)
  rintro e w2 ⟨rfl, rfl⟩
  go_wp2_with fail
  refine (rinfo6 _).mono ?_
  rintro e w1 ⟨rfl, hb⟩
  have hz : w.heap.size + 2 < w1.heap.size := by have := hb.size; simp at this; omega
  have hz0 : w.heap.size < w1.heap.size := by omega
  have hz1 : w.heap.size + 1 < w1.heap.size := by omega
  obtain ⟨cw10, fw10⟩ := kc hb (w.heap.size) 0 0 (by go_simp) (by go_simp)
  obtain ⟨cw11, fw11⟩ := kc hb (w.heap.size) 1 0 (by go_simp) (by go_simp)
  obtain ⟨cw12, fw12⟩ := kc hb (w.heap.size) 2 0 (by go_simp) (by go_simp)
  obtain ⟨cw13, fw13⟩ := kc hb (w.heap.size) 3 0 (by go_simp) (by go_simp)
  obtain ⟨cw14, fw14⟩ := kc hb (w.heap.size) 4 0 (by go_simp) (by go_simp)
  obtain ⟨cw15, fw15⟩ := kc hb (w.heap.size + 1) 0 d1 (by go_simp) (by go_simp)
  obtain ⟨cw16, fw16⟩ := kc hb (w.heap.size + 2) 0 6 (by go_simp) (by go_simp)
  obtain ⟨cw17, fw17⟩ := kc hb (w.heap.size + 2) 1 0 (by go_simp) (by go_simp)
  obtain ⟨cw18, fw18⟩ := kc hb (w.heap.size + 2) 2 0 (by go_simp) (by go_simp)
  obtain ⟨cw19, fw19⟩ := kc hb (w.heap.size + 2) 3 0 (by go_simp) (by go_simp)
  obtain ⟨cw110, fw110⟩ := kc hb (w.heap.size + 2) 4 0 (by go_simp) (by go_simp)
  have HB := Aside0.mk (below_step (by repeat (first | with_reducible exact Below.refl _ _ | with_reducible refine Below.setCell ?_ (by first | omega | (simp <;> omega)) _ | with_reducible refine Below.alloc ?_ (by first | omega | (simp <;> omega)) _)) hb : Below w.heap.size w w1)
  clear hb
  go_wp2_with fail
  refine (next_any d1 _ _ _ hp2 hd2 _ ?hm _ ?hc ?hf).mono ?_
  (case hm => decide)
  (case hc => first | with_reducible assumption | go_simp)
  (case hf => first | with_reducible assumption | go_simp)
  rintro e w2 ⟨rfl, rfl⟩
  go_wp2_with fail
  refine (next_any d2 _ _ _ hp3 hd3 _ ?hm _ ?hc ?hf).mono ?_
  (case hm => decide)
  (case hc => first | with_reducible assumption | go_simp)
  (case hf => first | with_reducible assumption | go_simp)
  rintro e w2 ⟨rfl, rfl⟩
  go_wp2_with fail
  refine (next_any d3 _ _ _ hp4 hd4 _ ?hm _ ?hc ?hf).mono ?_
  (case hm => decide)
  (case hc => first | with_reducible assumption | go_simp)
  (case hf => first | with_reducible assumption | go_simp)
  rintro e w2 ⟨rfl, rfl⟩
  generalize hW : World.setCell _ _ _ = w3
  have c30 : w3.cell? ⟨w.heap.size, 0, none⟩ = some (.int .i64 0) := by rw [← hW]; clear hW; go_simp
  have f30 : w3.frozen? ⟨w.heap.size, 0, none⟩ = false := by rw [← hW]; clear hW; go_simp
  have c31 : w3.cell? ⟨w.heap.size, 1, none⟩ = some (.int .i64 0) := by rw [← hW]; clear hW; go_simp
  have f31 : w3.frozen? ⟨w.heap.size, 1, none⟩ = false := by rw [← hW]; clear hW; go_simp
  have c32 : w3.cell? ⟨w.heap.size, 2, none⟩ = some (.int .i64 0) := by rw [← hW]; clear hW; go_simp
  have f32 : w3.frozen? ⟨w.heap.size, 2, none⟩ = false := by rw [← hW]; clear hW; go_simp
  have c33 : w3.cell? ⟨w.heap.size, 3, none⟩ = some (.int .i64 0) := by rw [← hW]; clear hW; go_simp
  have f33 : w3.frozen? ⟨w.heap.size, 3, none⟩ = false := by rw [← hW]; clear hW; go_simp
  have c34 : w3.cell? ⟨w.heap.size, 4, none⟩ = some (.int .i64 0) := by rw [← hW]; clear hW; go_simp
  have f34 : w3.frozen? ⟨w.heap.size, 4, none⟩ = false := by rw [← hW]; clear hW; go_simp
  have c35 : w3.cell? ⟨w.heap.size + 2, 0, none⟩ = some (.int .i64 6) := by rw [← hW]; clear hW; go_simp
  have f35 : w3.frozen? ⟨w.heap.size + 2, 0, none⟩ = false := by rw [← hW]; clear hW; go_simp
  have c36 : w3.cell? ⟨w.heap.size + 2, 1, none⟩ = some (.int .i64 p2) := by rw [← hW]; clear hW; go_simp
  have f36 : w3.frozen? ⟨w.heap.size + 2, 1, none⟩ = false := by rw [← hW]; clear hW; go_simp
  have c37 : w3.cell? ⟨w.heap.size + 2, 2, none⟩ = some (.int .i64 0) := by rw [← hW]; clear hW; go_simp
  have f37 : w3.frozen? ⟨w.heap.size + 2, 2, none⟩ = false := by rw [← hW]; clear hW; go_simp
  have c38 : w3.cell? ⟨w.heap.size + 2, 3, none⟩ = some (.int .i64 0) := by rw [← hW]; clear hW; go_simp
  have f38 : w3.frozen? ⟨w.heap.size + 2, 3, none⟩ = false := by rw [← hW]; clear hW; go_simp
  have c39 : w3.cell? ⟨w.heap.size + 2, 4, none⟩ = some (.int .i64 0) := by rw [← hW]; clear hW; go_simp
  have f39 : w3.frozen? ⟨w.heap.size + 2, 4, none⟩ = false := by rw [← hW]; clear hW; go_simp
  have hz3 : w.heap.size + 2 < w3.heap.size := by rw [← hW]; clear hW; simp; omega
  have hz4 : w.heap.size < w3.heap.size := by omega
  have HB3 : Aside0 (Below w.heap.size w w3) := by
    rw [← hW]
    clear hW
    refine Aside0.mk ?_
    repeat (first | with_reducible exact HB.out | with_reducible exact Below.refl _ _ | with_reducible refine Below.setCell ?_ (by first | omega | (simp <;> omega)) _ | with_reducible refine Below.alloc ?_ (by first | omega | (simp <;> omega)) _)
  clear hW HB
  have HB := HB3
  go_wp2_with fail
  refine end39 6 p3 0 0 p4 ?hp ?hd ?c0 ?c1 ?c2 ?c3 ?c4 ?hv ?hb
  case hp => rfl
  case hd => rfl
  case hv => rw [insD_6]; simp only [hd1.out, hp2.out, hd2.out, hp3.out, hd3.out, hp4.out]
  case c0 => go_simp
  case c1 => go_simp
  case c2 => go_simp
  case c3 => go_simp
  case c4 => go_simp
  case hb => repeat (first | with_reducible exact HB.out | with_reducible exact Below.refl _ _ | with_reducible refine Below.setCell ?_ (by first | omega | (simp <;> omega)) _ | with_reducible refine Below.alloc ?_ (by first | omega | (simp <;> omega)) _)
theorem insD_7 (n : Int) : instrD 7 n = (7, (pickN (nextN n 37) 8), 0, 0, (wrap64 ((pickN (nextN (nextN n 37) 8) 15) - 6))) := by
  simp [instrD, show formOf 7 = 5 by decide +kernel, hasA, hasB, hasC]
set_option maxRecDepth 100000 in
set_option maxHeartbeats 4000000 in
theorem ins_7 (n : Int) (w : World) (hp1 : Hid (pickN n 37 = 6)) : Calls Tryd.prog 39 #[.int .i64 n] w fun e w' => e = .returned (insV (instrD 7 n)) ∧ Below w.heap.size w w' := by
  obtain ⟨d1, hd1⟩ : ∃ d, Hid (nextN n 37 = d) := ⟨_, rfl⟩
  obtain ⟨d2, hd2⟩ : ∃ d, Hid (nextN d1 8 = d) := ⟨_, rfl⟩
  obtain ⟨p2, hp2⟩ : ∃ p, Hid (pickN d1 8 = p) := ⟨_, rfl⟩
  obtain ⟨d3, hd3⟩ : ∃ d, Hid (nextN d2 15 = d) := ⟨_, rfl⟩
  obtain ⟨p3, hp3⟩ : ∃ p, Hid (pickN d2 15 = p) := ⟨_, rfl⟩
  go_enter Tryd.func39, Tryd.ntmps39
  go_wp2_with fail
  refine (next_any n _ _ _ hp1 hd1 _ ?hm _ ?hc ?hf).mono ?_
  (case hm => decide)
  (case hc => first | with_reducible assumption | go_simp)
  (case hf => first | with_reducible assumption | go_simp)
  rintro e w2 ⟨rfl, rfl⟩
  go_wp2_with fail
  refine (rinfo7 _).mono ?_
  rintro e w1 ⟨rfl, hb⟩
  have hz : w.heap.size + 2 < w1.heap.size := by have := hb.size; simp at this; omega
  have hz0 : w.heap.size < w1.heap.size := by omega
  have hz1 : w.heap.size + 1 < w1.heap.size := by omega
  obtain ⟨cw10, fw10⟩ := kc hb (w.heap.size) 0 0 (by go_simp) (by go_simp)
  obtain ⟨cw11, fw11⟩ := kc hb (w.heap.size) 1 0 (by go_simp) (by go_simp)
  obtain ⟨cw12, fw12⟩ := kc hb (w.heap.size) 2 0 (by go_simp) (by go_simp)
  obtain ⟨cw13, fw13⟩ := kc hb (w.heap.size) 3 0 (by go_simp) (by go_simp)
  obtain ⟨cw14, fw14⟩ := kc hb (w.heap.size) 4 0 (by go_simp) (by go_simp)
  obtain ⟨cw15, fw15⟩ := kc hb (w.heap.size + 1) 0 d1 (by go_simp) (by go_simp)
  obtain ⟨cw16, fw16⟩ := kc hb (w.heap.size + 2) 0 7 (by go_simp) (by go_simp)
  obtain ⟨cw17, fw17⟩ := kc hb (w.heap.size + 2) 1 0 (by go_simp) (by go_simp)
  obtain ⟨cw18, fw18⟩ := kc hb (w.heap.size + 2) 2 0 (by go_simp) (by go_simp)
  obtain ⟨cw19, fw19⟩ := kc hb (w.heap.size + 2) 3 0 (by go_simp) (by go_simp)
  obtain ⟨cw110, fw110⟩ := kc hb (w.heap.size + 2) 4 0 (by go_simp) (by go_simp)
  have HB := Aside0.mk (below_step (by repeat (first | with_reducible exact Below.refl _ _ | with_reducible refine Below.setCell ?_ (by first | omega | (simp <;> omega)) _ | with_reducible refine Below.alloc ?_ (by first | omega | (simp <;> omega)) _)) hb : Below w.heap.size w w1)
  clear hb
  go_wp2_with fail
  refine (next_any d1 _ _ _ hp2 hd2 _ ?hm _ ?hc ?hf).mono ?_
  (case hm => decide)
  (case hc => first | with_reducible assumption | go_simp)
  (case hf => first | with_reducible assumption | go_simp)
  rintro e w2 ⟨rfl, rfl⟩
  go_wp2_with fail
  refine (next_any d2 _ _ _ hp3 hd3 _ ?hm _ ?hc ?hf).mono ?_
  (case hm => decide)
  (case hc => first | with_reducible assumption | go_simp)
  (case hf => first | with_reducible assumption | go_simp)
  rintro e w2 ⟨rfl, rfl⟩
  go_wp2_with fail
  refine end39 7 p2 0 0 (wrap64 (p3 - 6)) ?hp ?hd ?c0 ?c1 ?c2 ?c3 ?c4 ?hv ?hb
  case hp => rfl
  case hd => rfl
  case hv => rw [insD_7]; simp only [hd1.out, hp2.out, hd2.out, hp3.out]
  case c0 => go_simp
  case c1 => go_simp
  case c2 => go_simp
  case c3 => go_simp
  case c4 => go_simp
  case hb => repeat (first | with_reducible exact HB.out | with_reducible exact Below.refl _ _ | with_reducible refine Below.setCell ?_ (by first | omega | (simp <;> omega)) _ | with_reducible refine Below.alloc ?_ (by first | omega | (simp <;> omega)) _)
theorem insD_8 (n : Int) : instrD 8 n = (8, (pickN (nextN n 37) 8), 0, 0, (wrap64 ((pickN (nextN (nextN n 37) 8) 15) - 6))) := by
  simp [instrD, show formOf 8 = 5 by decide +kernel, hasA, hasB, hasC]
set_option maxRecDepth 100000 in
set_option maxHeartbeats 4000000 in
theorem ins_8 (n : Int) (w : World) (hp1 : Hid (pickN n 37 = 7)) : Calls Tryd.prog 39 #[.int .i64 n] w fun e w' => e = .returned (insV (instrD 8 n)) ∧ Below w.heap.size w w' := by
  obtain ⟨d1, hd1⟩ : ∃ d, Hid (nextN n 37 = d) := ⟨_, rfl⟩
  obtain ⟨d2, hd2⟩ : ∃ d, Hid (nextN d1 8 = d) := ⟨_, rfl⟩
  obtain ⟨p2, hp2⟩ : ∃ p, Hid (pickN d1 8 = p) := ⟨_, rfl⟩
  obtain ⟨d3, hd3⟩ : ∃ d, Hid (nextN d2 15 = d) := ⟨_, rfl⟩
  obtain ⟨p3, hp3⟩ : ∃ p, Hid (pickN d2 15 = p) := ⟨_, rfl⟩
  go_enter Tryd.func39, Tryd.ntmps39
  go_wp2_with fail
  refine (next_any n _ _ _ hp1 hd1 _ ?hm _ ?hc ?hf).mono ?_
  (case hm => decide)
  (case hc => first | with_reducible assumption | go_simp)
  (case hf => first | with_reducible assumption | go_simp)
  rintro e w2 ⟨rfl, rfl⟩
  go_wp2_with fail
  refine (rinfo8 _).mono ?_
  rintro e w1 ⟨rfl, hb⟩
  have hz : w.heap.size + 2 < w1.heap.size := by have := hb.size; simp at this; omega
  have hz0 : w.heap.size < w1.heap.size := by omega
  have hz1 : w.heap.size + 1 < w1.heap.size := by omega
  obtain ⟨cw10, fw10⟩ := kc hb (w.heap.size) 0 0 (by go_simp) (by go_simp)
  obtain ⟨cw11, fw11⟩ := kc hb (w.heap.size) 1 0 (by go_simp) (by go_simp)
  obtain ⟨cw12, fw12⟩ := kc hb (w.heap.size) 2 0 (by go_simp) (by go_simp)
  obtain ⟨cw13, fw13⟩ := kc hb (w.heap.size) 3 0 (by go_simp) (by go_simp)
  obtain ⟨cw14, fw14⟩ := kc hb (w.heap.size) 4 0 (by go_simp) (by go_simp)
  obtain ⟨cw15, fw15⟩ := kc hb (w.heap.size + 1) 0 d1 (by go_simp) (by go_simp)
  obtain ⟨cw16, fw16⟩ := kc hb (w.heap.size + 2) 0 8 (by go_simp) (by go_simp)
  obtain ⟨cw17, fw17⟩ := kc hb (w.heap.size + 2) 1 0 (by go_simp) (by go_simp)
  obtain ⟨cw18, fw18⟩ := kc hb (w.heap.size + 2) 2 0 (by go_simp) (by go_simp)
  obtain ⟨cw19, fw19⟩ := kc hb (w.heap.size + 2) 3 0 (by go_simp) (by go_simp)
  obtain ⟨cw110, fw110⟩ := kc hb (w.heap.size + 2) 4 0 (by go_simp) (by go_simp)
  have HB := Aside0.mk (below_step (by repeat (first | with_reducible exact Below.refl _ _ | with_reducible refine Below.setCell ?_ (by first | omega | (simp <;> omega)) _ | with_reducible refine Below.alloc ?_ (by first | omega | (simp <;> omega)) _)) hb : Below w.heap.size w w1)
  clear hb
  go_wp2_with fail
  refine (next_any d1 _ _ _ hp2 hd2 _ ?hm _ ?hc ?hf).mono ?_
  (case hm => decide)
  (case hc => first | with_reducible assumption | go_simp)
  (case hf => first | with_reducible assumption | go_simp)
  rintro e w2 ⟨rfl, rfl⟩
  go_wp2_with fail
  refine (next_any d2 _ _ _ hp3 hd3 _ ?hm _ ?hc ?hf).mono ?_
  (case hm => decide)
  (case hc => first | with_reducible assumption | go_simp)
  (case hf => first | with_reducible assumption | go_simp)
  rintro e w2 ⟨rfl, rfl⟩
  go_wp2_with fail
  refine end39 8 p2 0 0 (wrap64 (p3 - 6)) ?hp ?hd ?c0 ?c1 ?c2 ?c3 ?c4 ?hv ?hb
  case hp => rfl
  case hd => rfl
  case hv => rw [insD_8]; simp only [hd1.out, hp2.out, hd2.out, hp3.out]
  case c0 => go_simp
  case c1 => go_simp
  case c2 => go_simp
  case c3 => go_simp
  case c4 => go_simp
  case hb => repeat (first | with_reducible exact HB.out | with_reducible exact Below.refl _ _ | with_reducible refine Below.setCell ?_ (by first | omega | (simp <;> omega)) _ | with_reducible refine Below.alloc ?_ (by first | omega | (simp <;> omega)) _)
theorem insD_9 (n : Int) : instrD 9 n = (9, (pickN (nextN n 37) 8), 0, 0, 0) := by
  simp [instrD, show formOf 9 = 2 by decide +kernel, hasA, hasB, hasC]
set_option maxRecDepth 100000 in
set_option maxHeartbeats 4000000 in
theorem ins_9 (n : Int) (w : World) (hp1 : Hid (pickN n 37 = 8)) : Calls Tryd.prog 39 #[.int .i64 n] w fun e w' => e = .returned (insV (instrD 9 n)) ∧ Below w.heap.size w w' := by
  obtain ⟨d1, hd1⟩ : ∃ d, Hid (nextN n 37 = d) := ⟨_, rfl⟩
  obtain ⟨d2, hd2⟩ : ∃ d, Hid (nextN d1 8 = d) := ⟨_, rfl⟩
  obtain ⟨p2, hp2⟩ : ∃ p, Hid (pickN d1 8 = p) := ⟨_, rfl⟩
  go_enter Tryd.func39, Tryd.ntmps39
  go_wp2_with fail
  refine (next_any n _ _ _ hp1 hd1 _ ?hm _ ?hc ?hf).mono ?_
  (case hm => decide)
  (case hc => first | with_reducible assumption | go_simp)
  (case hf => first | with_reducible assumption | go_simp)
  rintro e w2 ⟨rfl, rfl⟩
  go_wp2_with fail
  refine (rinfo9 _).mono ?_
  rintro e w1 ⟨rfl, hb⟩
  have hz : w.heap.size + 2 < w1.heap.size := by have := hb.size; simp at this; omega
  have hz0 : w.heap.size < w1.heap.size := by omega
  have hz1 : w.heap.size + 1 < w1.heap.size := by omega
  obtain ⟨cw10, fw10⟩ := kc hb (w.heap.size) 0 0 (by go_simp) (by go_simp)
  obtain ⟨cw11, fw11⟩ := kc hb (w.heap.size) 1 0 (by go_simp) (by go_simp)
  obtain ⟨cw12, fw12⟩ := kc hb (w.heap.size) 2 0 (by go_simp) (by go_simp)
  obtain ⟨cw13, fw13⟩ := kc hb (w.heap.size) 3 0 (by go_simp) (by go_simp)
  obtain ⟨cw14, fw14⟩ := kc hb (w.heap.size) 4 0 (by go_simp) (by go_simp)
  obtain ⟨cw15, fw15⟩ := kc hb (w.heap.size + 1) 0 d1 (by go_simp) (by go_simp)
  obtain ⟨cw16, fw16⟩ := kc hb (w.heap.size + 2) 0 9 (by go_simp) (by go_simp)
  obtain ⟨cw17, fw17⟩ := kc hb (w.heap.size + 2) 1 0 (by go_simp) (by go_simp)
  obtain ⟨cw18, fw18⟩ := kc hb (w.heap.size + 2) 2 0 (by go_simp) (by go_simp)
  obtain ⟨cw19, fw19⟩ := kc hb (w.heap.size + 2) 3 0 (by go_simp) (by go_simp)
  obtain ⟨cw110, fw110⟩ := kc hb (w.heap.size + 2) 4 0 (by go_simp) (by go_simp)
  have HB := Aside0.mk (below_step (by repeat (first | with_reducible exact Below.refl _ _ | with_reducible refine Below.setCell ?_ (by first | omega | (simp <;> omega)) _ | with_reducible refine Below.alloc ?_ (by first | omega | (simp <;> omega)) _)) hb : Below w.heap.size w w1)
  clear hb
  go_wp2_with fail
  refine (next_any d1 _ _ _ hp2 hd2 _ ?hm _ ?hc ?hf).mono ?_
  (case hm => decide)
  (case hc => first | with_reducible assumption | go_simp)
  (case hf => first | with_reducible assumption | go_simp)
  rintro e w2 ⟨rfl, rfl⟩
  go_wp2_with fail
  refine end39 9 p2 0 0 0 ?hp ?hd ?c0 ?c1 ?c2 ?c3 ?c4 ?hv ?hb
  case hp => rfl
  case hd => rfl
  case hv => rw [insD_9]; simp only [hd1.out, hp2.out]
  case c0 => go_simp
  case c1 => go_simp
  case c2 => go_simp
  case c3 => go_simp
  case c4 => go_simp
  case hb => repeat (first | with_reducible exact HB.out | with_reducible exact Below.refl _ _ | with_reducible refine Below.setCell ?_ (by first | omega | (simp <;> omega)) _ | with_reducible refine Below.alloc ?_ (by first | omega | (simp <;> omega)) _)
theorem insD_10 (n : Int) : instrD 10 n = (10, (pickN (nextN n 37) 8), (pickN (nextN (nextN n 37) 8) 8), 0, 0) := by
  simp [instrD, show formOf 10 = 3 by decide +kernel, hasA, hasB, hasC]
set_option maxRecDepth 100000 in
set_option maxHeartbeats 4000000 in
theorem ins_10 (n : Int) (w : World) (hp1 : Hid (pickN n 37 = 9)) : Calls Tryd.prog 39 #[.int .i64 n] w fun e w' => e = .returned (insV (instrD 10 n)) ∧ Below w.heap.size w w' := by
  obtain ⟨d1, hd1⟩ : ∃ d, Hid (nextN n 37 = d) := ⟨_, rfl⟩
  obtain ⟨d2, hd2⟩ : ∃ d, Hid (nextN d1 8 = d) := ⟨_, rfl⟩
  obtain ⟨p2, hp2⟩ : ∃ p, Hid (pickN d1 8 = p) := ⟨_, rfl⟩
  obtain ⟨d3, hd3⟩ : ∃ d, Hid (nextN d2 8 = d) := ⟨_, rfl⟩
  obtain ⟨p3, hp3⟩ : ∃ p, Hid (pickN d2 8 = p) := ⟨_, rfl⟩
  go_enter Tryd.func39, Tryd.ntmps39
  go_wp2_with fail
  refine (next_any n _ _ _ hp1 hd1 _ ?hm _ ?hc ?hf).mono ?_
  (case hm => decide)
  (case hc => first | with_reducible assumption | go_simp)
  (case hf => first | with_reducible assumption | go_simp)
  rintro e w2 ⟨rfl, rfl⟩
  go_wp2_with fail
  refine (rinfo10 _).mono ?_
  rintro e w1 ⟨rfl, hb⟩
  have hz : w.heap.size + 2 < w1.heap.size := by have := hb.size; simp at this; omega
  have hz0 : w.heap.size < w1.heap.size := by omega
  have hz1 : w.heap.size + 1 < w1.heap.size := by omega
  obtain ⟨cw10, fw10⟩ := kc hb (w.heap.size) 0 0 (by go_simp) (by go_simp)
  obtain ⟨cw11, fw11⟩ := kc hb (w.heap.size) 1 0 (by go_simp) (by go_simp)
  obtain ⟨cw12, fw12⟩ := kc hb (w.heap.size) 2 0 (by go_simp) (by go_simp)
  obtain ⟨cw13, fw13⟩ := kc hb (w.heap.size) 3 0 (by go_simp) (by go_simp)
  obtain ⟨cw14, fw14⟩ := kc hb (w.heap.size) 4 0 (by go_simp) (by go_simp)
  obtain ⟨cw15, fw15⟩ := kc hb (w.heap.size + 1) 0 d1 (by go_simp) (by go_simp)
  obtain ⟨cw16, fw16⟩ := kc hb (w.heap.size + 2) 0 10 (by go_simp) (by go_simp)
  obtain ⟨cw17, fw17⟩ := kc hb (w.heap.size + 2) 1 0 (by go_simp) (by go_simp)
  obtain ⟨cw18, fw18⟩ := kc hb (w.heap.size + 2) 2 0 (by go_simp) (by go_simp)
  obtain ⟨cw19, fw19⟩ := kc hb (w.heap.size + 2) 3 0 (by go_simp) (by go_simp)
  obtain ⟨cw110, fw110⟩ := kc hb (w.heap.size + 2) 4 0 (by go_simp) (by go_simp)
  have HB := Aside0.mk (below_step (by repeat (first | with_reducible exact Below.refl _ _ | with_reducible refine Below.setCell ?_ (by first | omega | (simp <;> omega)) _ | with_reducible refine Below.alloc ?_ (by first | omega | (simp <;> omega)) _)) hb : Below w.heap.size w w1)
  clear hb
  go_wp2_with fail
  refine (next_any d1 _ _ _ hp2 hd2 _ ?hm _ ?hc ?hf).mono ?_
  (case hm => decide)
  (case hc => first | with_reducible assumption | go_simp)
  (case hf => first | with_reducible assumption | go_simp)
  rintro e w2 ⟨rfl, rfl⟩
  go_wp2_with fail
  refine (next_any d2 _ _ _ hp3 hd3 _ ?hm _ ?hc ?hf).mono ?_
  (case hm => decide)
  (case hc => first | with_reducible assumption | go_simp)
  (case hf => first | with_reducible assumption | go_simp)
  rintro e w2 ⟨rfl, rfl⟩
  go_wp2_with fail
  refine end39 10 p2 p3 0 0 ?hp ?hd ?c0 ?c1 ?c2 ?c3 ?c4 ?hv ?hb
  case hp => rfl
  case hd => rfl
  case hv => rw [insD_10]; simp only [hd1.out, hp2.out, hd2.out, hp3.out]
  case c0 => go_simp
  case c1 => go_simp
  case c2 => go_simp
  case c3 => go_simp
  case c4 => go_simp
  case hb => repeat (first | with_reducible exact HB.out | with_reducible exact Below.refl _ _ | with_reducible refine Below.setCell ?_ (by first | omega | (simp <;> omega)) _ | with_reducible refine Below.alloc ?_ (by first | omega | (simp <;> omega)) _)
theorem insD_11 (n : Int) : instrD 11 n = (11, (pickN (nextN n 37) 8), (pickN (nextN (nextN n 37) 8) 8), (pickN (nextN (nextN (nextN n 37) 8) 8) 8), 0) := by
  simp [instrD, show formOf 11 = 4 by decide +kernel, hasA, hasB, hasC]
set_option maxRecDepth 100000 in
set_option maxHeartbeats 4000000 in
theorem ins_11 (n : Int) (w : World) (hp1 : Hid (pickN n 37 = 10)) : Calls Tryd.prog 39 #[.int .i64 n] w fun e w' => e = .returned (insV (instrD 11 n)) ∧ Below w.heap.size w w' := by
  obtain ⟨d1, hd1⟩ : ∃ d, Hid (nextN n 37 = d) := ⟨_, rfl⟩
  obtain ⟨d2, hd2⟩ : ∃ d, Hid (nextN d1 8 = d) := ⟨_, rfl⟩
  obtain ⟨p2, hp2⟩ : ∃ p, Hid (pickN d1 8 = p) := ⟨_, rfl⟩
  obtain ⟨d3, hd3⟩ : ∃ d, Hid (nextN d2 8 = d) := ⟨_, rfl⟩
  obtain ⟨p3, hp3⟩ : ∃ p, Hid (pickN d2 8 = p) := ⟨_, rfl⟩
  obtain ⟨d4, hd4⟩ : ∃ d, Hid (nextN d3 8 = d) := ⟨_, rfl⟩
  obtain ⟨p4, hp4⟩ : ∃ p, Hid (pickN d3 8 = p) := ⟨_, rfl⟩
  go_enter Tryd.func39, Tryd.ntmps39
  go_wp2_with fail
  refine (next_any n _ _ _ hp1 hd1 _ ?hm _ ?hc ?hf).mono ?_
  (case hm => decide)
  (case hc => first | with_reducible assumption | go_simp)
  (case hf => first | with_reducible assumption | go_simp)
  rintro e w2 ⟨rfl, rfl⟩
  go_wp2_with fail
  refine (rinfo11 _).mono ?_
  rintro e w1 ⟨rfl, hb⟩
  have hz : w.heap.size + 2 < w1.heap.size := by have := hb.size; simp at this; omega
  have hz0 : w.heap.size < w1.heap.size := by omega
  have hz1 : w.heap.size + 1 < w1.heap.size := by omega
  obtain ⟨cw10, fw10⟩ := kc hb (w.heap.size) 0 0 (by go_simp) (by go_simp)
  obtain ⟨cw11, fw11⟩ := kc hb (w.heap.size) 1 0 (by go_simp) (by go_simp)
  obtain ⟨cw12, fw12⟩ := kc hb (w.heap.size) 2 0 (by go_simp) (by go_simp)
  obtain ⟨cw13, fw13⟩ := kc hb (w.heap.size) 3 0 (by go_simp) (by go_simp)
  obtain ⟨cw14, fw14⟩ := kc hb (w.heap.size) 4 0 (by go_simp) (by go_simp)
  obtain ⟨cw15, fw15⟩ := kc hb (w.heap.size + 1) 0 d1 (by go_simp) (by go_simp)
  obtain ⟨cw16, fw16⟩ := kc hb (w.heap.size + 2) 0 11 (by go_simp) (by go_simp)
  obtain ⟨cw17, fw17⟩ := kc hb (w.heap.size + 2) 1 0 (by go_simp) (by go_simp)
  obtain ⟨cw18, fw18⟩ := kc hb (w.heap.size + 2) 2 0 (by go_simp) (by go_simp)
  obtain ⟨cw19, fw19⟩ := kc hb (w.heap.size + 2) 3 0 (by go_simp) (by go_simp)
  obtain ⟨cw110, fw110⟩ := kc hb (w.heap.size + 2) 4 0 (by go_simp) (by go_simp)
  have HB := Aside0.mk (below_step (by repeat (first | with_reducible exact Below.refl _ _ | with_reducible refine Below.setCell ?_ (by first | omega | (simp <;> omega)) _ | with_reducible refine Below.alloc ?_ (by first | omega | (simp <;> omega)) _)) hb : Below w.heap.size w w1)
  clear hb
  go_wp2_with fail
  refine (next_any d1 _ _ _ hp2 hd2 _ ?hm _ ?hc ?hf).mono ?_
  (case hm => decide)
  (case hc => first | with_reducible assumption | go_simp)
  (case hf => first | with_reducible assumption | go_simp)
  rintro e w2 ⟨rfl, rfl⟩
  go_wp2_with fail
  refine (next_any d2 _ _ _ hp3 hd3 _ ?hm _ ?hc ?hf).mono ?_
  (case hm => decide)
  (case hc => first | with_reducible assumption | go_simp)
  (case hf => first | with_reducible assumption | go_simp)
  rintro e w2 ⟨rfl, rfl⟩
  go_wp2_with fail
  refine (next_any d3 _ _ _ hp4 hd4 _ ?hm _ ?hc ?hf).mono ?_
  (case hm => decide)
  (case hc => first | with_reducible assumption | go_simp)
  (case hf => first | with_reducible assumption | go_simp)
  rintro e w2 ⟨rfl, rfl⟩
  go_wp2_with fail
  refine end39 11 p2 p3 p4 0 ?hp ?hd ?c0 ?c1 ?c2 ?c3 ?c4 ?hv ?hb
  case hp => rfl
  case hd => rfl
  case hv => rw [insD_11]; simp only [hd1.out, hp2.out, hd2.out, hp3.out, hd3.out, hp4.out]
  case c0 => go_simp
  case c1 => go_simp
  case c2 => go_simp
  case c3 => go_simp
  case c4 => go_simp
  case hb => repeat (first | with_reducible exact HB.out | with_reducible exact Below.refl _ _ | with_reducible refine Below.setCell ?_ (by first | omega | (simp <;> omega)) _ | with_reducible refine Below.alloc ?_ (by first | omega | (simp <;> omega)) _)
theorem insD_12 (n : Int) : instrD 12 n = (12, (pickN (nextN n 37) 8), (pickN (nextN (nextN n 37) 8) 8), (pickN (nextN (nextN (nextN n 37) 8) 8) 8), 0) := by
  simp [instrD, show formOf 12 = 4 by decide +kernel, hasA, hasB, hasC]
set_option maxRecDepth 100000 in
set_option maxHeartbeats 4000000 in
theorem ins_12 (n : Int) (w : World) (hp1 : Hid (pickN n 37 = 11)) : Calls Tryd.prog 39 #[.int .i64 n] w fun e w' => e = .returned (insV (instrD 12 n)) ∧ Below w.heap.size w w' := by
  obtain ⟨d1, hd1⟩ : ∃ d, Hid (nextN n 37 = d) := ⟨_, rfl⟩
  obtain ⟨d2, hd2⟩ : ∃ d, Hid (nextN d1 8 = d) := ⟨_, rfl⟩
  obtain ⟨p2, hp2⟩ : ∃ p, Hid (pickN d1 8 = p) := ⟨_, rfl⟩
  obtain ⟨d3, hd3⟩ : ∃ d, Hid (nextN d2 8 = d) := ⟨_, rfl⟩
  obtain ⟨p3, hp3⟩ : ∃ p, Hid (pickN d2 8 = p) := ⟨_, rfl⟩
  obtain ⟨d4, hd4⟩ : ∃ d, Hid (nextN d3 8 = d) := ⟨_, rfl⟩
  obtain ⟨p4, hp4⟩ : ∃ p, Hid (pickN d3 8 = p) := ⟨_, rfl⟩
  go_enter Tryd.func39, Tryd.ntmps39
  go_wp2_with fail
  refine (next_any n _ _ _ hp1 hd1 _ ?hm _ ?hc ?hf).mono ?_
  (case hm => decide)
  (case hc => first | with_reducible assumption | go_simp)
  (case hf => first | with_reducible assumption | go_simp)
  rintro e w2 ⟨rfl, rfl⟩
  go_wp2_with fail
  refine (rinfo12 _).mono ?_
  rintro e w1 ⟨rfl, hb⟩
  have hz : w.heap.size + 2 < w1.heap.size := by have := hb.size; simp at this; omega
  have hz0 : w.heap.size < w1.heap.size := by omega
  have hz1 : w.heap.size + 1 < w1.heap.size := by omega
  obtain ⟨cw10, fw10⟩ := kc hb (w.heap.size) 0 0 (by go_simp) (by go_simp)
  obtain ⟨cw11, fw11⟩ := kc hb (w.heap.size) 1 0 (by go_simp) (by go_simp)
  obtain ⟨cw12, fw12⟩ := kc hb (w.heap.size) 2 0 (by go_simp) (by go_simp)
  obtain ⟨cw13, fw13⟩ := kc hb (w.heap.size) 3 0 (by go_simp) (by go_simp)
  obtain ⟨cw14, fw14⟩ := kc hb (w.heap.size) 4 0 (by go_simp) (by go_simp)
  obtain ⟨cw15, fw15⟩ := kc hb (w.heap.size + 1) 0 d1 (by go_simp) (by go_simp)
  obtain ⟨cw16, fw16⟩ := kc hb (w.heap.size + 2) 0 12 (by go_simp) (by go_simp)
  obtain ⟨cw17, fw17⟩ := kc hb (w.heap.size + 2) 1 0 (by go_simp) (by go_simp)
  obtain ⟨cw18, fw18⟩ := kc hb (w.heap.size + 2) 2 0 (by go_simp) (by go_simp)
  obtain ⟨cw19, fw19⟩ := kc hb (w.heap.size + 2) 3 0 (by go_simp) (by go_simp)
  obtain ⟨cw110, fw110⟩ := kc hb (w.heap.size + 2) 4 0 (by go_simp) (by go_simp)
  have HB := Aside0.mk (below_step (by repeat (first | with_reducible exact Below.refl _ _ | with_reducible refine Below.setCell ?_ (by first | omega | (simp <;> omega)) _ | with_reducible refine Below.alloc ?_ (by first | omega | (simp <;> omega)) _)) hb : Below w.heap.size w w1)
  clear hb
  go_wp2_with fail
  refine (next_any d1 _ _ _ hp2 hd2 _ ?hm _ ?hc ?hf).mono ?_
  (case hm => decide)
  (case hc => first | with_reducible assumption | go_simp)
  (case hf => first | with_reducible assumption | go_simp)
  rintro e w2 ⟨rfl, rfl⟩
  go_wp2_with fail
  refine (next_any d2 _ _ _ hp3 hd3 _ ?hm _ ?hc ?hf).mono ?_
  (case hm => decide)
  (case hc => first | with_reducible assumption | go_simp)
  (case hf => first | with_reducible assumption | go_simp)
  rintro e w2 ⟨rfl, rfl⟩
  go_wp2_with fail
  refine (next_any d3 _ _ _ hp4 hd4 _ ?hm _ ?hc ?hf).mono ?_
  (case hm => decide)
  (case hc => first | with_reducible assumption | go_simp)
  (case hf => first | with_reducible assumption | go_simp)
  rintro e w2 ⟨rfl, rfl⟩
  go_wp2_with fail
  refine end39 12 p2 p3 p4 0 ?hp ?hd ?c0 ?c1 ?c2 ?c3 ?c4 ?hv ?hb
  case hp => rfl
  case hd => rfl
  case hv => rw [insD_12]; simp only [hd1.out, hp2.out, hd2.out, hp3.out, hd3.out, hp4.out]
  case c0 => go_simp
  case c1 => go_simp
  case c2 => go_simp
  case c3 => go_simp
  case c4 => go_simp
  case hb => repeat (first | with_reducible exact HB.out | with_reducible exact Below.refl _ _ | with_reducible refine Below.setCell ?_ (by first | omega | (simp <;> omega)) _ | with_reducible refine Below.alloc ?_ (by first | omega | (simp <;> omega)) _)
theorem insD_13 (n : Int) : instrD 13 n = (13, (pickN (nextN n 37) 8), 0, 0, (wrap64 ((pickN (nextN (nextN n 37) 8) 15) - 6))) := by
  simp [instrD, show formOf 13 = 5 by decide +kernel, hasA, hasB, hasC]
set_option maxRecDepth 100000 in
set_option maxHeartbeats 4000000 in
theorem ins_13 (n : Int) (w : World) (hp1 : Hid (pickN n 37 = 12)) : Calls Tryd.prog 39 #[.int .i64 n] w fun e w' => e = .returned (insV (instrD 13 n)) ∧ Below w.heap.size w w' := by
  obtain ⟨d1, hd1⟩ : ∃ d, Hid (nextN n 37 = d) := ⟨_, rfl⟩
  obtain ⟨d2, hd2⟩ : ∃ d, Hid (nextN d1 8 = d) := ⟨_, rfl⟩
  obtain ⟨p2, hp2⟩ : ∃ p, Hid (pickN d1 8 = p) := ⟨_, rfl⟩
  obtain ⟨d3, hd3⟩ : ∃ d, Hid (nextN d2 15 = d) := ⟨_, rfl⟩
  obtain ⟨p3, hp3⟩ : ∃ p, Hid (pickN d2 15 = p) := ⟨_, rfl⟩
  go_enter Tryd.func39, Tryd.ntmps39
  go_wp2_with fail
  refine (next_any n _ _ _ hp1 hd1 _ ?hm _ ?hc ?hf).mono ?_
  (case hm => decide)
  (case hc => first | with_reducible assumption | go_simp)
  (case hf => first | with_reducible assumption | go_simp)
  rintro e w2 ⟨rfl, rfl⟩
  go_wp2_with fail
  refine (rinfo13 _).mono ?_
  rintro e w1 ⟨rfl, hb⟩
  have hz : w.heap.size + 2 < w1.heap.size := by have := hb.size; simp at this; omega
  have hz0 : w.heap.size < w1.heap.size := by omega
  have hz1 : w.heap.size + 1 < w1.heap.size := by omega
  obtain ⟨cw10, fw10⟩ := kc hb (w.heap.size) 0 0 (by go_simp) (by go_simp)
  obtain ⟨cw11, fw11⟩ := kc hb (w.heap.size) 1 0 (by go_simp) (by go_simp)
  obtain ⟨cw12, fw12⟩ := kc hb (w.heap.size) 2 0 (by go_simp) (by go_simp)
  obtain ⟨cw13, fw13⟩ := kc hb (w.heap.size) 3 0 (by go_simp) (by go_simp)
  obtain ⟨cw14, fw14⟩ := kc hb (w.heap.size) 4 0 (by go_simp) (by go_simp)
  obtain ⟨cw15, fw15⟩ := kc hb (w.heap.size + 1) 0 d1 (by go_simp) (by go_simp)
  obtain ⟨cw16, fw16⟩ := kc hb (w.heap.size + 2) 0 13 (by go_simp) (by go_simp)
  obtain ⟨cw17, fw17⟩ := kc hb (w.heap.size + 2) 1 0 (by go_simp) (by go_simp)
  obtain ⟨cw18, fw18⟩ := kc hb (w.heap.size + 2) 2 0 (by go_simp) (by go_simp)
  obtain ⟨cw19, fw19⟩ := kc hb (w.heap.size + 2) 3 0 (by go_simp) (by go_simp)
  obtain ⟨cw110, fw110⟩ := kc hb (w.heap.size + 2) 4 0 (by go_simp) (by go_simp)
  have HB := Aside0.mk (below_step (by repeat (first | with_reducible exact Below.refl _ _ | with_reducible refine Below.setCell ?_ (by first | omega | (simp <;> omega)) _ | with_reducible refine Below.alloc ?_ (by first | omega | (simp <;> omega)) _)) hb : Below w.heap.size w w1)
  clear hb
  go_wp2_with fail
  refine (next_any d1 _ _ _ hp2 hd2 _ ?hm _ ?hc ?hf).mono ?_
  (case hm => decide)
  (case hc => first | with_reducible assumption | go_simp)
  (case hf => first | with_reducible assumption | go_simp)
  rintro e w2 ⟨rfl, rfl⟩
  go_wp2_with fail
  refine (next_any d2 _ _ _ hp3 hd3 _ ?hm _ ?hc ?hf).mono ?_
  (case hm => decide)
  (case hc => first | with_reducible assumption | go_simp)
  (case hf => first | with_reducible assumption | go_simp)
  rintro e w2 ⟨rfl, rfl⟩
  go_wp2_with fail
  refine end39 13 p2 0 0 (wrap64 (p3 - 6)) ?hp ?hd ?c0 ?c1 ?c2 ?c3 ?c4 ?hv ?hb
  case hp => rfl
  case hd => rfl
  case hv => rw [insD_13]; simp only [hd1.out, hp2.out, hd2.out, hp3.out]
  case c0 => go_simp
  case c1 => go_simp
  case c2 => go_simp
  case c3 => go_simp
  case c4 => go_simp
  case hb => repeat (first | with_reducible exact HB.out | with_reducible exact Below.refl _ _ | with_reducible refine Below.setCell ?_ (by first | omega | (simp <;> omega)) _ | with_reducible refine Below.alloc ?_ (by first | omega | (simp <;> omega)) _)
theorem insD_14 (n : Int) : instrD 14 n = (14, (pickN (nextN n 37) 8), 0, 0, (wordN (pickN (nextN (nextN n 37) 8) 500) n)) := by
  simp [instrD, show formOf 14 = 6 by decide +kernel, hasA, hasB, hasC]
set_option maxRecDepth 100000 in
set_option maxHeartbeats 4000000 in
theorem ins_14 (n : Int) (w : World) (hp1 : Hid (pickN n 37 = 13)) : Calls Tryd.prog 39 #[.int .i64 n] w fun e w' => e = .returned (insV (instrD 14 n)) ∧ Below w.heap.size w w' := by
  obtain ⟨d1, hd1⟩ : ∃ d, Hid (nextN n 37 = d) := ⟨_, rfl⟩
  obtain ⟨d2, hd2⟩ : ∃ d, Hid (nextN d1 8 = d) := ⟨_, rfl⟩
  obtain ⟨p2, hp2⟩ : ∃ p, Hid (pickN d1 8 = p) := ⟨_, rfl⟩
  obtain ⟨d3, hd3⟩ : ∃ d, Hid (nextN d2 500 = d) := ⟨_, rfl⟩
  obtain ⟨p3, hp3⟩ : ∃ p, Hid (pickN d2 500 = p) := ⟨_, rfl⟩
  obtain ⟨x, hx⟩ : ∃ x, Hid (wordN p3 n = x) := ⟨_, rfl⟩
  go_enter Tryd.func39, Tryd.ntmps39
  go_wp2_with fail
  refine (next_any n _ _ _ hp1 hd1 _ ?hm _ ?hc ?hf).mono ?_
  (case hm => decide)
  (case hc => first | with_reducible assumption | go_simp)
  (case hf => first | with_reducible assumption | go_simp)
  rintro e w2 ⟨rfl, rfl⟩
  go_wp2_with fail
  refine (rinfo14 _).mono ?_
  rintro e w1 ⟨rfl, hb⟩
  have hz : w.heap.size + 2 < w1.heap.size := by have := hb.size; simp at this; omega
  have hz0 : w.heap.size < w1.heap.size := by omega
  have hz1 : w.heap.size + 1 < w1.heap.size := by omega
  obtain ⟨cw10, fw10⟩ := kc hb (w.heap.size) 0 0 (by go_simp) (by go_simp)
  obtain ⟨cw11, fw11⟩ := kc hb (w.heap.size) 1 0 (by go_simp) (by go_simp)
  obtain ⟨cw12, fw12⟩ := kc hb (w.heap.size) 2 0 (by go_simp) (by go_simp)
  obtain ⟨cw13, fw13⟩ := kc hb (w.heap.size) 3 0 (by go_simp) (by go_simp)
  obtain ⟨cw14, fw14⟩ := kc hb (w.heap.size) 4 0 (by go_simp) (by go_simp)
  obtain ⟨cw15, fw15⟩ := kc hb (w.heap.size + 1) 0 d1 (by go_simp) (by go_simp)
  obtain ⟨cw16, fw16⟩ := kc hb (w.heap.size + 2) 0 14 (by go_simp) (by go_simp)
  obtain ⟨cw17, fw17⟩ := kc hb (w.heap.size + 2) 1 0 (by go_simp) (by go_simp)
  obtain ⟨cw18, fw18⟩ := kc hb (w.heap.size + 2) 2 0 (by go_simp) (by go_simp)
  obtain ⟨cw19, fw19⟩ := kc hb (w.heap.size + 2) 3 0 (by go_simp) (by go_simp)
  obtain ⟨cw110, fw110⟩ := kc hb (w.heap.size + 2) 4 0 (by go_simp) (by go_simp)
  have HB := Aside0.mk (below_step (by repeat (first | with_reducible exact Below.refl _ _ | with_reducible refine Below.setCell ?_ (by first | omega | (simp <;> omega)) _ | with_reducible refine Below.alloc ?_ (by first | omega | (simp <;> omega)) _)) hb : Below w.heap.size w w1)
  clear hb
  go_wp2_with fail
  refine (next_any d1 _ _ _ hp2 hd2 _ ?hm _ ?hc ?hf).mono ?_
  (case hm => decide)
  (case hc => first | with_reducible assumption | go_simp)
  (case hf => first | with_reducible assumption | go_simp)
  rintro e w2 ⟨rfl, rfl⟩
  go_wp2_with fail
  refine (next_any d2 _ _ _ hp3 hd3 _ ?hm _ ?hc ?hf).mono ?_
  (case hm => decide)
  (case hc => first | with_reducible assumption | go_simp)
  (case hf => first | with_reducible assumption | go_simp)
  rintro e w2 ⟨rfl, rfl⟩
  go_wp2_with fail
  refine (word_any _ _ _ hx _).mono ?_
  rintro e w3 ⟨rfl, hb⟩
  have hz3 : w1.heap.size < w3.heap.size := by have := hb.size; simp at this; omega
  have hz4 : w.heap.size < w3.heap.size := by omega
  have hz5 : w.heap.size + 2 < w3.heap.size := by omega
  obtain ⟨cw30, fw30⟩ := kc hb (w.heap.size) 0 0 (by go_simp) (by go_simp)
  obtain ⟨cw31, fw31⟩ := kc hb (w.heap.size) 1 0 (by go_simp) (by go_simp)
  obtain ⟨cw32, fw32⟩ := kc hb (w.heap.size) 2 0 (by go_simp) (by go_simp)
  obtain ⟨cw33, fw33⟩ := kc hb (w.heap.size) 3 0 (by go_simp) (by go_simp)
  obtain ⟨cw34, fw34⟩ := kc hb (w.heap.size) 4 0 (by go_simp) (by go_simp)
  obtain ⟨cw35, fw35⟩ := kc hb (w.heap.size + 2) 0 14 (by go_simp) (by go_simp)
  obtain ⟨cw36, fw36⟩ := kc hb (w.heap.size + 2) 1 p2 (by go_simp) (by go_simp)
  obtain ⟨cw37, fw37⟩ := kc hb (w.heap.size + 2) 2 0 (by go_simp) (by go_simp)
  obtain ⟨cw38, fw38⟩ := kc hb (w.heap.size + 2) 3 0 (by go_simp) (by go_simp)
  obtain ⟨cw39, fw39⟩ := kc hb (w.heap.size + 2) 4 0 (by go_simp) (by go_simp)
  have HB3 := Aside0.mk (below_step (by repeat (first | with_reducible exact HB.out | with_reducible exact Below.refl _ _ | with_reducible refine Below.setCell ?_ (by first | omega | (simp <;> omega)) _ | with_reducible refine Below.alloc ?_ (by first | omega | (simp <;> omega)) _)) hb : Below w.heap.size w w3)
  clear hb HB
  have HB := HB3
  go_wp2_with fail
  refine end39 14 p2 0 0 x ?hp ?hd ?c0 ?c1 ?c2 ?c3 ?c4 ?hv ?hb
  case hp => rfl
  case hd => rfl
  case hv => rw [insD_14]; simp only [hd1.out, hp2.out, hd2.out, hp3.out, hx.out]
  case c0 => go_simp
  case c1 => go_simp
  case c2 => go_simp
  case c3 => go_simp
  case c4 => go_simp
  case hb => repeat (first | with_reducible exact HB.out | with_reducible exact Below.refl _ _ | with_reducible refine Below.setCell ?_ (by first | omega | (simp <;> omega)) _ | with_reducible refine Below.alloc ?_ (by first | omega | (simp <;> omega)) _)
theorem insD_15 (n : Int) : instrD 15 n = (15, (pickN (nextN n 37) 8), 0, 0, 0) := by
  simp [instrD, show formOf 15 = 2 by decide +kernel, hasA, hasB, hasC]
set_option maxRecDepth 100000 in
set_option maxHeartbeats 4000000 in
theorem ins_15 (n : Int) (w : World) (hp1 : Hid (pickN n 37 = 14)) : Calls Tryd.prog 39 #[.int .i64 n] w fun e w' => e = .returned (insV (instrD 15 n)) ∧ Below w.heap.size w w' := by
  obtain ⟨d1, hd1⟩ : ∃ d, Hid (nextN n 37 = d) := ⟨_, rfl⟩
  obtain ⟨d2, hd2⟩ : ∃ d, Hid (nextN d1 8 = d) := ⟨_, rfl⟩
  obtain ⟨p2, hp2⟩ : ∃ p, Hid (pickN d1 8 = p) := ⟨_, rfl⟩
  go_enter Tryd.func39, Tryd.ntmps39
  go_wp2_with fail
  refine (next_any n _ _ _ hp1 hd1 _ ?hm _ ?hc ?hf).mono ?_
  (case hm => decide)
  (case hc => first | with_reducible assumption | go_simp)
  (case hf => first | with_reducible assumption | go_simp)
  rintro e w2 ⟨rfl, rfl⟩
  go_wp2_with fail
  refine (rinfo15 _).mono ?_
  rintro e w1 ⟨rfl, hb⟩
  have hz : w.heap.size + 2 < w1.heap.size := by have := hb.size; simp at this; omega
  have hz0 : w.heap.size < w1.heap.size := by omega
  have hz1 : w.heap.size + 1 < w1.heap.size := by omega
  obtain ⟨cw10, fw10⟩ := kc hb (w.heap.size) 0 0 (by go_simp) (by go_simp)
  obtain ⟨cw11, fw11⟩ := kc hb (w.heap.size) 1 0 (by go_simp) (by go_simp)
  obtain ⟨cw12, fw12⟩ := kc hb (w.heap.size) 2 0 (by go_simp) (by go_simp)
  obtain ⟨cw13, fw13⟩ := kc hb (w.heap.size) 3 0 (by go_simp) (by go_simp)
  obtain ⟨cw14, fw14⟩ := kc hb (w.heap.size) 4 0 (by go_simp) (by go_simp)
  obtain ⟨cw15, fw15⟩ := kc hb (w.heap.size + 1) 0 d1 (by go_simp) (by go_simp)
  obtain ⟨cw16, fw16⟩ := kc hb (w.heap.size + 2) 0 15 (by go_simp) (by go_simp)
  obtain ⟨cw17, fw17⟩ := kc hb (w.heap.size + 2) 1 0 (by go_simp) (by go_simp)
  obtain ⟨cw18, fw18⟩ := kc hb (w.heap.size + 2) 2 0 (by go_simp) (by go_simp)
  obtain ⟨cw19, fw19⟩ := kc hb (w.heap.size + 2) 3 0 (by go_simp) (by go_simp)
  obtain ⟨cw110, fw110⟩ := kc hb (w.heap.size + 2) 4 0 (by go_simp) (by go_simp)
  have HB := Aside0.mk (below_step (by repeat (first | with_reducible exact Below.refl _ _ | with_reducible refine Below.setCell ?_ (by first | omega | (simp <;> omega)) _ | with_reducible refine Below.alloc ?_ (by first | omega | (simp <;> omega)) _)) hb : Below w.heap.size w w1)
  clear hb
  go_wp2_with fail
  refine (next_any d1 _ _ _ hp2 hd2 _ ?hm _ ?hc ?hf).mono ?_
  (case hm => decide)
  (case hc => first | with_reducible assumption | go_simp)
  (case hf => first | with_reducible assumption | go_simp)
  rintro e w2 ⟨rfl, rfl⟩
  go_wp2_with fail
  refine end39 15 p2 0 0 0 ?hp ?hd ?c0 ?c1 ?c2 ?c3 ?c4 ?hv ?hb
  case hp => rfl
  case hd => rfl
  case hv => rw [insD_15]; simp only [hd1.out, hp2.out]
  case c0 => go_simp
  case c1 => go_simp
  case c2 => go_simp
  case c3 => go_simp
  case c4 => go_simp
  case hb => repeat (first | with_reducible exact HB.out | with_reducible exact Below.refl _ _ | with_reducible refine Below.setCell ?_ (by first | omega | (simp <;> omega)) _ | with_reducible refine Below.alloc ?_ (by first | omega | (simp <;> omega)) _)
theorem insD_16 (n : Int) : instrD 16 n = (16, (pickN (nextN n 37) 8), 0, 0, 0) := by
  simp [instrD, show formOf 16 = 2 by decide +kernel, hasA, hasB, hasC]
set_option maxRecDepth 100000 in
set_option maxHeartbeats 4000000 in
theorem ins_16 (n : Int) (w : World) (hp1 : Hid (pickN n 37 = 15)) : Calls Tryd.prog 39 #[.int .i64 n] w fun e w' => e = .returned (insV (instrD 16 n)) ∧ Below w.heap.size w w' := by
  obtain ⟨d1, hd1⟩ : ∃ d, Hid (nextN n 37 = d) := ⟨_, rfl⟩
  obtain ⟨d2, hd2⟩ : ∃ d, Hid (nextN d1 8 = d) := ⟨_, rfl⟩
  obtain ⟨p2, hp2⟩ : ∃ p, Hid (pickN d1 8 = p) := ⟨_, rfl⟩
  go_enter Tryd.func39, Tryd.ntmps39
  go_wp2_with fail
  refine (next_any n _ _ _ hp1 hd1 _ ?hm _ ?hc ?hf).mono ?_
  (case hm => decide)
  (case hc => first | with_reducible assumption | go_simp)
  (case hf => first | with_reducible assumption | go_simp)
  rintro e w2 ⟨rfl, rfl⟩
  go_wp2_with fail
  refine (rinfo16 _).mono ?_
  rintro e w1 ⟨rfl, hb⟩
  have hz : w.heap.size + 2 < w1.heap.size := by have := hb.size; simp at this; omega
  have hz0 : w.heap.size < w1.heap.size := by omega
  have hz1 : w.heap.size + 1 < w1.heap.size := by omega
  obtain ⟨cw10, fw10⟩ := kc hb (w.heap.size) 0 0 (by go_simp) (by go_simp)
  obtain ⟨cw11, fw11⟩ := kc hb (w.heap.size) 1 0 (by go_simp) (by go_simp)
  obtain ⟨cw12, fw12⟩ := kc hb (w.heap.size) 2 0 (by go_simp) (by go_simp)
  obtain ⟨cw13, fw13⟩ := kc hb (w.heap.size) 3 0 (by go_simp) (by go_simp)
  obtain ⟨cw14, fw14⟩ := kc hb (w.heap.size) 4 0 (by go_simp) (by go_simp)
  obtain ⟨cw15, fw15⟩ := kc hb (w.heap.size + 1) 0 d1 (by go_simp) (by go_simp)
  obtain ⟨cw16, fw16⟩ := kc hb (w.heap.size + 2) 0 16 (by go_simp) (by go_simp)
  obtain ⟨cw17, fw17⟩ := kc hb (w.heap.size + 2) 1 0 (by go_simp) (by go_simp)
  obtain ⟨cw18, fw18⟩ := kc hb (w.heap.size + 2) 2 0 (by go_simp) (by go_simp)
  obtain ⟨cw19, fw19⟩ := kc hb (w.heap.size + 2) 3 0 (by go_simp) (by go_simp)
  obtain ⟨cw110, fw110⟩ := kc hb (w.heap.size + 2) 4 0 (by go_simp) (by go_simp)
  have HB := Aside0.mk (below_step (by repeat (first | with_reducible exact Below.refl _ _ | with_reducible refine Below.setCell ?_ (by first | omega | (simp <;> omega)) _ | with_reducible refine Below.alloc ?_ (by first | omega | (simp <;> omega)) _)) hb : Below w.heap.size w w1)
  clear hb
  go_wp2_with fail
  refine (next_any d1 _ _ _ hp2 hd2 _ ?hm _ ?hc ?hf).mono ?_
  (case hm => decide)
  (case hc => first | with_reducible assumption | go_simp)
  (case hf => first | with_reducible assumption | go_simp)
  rintro e w2 ⟨rfl, rfl⟩
  go_wp2_with fail
  refine end39 16 p2 0 0 0 ?hp ?hd ?c0 ?c1 ?c2 ?c3 ?c4 ?hv ?hb
  case hp => rfl
  case hd => rfl
  case hv => rw [insD_16]; simp only [hd1.out, hp2.out]
  case c0 => go_simp
  case c1 => go_simp
  case c2 => go_simp
  case c3 => go_simp
  case c4 => go_simp
  case hb => repeat (first | with_reducible exact HB.out | with_reducible exact Below.refl _ _ | with_reducible refine Below.setCell ?_ (by first | omega | (simp <;> omega)) _ | with_reducible refine Below.alloc ?_ (by first | omega | (simp <;> omega)) _)
theorem insD_17 (n : Int) : instrD 17 n = (17, (pickN (nextN n 37) 8), (pickN (nextN (nextN n 37) 8) 8), 0, 0) := by
  simp [instrD, show formOf 17 = 3 by decide +kernel, hasA, hasB, hasC]
set_option maxRecDepth 100000 in
set_option maxHeartbeats 4000000 in
theorem ins_17 (n : Int) (w : World) (hp1 : Hid (pickN n 37 = 16)) : Calls Tryd.prog 39 #[.int .i64 n] w fun e w' => e = .returned (insV (instrD 17 n)) ∧ Below w.heap.size w w' := by
  obtain ⟨d1, hd1⟩ : ∃ d, Hid (nextN n 37 = d) := ⟨_, rfl⟩
  obtain ⟨d2, hd2⟩ : ∃ d, Hid (nextN d1 8 = d) := ⟨_, rfl⟩
  obtain ⟨p2, hp2⟩ : ∃ p, Hid (pickN d1 8 = p) := ⟨_, rfl⟩
  obtain ⟨d3, hd3⟩ : ∃ d, Hid (nextN d2 8 = d) := ⟨_, rfl⟩
  obtain ⟨p3, hp3⟩ : ∃ p, Hid (pickN d2 8 = p) := ⟨_, rfl⟩
  go_enter Tryd.func39, Tryd.ntmps39
  go_wp2_with fail
  refine (next_any n _ _ _ hp1 hd1 _ ?hm _ ?hc ?hf).mono ?_
  (case hm => decide)
  (case hc => first | with_reducible assumption | go_simp)
  (case hf => first | with_reducible assumption | go_simp)
  rintro e w2 ⟨rfl, rfl⟩
  go_wp2_with fail
  refine (rinfo17 _).mono ?_
  rintro e w1 ⟨rfl, hb⟩
  have hz : w.heap.size + 2 < w1.heap.size := by have := hb.size; simp at this; omega
  have hz0 : w.heap.size < w1.heap.size := by omega
  have hz1 : w.heap.size + 1 < w1.heap.size := by omega
  obtain ⟨cw10, fw10⟩ := kc hb (w.heap.size) 0 0 (by go_simp) (by go_simp)
  obtain ⟨cw11, fw11⟩ := kc hb (w.heap.size) 1 0 (by go_simp) (by go_simp)
  obtain ⟨cw12, fw12⟩ := kc hb (w.heap.size) 2 0 (by go_simp) (by go_simp)
  obtain ⟨cw13, fw13⟩ := kc hb (w.heap.size) 3 0 (by go_simp) (by go_simp)
  obtain ⟨cw14, fw14⟩ := kc hb (w.heap.size) 4 0 (by go_simp) (by go_simp)
  obtain ⟨cw15, fw15⟩ := kc hb (w.heap.size + 1) 0 d1 (by go_simp) (by go_simp)
  obtain ⟨cw16, fw16⟩ := kc hb (w.heap.size + 2) 0 17 (by go_simp) (by go_simp)
  obtain ⟨cw17, fw17⟩ := kc hb (w.heap.size + 2) 1 0 (by go_simp) (by go_simp)
  obtain ⟨cw18, fw18⟩ := kc hb (w.heap.size + 2) 2 0 (by go_simp) (by go_simp)
  obtain ⟨cw19, fw19⟩ := kc hb (w.heap.size + 2) 3 0 (by go_simp) (by go_simp)
  obtain ⟨cw110, fw110⟩ := kc hb (w.heap.size + 2) 4 0 (by go_simp) (by go_simp)
  have HB := Aside0.mk (below_step (by repeat (first | with_reducible exact Below.refl _ _ | with_reducible refine Below.setCell ?_ (by first | omega | (simp <;> omega)) _ | with_reducible refine Below.alloc ?_ (by first | omega | (simp <;> omega)) _)) hb : Below w.heap.size w w1)
  clear hb
  go_wp2_with fail
  refine (next_any d1 _ _ _ hp2 hd2 _ ?hm _ ?hc ?hf).mono ?_
  (case hm => decide)
  (case hc => first | with_reducible assumption | go_simp)
  (case hf => first | with_reducible assumption | go_simp)
  rintro e w2 ⟨rfl, rfl⟩
  go_wp2_with fail
  refine (next_any d2 _ _ _ hp3 hd3 _ ?hm _ ?hc ?hf).mono ?_
  (case hm => decide)
  (case hc => first | with_reducible assumption | go_simp)
  (case hf => first | with_reducible assumption | go_simp)
  rintro e w2 ⟨rfl, rfl⟩
  go_wp2_with fail
  refine end39 17 p2 p3 0 0 ?hp ?hd ?c0 ?c1 ?c2 ?c3 ?c4 ?hv ?hb
  case hp => rfl
  case hd => rfl
  case hv => rw [insD_17]; simp only [hd1.out, hp2.out, hd2.out, hp3.out]
  case c0 => go_simp
  case c1 => go_simp
  case c2 => go_simp
  case c3 => go_simp
  case c4 => go_simp
  case hb => repeat (first | with_reducible exact HB.out | with_reducible exact Below.refl _ _ | with_reducible refine Below.setCell ?_ (by first | omega | (simp <;> omega)) _ | with_reducible refine Below.alloc ?_ (by first | omega | (simp <;> omega)) _)
theorem insD_18 (n : Int) : instrD 18 n = (18, (pickN (nextN n 37) 8), (pickN (nextN (nextN n 37) 8) 8), 0, 0) := by
  simp [instrD, show formOf 18 = 3 by decide +kernel, hasA, hasB, hasC]
set_option maxRecDepth 100000 in
set_option maxHeartbeats 4000000 in
theorem ins_18 (n : Int) (w : World) (hp1 : Hid (pickN n 37 = 17)) : Calls Tryd.prog 39 #[.int .i64 n] w fun e w' => e = .returned (insV (instrD 18 n)) ∧ Below w.heap.size w w' := by
  obtain ⟨d1, hd1⟩ : ∃ d, Hid (nextN n 37 = d) := ⟨_, rfl⟩
  obtain ⟨d2, hd2⟩ : ∃ d, Hid (nextN d1 8 = d) := ⟨_, rfl⟩
  obtain ⟨p2, hp2⟩ : ∃ p, Hid (pickN d1 8 = p) := ⟨_, rfl⟩
  obtain ⟨d3, hd3⟩ : ∃ d, Hid (nextN d2 8 = d) := ⟨_, rfl⟩
  obtain ⟨p3, hp3⟩ : ∃ p, Hid (pickN d2 8 = p) := ⟨_, rfl⟩
  go_enter Tryd.func39, Tryd.ntmps39
  go_wp2_with fail
  refine (next_any n _ _ _ hp1 hd1 _ ?hm _ ?hc ?hf).mono ?_
  (case hm => decide)
  (case hc => first | with_reducible assumption | go_simp)
  (case hf => first | with_reducible assumption | go_simp)
  rintro e w2 ⟨rfl, rfl⟩
  go_wp2_with fail
  refine (rinfo18 _).mono ?_
  rintro e w1 ⟨rfl, hb⟩
  have hz : w.heap.size + 2 < w1.heap.size := by have := hb.size; simp at this; omega
  have hz0 : w.heap.size < w1.heap.size := by omega
  have hz1 : w.heap.size + 1 < w1.heap.size := by omega
  obtain ⟨cw10, fw10⟩ := kc hb (w.heap.size) 0 0 (by go_simp) (by go_simp)
  obtain ⟨cw11, fw11⟩ := kc hb (w.heap.size) 1 0 (by go_simp) (by go_simp)
  obtain ⟨cw12, fw12⟩ := kc hb (w.heap.size) 2 0 (by go_simp) (by go_simp)
  obtain ⟨cw13, fw13⟩ := kc hb (w.heap.size) 3 0 (by go_simp) (by go_simp)
  obtain ⟨cw14, fw14⟩ := kc hb (w.heap.size) 4 0 (by go_simp) (by go_simp)
  obtain ⟨cw15, fw15⟩ := kc hb (w.heap.size + 1) 0 d1 (by go_simp) (by go_simp)
  obtain ⟨cw16, fw16⟩ := kc hb (w.heap.size + 2) 0 18 (by go_simp) (by go_simp)
  obtain ⟨cw17, fw17⟩ := kc hb (w.heap.size + 2) 1 0 (by go_simp) (by go_simp)
  obtain ⟨cw18, fw18⟩ := kc hb (w.heap.size + 2) 2 0 (by go_simp) (by go_simp)
  obtain ⟨cw19, fw19⟩ := kc hb (w.heap.size + 2) 3 0 (by go_simp) (by go_simp)
  obtain ⟨cw110, fw110⟩ := kc hb (w.heap.size + 2) 4 0 (by go_simp) (by go_simp)
  have HB := Aside0.mk (below_step (by repeat (first | with_reducible exact Below.refl _ _ | with_reducible refine Below.setCell ?_ (by first | omega | (simp <;> omega)) _ | with_reducible refine Below.alloc ?_ (by first | omega | (simp <;> omega)) _)) hb : Below w.heap.size w w1)
  clear hb
  go_wp2_with fail
  refine (next_any d1 _ _ _ hp2 hd2 _ ?hm _ ?hc ?hf).mono ?_
  (case hm => decide)
  (case hc => first | with_reducible assumption | go_simp)
  (case hf => first | with_reducible assumption | go_simp)
  rintro e w2 ⟨rfl, rfl⟩
  go_wp2_with fail
  refine (next_any d2 _ _ _ hp3 hd3 _ ?hm _ ?hc ?hf).mono ?_
  (case hm => decide)
  (case hc => first | with_reducible assumption | go_simp)
  (case hf => first | with_reducible assumption | go_simp)
  rintro e w2 ⟨rfl, rfl⟩
  go_wp2_with fail
  refine end39 18 p2 p3 0 0 ?hp ?hd ?c0 ?c1 ?c2 ?c3 ?c4 ?hv ?hb
  case hp => rfl
  case hd => rfl
  case hv => rw [insD_18]; simp only [hd1.out, hp2.out, hd2.out, hp3.out]
  case c0 => go_simp
  case c1 => go_simp
  case c2 => go_simp
  case c3 => go_simp
  case c4 => go_simp
  case hb => repeat (first | with_reducible exact HB.out | with_reducible exact Below.refl _ _ | with_reducible refine Below.setCell ?_ (by first | omega | (simp <;> omega)) _ | with_reducible refine Below.alloc ?_ (by first | omega | (simp <;> omega)) _)
theorem insD_19 (n : Int) : instrD 19 n = (19, (pickN (nextN n 37) 8), (pickN (nextN (nextN n 37) 8) 8), 0, 0) := by
  simp [instrD, show formOf 19 = 3 by decide +kernel, hasA, hasB, hasC]
set_option maxRecDepth 100000 in
set_option maxHeartbeats 4000000 in
theorem ins_19 (n : Int) (w : World) (hp1 : Hid (pickN n 37 = 18)) : Calls Tryd.prog 39 #[.int .i64 n] w fun e w' => e = .returned (insV (instrD 19 n)) ∧ Below w.heap.size w w' := by
  obtain ⟨d1, hd1⟩ : ∃ d, Hid (nextN n 37 = d) := ⟨_, rfl⟩
  obtain ⟨d2, hd2⟩ : ∃ d, Hid (nextN d1 8 = d) := ⟨_, rfl⟩
  obtain ⟨p2, hp2⟩ : ∃ p, Hid (pickN d1 8 = p) := ⟨_, rfl⟩
  obtain ⟨d3, hd3⟩ : ∃ d, Hid (nextN d2 8 = d) := ⟨_, rfl⟩
  obtain ⟨p3, hp3⟩ : ∃ p, Hid (pickN d2 8 = p) := ⟨_, rfl⟩
  go_enter Tryd.func39, Tryd.ntmps39
  go_wp2_with fail
  refine (next_any n _ _ _ hp1 hd1 _ ?hm _ ?hc ?hf).mono ?_
  (case hm => decide)
  (case hc => first | with_reducible assumption | go_simp)
  (case hf => first | with_reducible assumption | go_simp)
  rintro e w2 ⟨rfl, rfl⟩
  go_wp2_with fail
  refine (rinfo19 _).mono ?_
  rintro e w1 ⟨rfl, hb⟩
  have hz : w.heap.size + 2 < w1.heap.size := by have := hb.size; simp at this; omega
  have hz0 : w.heap.size < w1.heap.size := by omega
  have hz1 : w.heap.size + 1 < w1.heap.size := by omega
  obtain ⟨cw10, fw10⟩ := kc hb (w.heap.size) 0 0 (by go_simp) (by go_simp)
  obtain ⟨cw11, fw11⟩ := kc hb (w.heap.size) 1 0 (by go_simp) (by go_simp)
  obtain ⟨cw12, fw12⟩ := kc hb (w.heap.size) 2 0 (by go_simp) (by go_simp)
  obtain ⟨cw13, fw13⟩ := kc hb (w.heap.size) 3 0 (by go_simp) (by go_simp)
  obtain ⟨cw14, fw14⟩ := kc hb (w.heap.size) 4 0 (by go_simp) (by go_simp)
  obtain ⟨cw15, fw15⟩ := kc hb (w.heap.size + 1) 0 d1 (by go_simp) (by go_simp)
  obtain ⟨cw16, fw16⟩ := kc hb (w.heap.size + 2) 0 19 (by go_simp) (by go_simp)
  obtain ⟨cw17, fw17⟩ := kc hb (w.heap.size + 2) 1 0 (by go_simp) (by go_simp)
  obtain ⟨cw18, fw18⟩ := kc hb (w.heap.size + 2) 2 0 (by go_simp) (by go_simp)
  obtain ⟨cw19, fw19⟩ := kc hb (w.heap.size + 2) 3 0 (by go_simp) (by go_simp)
  obtain ⟨cw110, fw110⟩ := kc hb (w.heap.size + 2) 4 0 (by go_simp) (by go_simp)
  have HB := Aside0.mk (below_step (by repeat (first | with_reducible exact Below.refl _ _ | with_reducible refine Below.setCell ?_ (by first | omega | (simp <;> omega)) _ | with_reducible refine Below.alloc ?_ (by first | omega | (simp <;> omega)) _)) hb : Below w.heap.size w w1)
  clear hb
  go_wp2_with fail
  refine (next_any d1 _ _ _ hp2 hd2 _ ?hm _ ?hc ?hf).mono ?_
  (case hm => decide)
  (case hc => first | with_reducible assumption | go_simp)
  (case hf => first | with_reducible assumption | go_simp)
  rintro e w2 ⟨rfl, rfl⟩
  go_wp2_with fail
  refine (next_any d2 _ _ _ hp3 hd3 _ ?hm _ ?hc ?hf).mono ?_
  (case hm => decide)
  (case hc => first | with_reducible assumption | go_simp)
  (case hf => first | with_reducible assumption | go_simp)
  rintro e w2 ⟨rfl, rfl⟩
  go_wp2_with fail
  refine end39 19 p2 p3 0 0 ?hp ?hd ?c0 ?c1 ?c2 ?c3 ?c4 ?hv ?hb
  case hp => rfl
  case hd => rfl
  case hv => rw [insD_19]; simp only [hd1.out, hp2.out, hd2.out, hp3.out]
  case c0 => go_simp
  case c1 => go_simp
  case c2 => go_simp
  case c3 => go_simp
  case c4 => go_simp
  case hb => repeat (first | with_reducible exact HB.out | with_reducible exact Below.refl _ _ | with_reducible refine Below.setCell ?_ (by first | omega | (simp <;> omega)) _ | with_reducible refine Below.alloc ?_ (by first | omega | (simp <;> omega)) _)
end Go.Proofs.YtcjidibdidijaaaDoor
