/- machine.Info: what it hands back, where the program's table reads as its text lays it. -/
import Derived.Test.YtcjidibdidijaaaDoorProg
import Derived.Below
import Derived.WalkKit
import Derived.WalkSpells
import Derived.KernelRfl
import Derived.Test.YtcjidibdidijaaaDoorWWords
namespace Go.Proofs.YtcjidibdidijaaaDoor
set_option linter.unusedVariables false
set_option linter.unusedSimpArgs false
open Go.RowKit Go.Proofs.YtcjidibdidijaaaDoorW.PrintWords

def tabT : List (List UInt8 × Int × Bool × Bool × Bool × Bool × Int) := [
  ([110, 111, 112], 1, false, false, false, false, 1),
  ([114, 101, 116], 1, false, false, false, false, 1),
  ([116, 105, 99, 107], 1, false, false, false, false, 1),
  ([116, 114, 97, 112], 8, false, false, false, true, 1),
  ([106, 109, 112], 8, false, false, false, false, 1),
  ([99, 97, 108, 108], 5, false, false, false, false, 1),
  ([106, 122], 5, true, false, false, false, 1),
  ([106, 110, 122], 5, true, false, false, false, 1),
  ([111, 117, 116], 2, true, false, false, false, 1),
  ([109, 111, 118], 3, false, true, true, false, 1),
  ([99, 109, 111, 118, 122], 4, true, true, true, false, 1),
  ([99, 109, 111, 118, 110, 122], 4, true, true, true, false, 1),
  ([108, 100, 105], 5, false, true, false, false, 1),
  ([108, 100, 99], 6, false, true, false, false, 3),
  ([110, 101, 103], 2, true, true, false, false, 1),
  ([110, 111, 116], 2, true, true, false, false, 1),
  ([97, 100, 100], 3, true, true, true, false, 1),
  ([115, 117, 98], 3, true, true, true, false, 1),
  ([109, 117, 108], 3, true, true, true, false, 1),
  ([100, 105, 118], 3, true, true, true, true, 1),
  ([114, 101, 109], 3, true, true, true, true, 1),
  ([97, 110, 100], 3, true, true, true, false, 1),
  ([111, 114], 3, true, true, true, false, 1),
  ([120, 111, 114], 3, true, true, true, false, 1),
  ([115, 104, 108], 3, true, true, true, false, 1),
  ([115, 104, 114], 3, true, true, true, false, 1),
  ([115, 97, 114], 3, true, true, true, false, 1),
  ([101, 113], 3, true, true, true, false, 1),
  ([110, 101], 3, true, true, true, false, 1),
  ([108, 116], 3, true, true, true, false, 1),
  ([108, 101], 3, true, true, true, false, 1),
  ([108, 116, 117], 3, true, true, true, false, 1),
  ([97, 100, 100, 105], 5, true, true, false, false, 1),
  ([108, 100], 7, false, true, true, true, 1),
  ([115, 116], 7, true, false, true, true, 1),
  ([108, 100, 115], 5, false, true, false, false, 1),
  ([115, 116, 115], 5, true, false, false, false, 1)]
theorem tabT_len : tabT.length = 37 := rfl
def tabRow (i : Nat) : List UInt8 × Int × Bool × Bool × Bool × Bool × Int := tabT.getD i ([], 0, false, false, false, false, 0)

/-- The table reads as the program's text lays it. -/
def TabOK (w : World) : Prop := ∃ tb off cap, 0 < w.heap.size ∧ tb < w.heap.size ∧ w.cell? ⟨0, 0, none⟩ = some (.slice (some ⟨tb, off, none⟩) 37 cap) ∧
  ∀ i, i < 37 → w.cell? ⟨tb, off + i * 7, none⟩ = some (.string ⟨(tabRow i).1.toArray⟩) ∧ w.cell? ⟨tb, off + i * 7 + 1, none⟩ = some (.int .i64 (tabRow i).2.1) ∧
    w.cell? ⟨tb, off + i * 7 + 2, none⟩ = some (.bool (tabRow i).2.2.1) ∧ w.cell? ⟨tb, off + i * 7 + 3, none⟩ = some (.bool (tabRow i).2.2.2.1) ∧
    w.cell? ⟨tb, off + i * 7 + 4, none⟩ = some (.bool (tabRow i).2.2.2.2.1) ∧ w.cell? ⟨tb, off + i * 7 + 5, none⟩ = some (.bool (tabRow i).2.2.2.2.2.1) ∧
    w.cell? ⟨tb, off + i * 7 + 6, none⟩ = some (.int .i64 (tabRow i).2.2.2.2.2.2)
theorem TabOK.below {w w' : World} (h : TabOK w) (hb : Below w.heap.size w w') : TabOK w' := by
  obtain ⟨tb, off, cap, h0, h1, h2, h3⟩ := h
  have c : ∀ j, w'.cell? ⟨tb, j, none⟩ = w.cell? ⟨tb, j, none⟩ := fun j => hb.cell (p := ⟨tb, j, none⟩) h1
  refine ⟨tb, off, cap, Nat.lt_of_lt_of_le h0 hb.size, Nat.lt_of_lt_of_le h1 hb.size, (hb.cell (p := ⟨0, 0, none⟩) h0).trans h2, fun i hi => ?_⟩
  rw [c, c, c, c, c, c, c]
  exact h3 i hi
theorem TabOK.aside {w w' : World} (h : TabOK w) (hb : Below w.heap.size w w') : Aside0 (TabOK w') := ⟨h.below hb⟩
theorem TabOK.drewN {w : World} (h : TabOK w) (n : Nat) : TabOK (w.drewN n) := h.below (pw_below_drewN (Below.refl _ _) n)

/-- What machine.Info hands back. -/
def infoF (a0 : Int) : Option (ByteArray × Int × Bool × Bool × Bool × Bool × Int × Bool) :=
  if a0 < 1 then some (⟨#[]⟩, 0, false, false, false, false, 0, false) else if a0 > 37 then some (⟨#[]⟩, 0, false, false, false, false, 0, false)
  else some (⟨(tabRow (a0.toNat - 1)).1.toArray⟩, (tabRow (a0.toNat - 1)).2.1, (tabRow (a0.toNat - 1)).2.2.1, (tabRow (a0.toNat - 1)).2.2.2.1, (tabRow (a0.toNat - 1)).2.2.2.2.1, (tabRow (a0.toNat - 1)).2.2.2.2.2.1, (tabRow (a0.toNat - 1)).2.2.2.2.2.2, true)

set_option maxHeartbeats 400000 in
theorem info_out (a0 : Int) (w : World) (h : a0 < 1 ∨ a0 > 37) : Calls Tryd.prog 59 #[.int .i64 a0] w fun e w' =>
    e = .returned (.tuple #[.agg #[.string ⟨#[]⟩, .int .i64 0, .bool false, .bool false, .bool false, .bool false, .int .i64 0], .bool false]) ∧ Below w.heap.size w w' := by
  by_cases c : a0 < 1
  · have k1 : decide (a0 < 1) = true := decide_eq_true c
    go_enter Tryd.func59, Tryd.ntmps59
    go_wp2
    refine bodyPost_ret (v := .tuple #[.agg #[.string ⟨#[]⟩, .int .i64 0, .bool false, .bool false, .bool false, .bool false, .int .i64 0], .bool false]) (by simp [results, Tryd.results59, go_sem]) rfl ⟨rfl, ?_⟩
    exact (Below.refl _ _).alloc (Nat.le_refl _) _
  · have k1 : decide (a0 < 1) = false := decide_eq_false c
    have k2 : decide (37 < a0) = true := decide_eq_true (by omega)
    go_enter Tryd.func59, Tryd.ntmps59
    go_wp2
    refine bodyPost_ret (v := .tuple #[.agg #[.string ⟨#[]⟩, .int .i64 0, .bool false, .bool false, .bool false, .bool false, .int .i64 0], .bool false]) (by simp [results, Tryd.results59, go_sem]) rfl ⟨rfl, ?_⟩
    exact (Below.refl _ _).alloc (Nat.le_refl _) _
set_option maxHeartbeats 400000 in
theorem info_in (op : Nat) (h1 : 1 ≤ op) (h2 : op ≤ 37) (w : World) (tb off cap : Nat) (hz : 0 < w.heap.size) (ht : tb < w.heap.size) (hg : w.cell? ⟨0, 0, none⟩ = some (.slice (some ⟨tb, off, none⟩) 37 cap))
    (nm : ByteArray) (f wd : Int) (b1 b2 b3 b4 : Bool) (h0 : w.cell? ⟨tb, off + (op - 1) * 7, none⟩ = some (.string nm)) (h1' : w.cell? ⟨tb, off + (op - 1) * 7 + 1, none⟩ = some (.int .i64 f))
    (h2' : w.cell? ⟨tb, off + (op - 1) * 7 + 2, none⟩ = some (.bool b1)) (h3' : w.cell? ⟨tb, off + (op - 1) * 7 + 3, none⟩ = some (.bool b2)) (h4' : w.cell? ⟨tb, off + (op - 1) * 7 + 4, none⟩ = some (.bool b3))
    (h5' : w.cell? ⟨tb, off + (op - 1) * 7 + 5, none⟩ = some (.bool b4)) (h6' : w.cell? ⟨tb, off + (op - 1) * 7 + 6, none⟩ = some (.int .i64 wd)) :
    Calls Tryd.prog 59 #[.int .i64 op] w fun e w' => e = .returned (.tuple #[.agg #[.string nm, .int .i64 f, .bool b1, .bool b2, .bool b3, .bool b4, .int .i64 wd], .bool true]) ∧ Below w.heap.size w w' := by
  have k1 : decide ((op : Int) < 1) = false := decide_eq_false (by omega)
  have k3 : decide (37 < (op : Int)) = false := decide_eq_false (by omega)
  go_enter Tryd.func59, Tryd.ntmps59
  go_wp2
  refine bodyPost_ret (v := .tuple #[.agg #[.string nm, .int .i64 f, .bool b1, .bool b2, .bool b3, .bool b4, .int .i64 wd], .bool true]) (by simp [results, Tryd.results59, go_sem]) rfl ⟨rfl, ?_⟩
  exact (Below.refl _ _).alloc (Nat.le_refl _) _

theorem info_calls (a0 : Int) (r1 : ByteArray) (r2 : Int) (r3 r4 r5 r6 : Bool) (r7 : Int) (r8 : Bool) (w : World) (h : infoF a0 = some (r1, r2, r3, r4, r5, r6, r7, r8)) (HT : Aside0 (TabOK w)) :
    Calls Tryd.prog 59 #[.int .i64 a0] w fun e w' => e = .returned (.tuple #[.agg #[.string r1, .int .i64 r2, .bool r3, .bool r4, .bool r5, .bool r6, .int .i64 r7], .bool r8]) ∧ Below w.heap.size w w' := by
  unfold infoF at h
  by_cases c1 : a0 < 1
  · rw [if_pos c1] at h
    simp only [Option.some.injEq, Prod.mk.injEq] at h
    obtain ⟨rfl, rfl, rfl, rfl, rfl, rfl, rfl, rfl⟩ := h
    exact info_out a0 w (.inl c1)
  · rw [if_neg c1] at h
    by_cases c2 : a0 > 37
    · rw [if_pos c2] at h
      simp only [Option.some.injEq, Prod.mk.injEq] at h
      obtain ⟨rfl, rfl, rfl, rfl, rfl, rfl, rfl, rfl⟩ := h
      exact info_out a0 w (.inr c2)
    · rw [if_neg c2] at h
      simp only [Option.some.injEq, Prod.mk.injEq] at h
      obtain ⟨rfl, rfl, rfl, rfl, rfl, rfl, rfl, rfl⟩ := h
      obtain ⟨op, rfl⟩ := Int.eq_ofNat_of_zero_le (show 0 ≤ a0 by omega)
      obtain ⟨tb, off, cap, h0, h1, h2, h3⟩ := HT.out
      rw [Int.toNat_natCast]
      obtain ⟨t0, t1, t2, t3, t4, t5, t6⟩ := h3 (op - 1) (by omega)
      exact info_in op (by omega) (by omega) w tb off cap h0 h1 h2 _ _ _ _ _ _ _ t0 t1 t2 t3 t4 t5 t6
end Go.Proofs.YtcjidibdidijaaaDoor
