/- fullingkeep.Pick, Word and fullingkeep2.Digits.Next: what they hand back. -/
import Derived.Test.YtcjidibdidijaaaDoorTab
import Derived.Outline
import Derived.Lib.Hide
namespace Go.Proofs.YtcjidibdidijaaaDoor
set_option linter.unusedVariables false
set_option linter.unusedSimpArgs false
open Go.RowKit Go.Proofs.YtcjidibdidijaaaDoorW.PrintWords

def pickN (n m : Int) : Int := if n.tmod m < 0 then wrap64 (n.tmod m + m) else n.tmod m
def nextN (n m : Int) : Int := wrap64 ((wrap64 (n - pickN n m)).tdiv m)
theorem pickN_range (n m : Int) (h : 0 < m) (h2 : m < 9223372036854775807) : 0 ≤ pickN n m ∧ pickN n m < m := by
  have h3 := Int.tmod_lt_of_pos n h
  have h4 : -m < n.tmod m := by
    have := Int.natAbs_tmod n m
    have h5 := Nat.mod_lt n.natAbs (show 0 < m.natAbs by omega)
    omega
  unfold pickN
  split
  · have : wrap64 (n.tmod m + m) = n.tmod m + m := by unfold wrap64; omega
    omega
  · omega
theorem pick_calls (n m : Int) (h0 : 0 < m) (w : World) : Calls Tryd.prog 19 #[.int .i64 n, .int .i64 m] w fun e w' => e = .returned (.int .i64 (pickN n m)) ∧ w = w' := by
  have h1 : ¬ m = 0 := by omega
  have h2 : (m == 0) = false := beq_eq_false_iff_ne.2 h1
  by_cases c : n.tmod m < 0
  · rw [show pickN n m = wrap64 (n.tmod m + m) by unfold pickN; rw [if_pos c]]
    go_enter Tryd.func19, Tryd.ntmps19
    go_wp2
    go_ret
    exact ⟨rfl, rfl⟩
  · rw [show pickN n m = n.tmod m by unfold pickN; rw [if_neg c]]
    have c' : decide (n.tmod m < 0) = false := decide_eq_false c
    go_enter Tryd.func19, Tryd.ntmps19
    go_wp2
    go_ret
    exact ⟨rfl, rfl⟩
theorem next_calls (n m : Int) (b : Nat) (h0 : 0 < m) (w : World) (hc : w.cell? ⟨b, 0, none⟩ = some (.int .i64 n)) (hf : w.frozen? ⟨b, 0, none⟩ = false) :
    Calls Tryd.prog 74 #[.pointer (some ⟨b, 0, none⟩), .int .i64 m] w fun e w' => e = .returned (.int .i64 (pickN n m)) ∧ w' = w.setCell ⟨b, 0, none⟩ (.int .i64 (nextN n m)) := by
  have h1 : ¬ m = 0 := by omega
  have hp := pick_calls n m h0
  have hn : nextN n m = wrap64 ((wrap64 (n - pickN n m)).tdiv m) := rfl
  generalize nextN n m = q at *
  generalize pickN n m = p at *
  go_enter Tryd.func74, Tryd.ntmps74
  go_wp2_with (go_at_call 19; refine (hp _).mono ?_; rintro e w2 ⟨rfl, rfl⟩)
  go_ret
  exact ⟨rfl, by rw [← hn]⟩

def edges : List Int := [0, 1, -1, 2, -9223372036854775808, 9223372036854775807, 4294967296, -2147483648, 63, 64]
def wordN (n raw : Int) : Int := if pickN n 24 < 10 then edges.getD (pickN n 24).toNat 0 else if pickN n 24 < 22 then wrap64 (pickN (wrap64 (n.tdiv 24)) 17 - 6) else raw
set_option maxRecDepth 100000 in
set_option maxHeartbeats 2000000 in
theorem word_calls (n raw : Int) (w : World) : Calls Tryd.prog 57 #[.int .i64 n, .int .i64 raw] w fun e w' => e = .returned (.int .i64 (wordN n raw)) ∧ Below w.heap.size w w' := by
  have hp := pick_calls n 24 (by omega)
  have hq := pick_calls (wrap64 (n.tdiv 24)) 17 (by omega)
  have hr := pickN_range n 24 (by omega) (by omega)
  unfold wordN
  generalize pickN (wrap64 (n.tdiv 24)) 17 = q at *
  generalize pickN n 24 = p at *
  by_cases c : p < 10
  · rw [if_pos c]
    have : p = 0 ∨ p = 1 ∨ p = 2 ∨ p = 3 ∨ p = 4 ∨ p = 5 ∨ p = 6 ∨ p = 7 ∨ p = 8 ∨ p = 9 := by omega
    rcases this with rfl | rfl | rfl | rfl | rfl | rfl | rfl | rfl | rfl | rfl
    all_goals
      go_enter Tryd.func57, Tryd.ntmps57
      go_wp2_with (go_at_call 19; refine (hp _).mono ?_; rintro e w2 ⟨rfl, rfl⟩)
      go_ret
      exact ⟨rfl, (Below.refl _ _).alloc (Nat.le_refl _) _⟩
  · rw [if_neg c]
    have c1 : decide (p < 10) = false := decide_eq_false c
    by_cases d : p < 22
    · rw [if_pos d]
      go_enter Tryd.func57, Tryd.ntmps57
      go_wp2_with (go_at_call 19; first | (with_reducible refine (hq _).mono ?_; rintro e w2 ⟨rfl, rfl⟩) | (with_reducible refine (hp _).mono ?_; rintro e w2 ⟨rfl, rfl⟩))
      go_ret
      exact ⟨rfl, (Below.refl _ _).alloc (Nat.le_refl _) _⟩
    · rw [if_neg d]
      have d1 : decide (p < 22) = false := decide_eq_false d
      go_enter Tryd.func57, Tryd.ntmps57
      go_wp2_with (go_at_call 19; refine (hp _).mono ?_; rintro e w2 ⟨rfl, rfl⟩)
      go_ret
      exact ⟨rfl, (Below.refl _ _).alloc (Nat.le_refl _) _⟩
end Go.Proofs.YtcjidibdidijaaaDoor
