/- word.digits: what the Go text hands back is the number's decimal digits. -/
import Derived.Test.YtlilbddpelbngaaProg
import Derived.Below
import Derived.WalkKit
import Derived.WalkSpells
import Derived.KernelRfl
import Derived.Laws.BytesArg
import Derived.Laws.Slices
import Derived.Lib.Hide
namespace Go.Proofs.Ytlilbddpelbngaa
set_option linter.unusedVariables false
set_option linter.unusedSimpArgs false
open Go.RowKit

def decs : Nat → Nat → List UInt8
  | 0, _ => []
  | k + 1, n => if n < 10 then [UInt8.ofNat (48 + n)] else decs k (n / 10) ++ [UInt8.ofNat (48 + n % 10)]

def DigRel (m : Nat) (w : World) (M a : Nat) (xs : List Int) (wr : World) : Prop :=
  a ≤ 20 ∧ 1 ≤ a ∧ M < 10 ^ a ∧ xs.length = 20 - a ∧ decs 20 m = decs a M ++ xs.map (fun n => UInt8.ofNat n.toNat) ∧
  (∀ j, j < 20 → ∃ v, wr.cell? ⟨w.heap.size, j, none⟩ = some v) ∧ (∀ j, wr.frozen? ⟨w.heap.size, j, none⟩ = false) ∧
  (∀ j, j < 20 - a → wr.cell? ⟨w.heap.size, a + j, none⟩ = some (.int .u8 (xs.getD j 0))) ∧ Below w.heap.size w wr ∧ M < 18446744073709551616

theorem u64_id (x : Int) (h : 0 ≤ x) (h' : x < 18446744073709551616) : IntKind.u64.wrap x = x := by
  unfold IntKind.wrap IntKind.bits IntKind.signed
  simp
  omega

theorem zero_cells (w : World) (c : Array Value) (e : TypeId) (j : Nat) (hj : j < c.size) : ∃ v, (w.alloc (.cells c e)).cell? ⟨w.heap.size, j, none⟩ = some v := by
  refine ⟨c[j], ?_⟩
  simp [World.cell?, World.alloc, -World.alloc_eq, hj]

theorem zero_frozen (w : World) (c : Array Value) (e : TypeId) (j : Nat) : (w.alloc (.cells c e)).frozen? ⟨w.heap.size, j, none⟩ = false := by
  simp [World.frozen?, World.alloc, -World.alloc_eq]

theorem cell_set_other {w : World} {b i j : Nat} {v : Value} (h : i ≠ j) : (w.setCell ⟨b, i, none⟩ v).cell? ⟨b, j, none⟩ = w.cell? ⟨b, j, none⟩ :=
  World.cell?_setCell_other _ _ _ _ (fun e => h (congrArg Addr.off e))

theorem cell_set_same {w : World} {b i : Nat} {v u : Value} (h : w.cell? ⟨b, i, none⟩ = some u) : (w.setCell ⟨b, i, none⟩ v).cell? ⟨b, i, none⟩ = some v :=
  World.cell?_setCell_same _ _ _ h

theorem frozen_set {w : World} {b i j : Nat} {v : Value} : (w.setCell ⟨b, i, none⟩ v).frozen? ⟨b, j, none⟩ = w.frozen? ⟨b, j, none⟩ :=
  World.frozen?_setCell _ _ _ _

/-- One digit more. -/
theorem dig_step {m : Nat} {w : World} {M A : Nat} {xs : List Int} {wr : World} (h : DigRel m w M (A + 1) xs wr) :
    (xs.length = 20 - (A + 1)) ∧ ((48 + (M : Int) % 10) :: xs).length = 20 - A ∧
    (∀ j, j < 20 - A → (wr.setCell ⟨w.heap.size, A, none⟩ (.int .u8 (48 + (M : Int) % 10))).cell? ⟨w.heap.size, A + j, none⟩ = some (.int .u8 (((48 + (M : Int) % 10) :: xs).getD j 0))) ∧
    Below w.heap.size w (wr.setCell ⟨w.heap.size, A, none⟩ (.int .u8 (48 + (M : Int) % 10))) := by
  obtain ⟨h1, h2, h3, h4, h5, h6, h7, h8, h9, h10⟩ := h
  refine ⟨h4, by simp; omega, fun j hj => ?_, h9.setCell (Nat.le_refl _) _⟩
  cases j with
  | zero =>
    obtain ⟨u, hu⟩ := h6 A (by omega)
    rw [Nat.add_zero, cell_set_same hu]
    rfl
  | succ j =>
    rw [cell_set_other (by omega), show A + (j + 1) = A + 1 + j by omega, h8 j (by omega)]
    rfl

theorem byte_of (M : Nat) : UInt8.ofNat (48 + (M : Int) % 10).toNat = UInt8.ofNat (48 + M % 10) := by congr 1

theorem dig_end {m : Nat} {w : World} {M A : Nat} {xs : List Int} {wr : World} (h : DigRel m w M (A + 1) xs wr) (hz : M / 10 = 0) :
    (strOfNums ((48 + (M : Int) % 10) :: xs)) = ⟨(decs 20 m).toArray⟩ := by
  obtain ⟨h1, h2, h3, h4, h5, h6, h7, h8, h9, h10⟩ := h
  have hlt : M < 10 := by omega
  rw [h5]
  have hm : M % 10 = M := by omega
  simp [decs, hlt, strOfNums, byte_of, hm]

theorem dig_more {m : Nat} {w : World} {M A : Nat} {xs : List Int} {wr : World} (h : DigRel m w M (A + 1) xs wr) (hz : M / 10 ≠ 0) :
    DigRel m w (M / 10) A ((48 + (M : Int) % 10) :: xs) (wr.setCell ⟨w.heap.size, A, none⟩ (.int .u8 (48 + (M : Int) % 10))) := by
  obtain ⟨k1, k2, k3, k4⟩ := dig_step h
  obtain ⟨h1, h2, h3, h4, h5, h6, h7, h8, h9, h10⟩ := h
  have hge : ¬ M < 10 := by omega
  have hA : 1 ≤ A := by
    cases A with
    | zero => simp at h3; omega
    | succ A => omega
  refine ⟨by omega, hA, ?_, k2, ?_, fun j hj => ?_, fun j => ?_, k3, k4, by omega⟩
  · rw [Nat.pow_succ] at h3
    omega
  · rw [h5]
    simp [decs, hge, byte_of]
  · by_cases e : A = j
    · subst e
      obtain ⟨u, hu⟩ := h6 A hj
      exact ⟨_, cell_set_same hu⟩
    · rw [cell_set_other e]
      exact h6 j hj
  · rw [frozen_set]
    exact h7 j

set_option maxHeartbeats 400000 in
theorem digits_calls (m : Nat) (w : World) (hm : m < 18446744073709551616) : Calls Try.prog 25 #[.int .u64 m] w fun e w' => e = .returned (.string ⟨(decs 20 m).toArray⟩) ∧ Below w.heap.size w w' := by
  go_enter Try.func25, Try.ntmps25
  go_wp2
  go_loopw [0, 4] (fun n a wr => ∃ (M A : Nat) (xs : List Int), n = .int .u64 M ∧ a = .int .i64 A ∧ DigRel m w M A xs wr) (fun n _ _ => (intOf n).toNat)
  case atStart =>
    refine ⟨m, 20, [], rfl, rfl, by omega, by omega, by omega, rfl, by simp, ?_, ?_, fun j hj => by omega, (Below.refl _ _).alloc (Nat.le_refl _) _, hm⟩
    · intro j hj
      exact zero_cells w _ _ j hj
    · intro j
      exact zero_frozen w _ _ j
  case round =>
    obtain ⟨M, A, xs, rfl, rfl, h⟩ := hrel
    obtain ⟨A, rfl⟩ : ∃ A', A = A' + 1 := ⟨A - 1, by have := h.2.1; omega⟩
    have h1 := h.1
    obtain ⟨v, hv⟩ := h.2.2.2.2.2.1 A (by omega)
    have hf := h.2.2.2.2.2.2.1 A
    have hM : IntKind.u64.wrap ((M : Int) / 10) = (((M / 10 : Nat)) : Int) := u64_id _ (by omega) (by have := h.2.2.2.2.2.2.2.2.2; omega)
    have hsl : ∀ W, (Instr.sliceAt 45 (.pointer (some ⟨w.heap.size, 0, none⟩)) (some (.int .i64 (A : Int))) none none).run Try.prog W = .ok (.slice (some ⟨w.heap.size, A, none⟩) (20 - A) (20 - A)) W := fun W => by
      have hal : Try.prog.arrayLen 45 = 20 := by kernel_rfl
      have hel : Try.prog.elem 45 = 5 := by kernel_rfl
      rw [run_sliceAt_array_l W 45 _ (by kernel_rfl) .i64 A (by omega) (by rw [hal]; omega), hal, hel]
      have hsz : (sizeOf 5).run Try.prog W = .ok 1 W := by kernel_rfl
      rw [hsz]
      simp only [Result.andThen, slicedAt, Int.toNat_natCast]
      rw [if_neg (by omega)]
      simp [Addr.add]
      exact fun e => e.symm
    have hcv := run_convert_bytes_arg (P := Try.prog) (wr.setCell ⟨w.heap.size, A, none⟩ (.int .u8 (48 + (M : Int) % 10))) 46 5 Try.underlying46 Try.underlying5 w.heap.size A (20 - A) (20 - A) ((48 + (M : Int) % 10) :: xs) (dig_step h).2.1 (dig_step h).2.2.1 9 Try.underlying9
    have H := Lib.hid h
    have HM := Lib.hid hM
    clear h hM hm
    go_wp2
    · have hz : M / 10 = 0 := by
        have q := eq_of_beq ‹(IntKind.u64.wrap ((M : Int) / 10) == 0) = true›
        rw [HM.out] at q
        omega
      go_ret
      exact ⟨by rw [dig_end H.out hz]; rfl, (dig_step H.out).2.2.2⟩
    · have hz : M / 10 ≠ 0 := by
        have q := ‹(IntKind.u64.wrap ((M : Int) / 10) == 0) = false›
        rw [HM.out] at q
        intro e
        rw [e] at q
        simp at q
      rw [HM.out]
      refine ⟨⟨_, _, _, rfl, rfl, dig_more H.out hz⟩, ?_⟩
      simp [intOf]
      omega
end Go.Proofs.Ytlilbddpelbngaa
