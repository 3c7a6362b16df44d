/- machine.Valid and encoding.appendInstr, for every operation: the contracts that the other texts call. -/
import Derived.Test.YtcjidibdidijaaaDoorVal
import Derived.Test.YtcjidibdidijaaaDoorApp
namespace Go.Proofs.YtcjidibdidijaaaDoor
set_option linter.unusedVariables false
set_option linter.unusedSimpArgs false
open Go.RowKit Go.Proofs.YtcjidibdidijaaaDoorW.PrintWords Go.Proofs.YtcjidibdidijaaaDoorW.PrintMore Go.Proofs.YtcjidibdidijaaaDoorW.PrintLast

theorem form_rows : ∀ k, k < 37 → (tabRow k).2.1 = 1 ∨ (tabRow k).2.1 = 2 ∨ (tabRow k).2.1 = 3 ∨ (tabRow k).2.1 = 4 ∨ (tabRow k).2.1 = 5 ∨ (tabRow k).2.1 = 6 ∨ (tabRow k).2.1 = 7 ∨ (tabRow k).2.1 = 8 := by decide +kernel
theorem formOf_nat (k : Nat) (h1 : 1 ≤ k) (h2 : k ≤ 37) : formOf (k : Int) = (tabRow (k - 1)).2.1 := by
  unfold formOf
  rw [if_pos ⟨by omega, by omega⟩]
  simp
theorem formOf_out (op : Int) (h : op < 1 ∨ op > 37) : formOf op = 0 := by
  unfold formOf
  rw [if_neg (by omega)]
theorem infoF_form (op : Int) : ∃ nm b1 b2 b3 b4 wd b5, infoF op = some (nm, formOf op, b1, b2, b3, b4, wd, b5) := by
  by_cases h : op < 1 ∨ op > 37
  · rw [formOf_out op h]
    unfold infoF
    by_cases d : op < 1
    · rw [if_pos d]; exact ⟨_, _, _, _, _, _, _, rfl⟩
    · rw [if_neg d, if_pos (by omega)]; exact ⟨_, _, _, _, _, _, _, rfl⟩
  · unfold infoF formOf
    rw [if_neg (by omega), if_neg (by omega), if_pos (by omega)]
    exact ⟨_, _, _, _, _, _, _, rfl⟩

set_option maxRecDepth 100000 in
set_option maxHeartbeats 1000000 in
theorem valid_out (op a b c n : Int) (w : World) (h : op < 1 ∨ op > 37) (HT : Aside0 (TabOK w)) :
    Calls Tryd.prog 69 #[.agg #[.int .i64 op, .int .i64 a, .int .i64 b, .int .i64 c, .int .i64 n]] w fun e w' => e = .returned (.bool (valB op a b c n)) ∧ Below w.heap.size w w' := by
  have hv : valB op a b c n = false := decide_eq_false (fun hv => by have := hv.1; have := hv.2.1; omega)
  rw [hv]
  have HI := Lib.hid (fun W => info_out op W h)
  go_enter Tryd.func69, Tryd.ntmps69
  go_wp2_with fail
  refine (HI.out _).mono ?_
  rintro e w1 ⟨rfl, hb⟩
  have HB := Aside0.mk (below_step ((Below.refl w.heap.size w).alloc (Nat.le_refl _) _) hb)
  have hz : w.heap.size < w1.heap.size := by have := hb.size; simp at this; omega
  clear hb
  go_wp2_with fail
  go_ret
  exact ⟨rfl, by repeat (first | exact HB.out | refine Below.setCell ?_ (by first | omega | (simp <;> omega)) _ | refine Below.alloc ?_ (by first | omega | (simp <;> omega)) _)⟩

theorem valid_calls (op a b c n : Int) (r : Bool) (w : World) (h : some (valB op a b c n) = some r) (HT : Aside0 (TabOK w)) :
    Calls Tryd.prog 69 #[.agg #[.int .i64 op, .int .i64 a, .int .i64 b, .int .i64 c, .int .i64 n]] w fun e w' => e = .returned (.bool r) ∧ Below w.heap.size w w' := by
  obtain rfl := Option.some.inj h
  by_cases hr : op < 1 ∨ op > 37
  · exact valid_out op a b c n w hr HT
  · obtain ⟨k, rfl⟩ : ∃ k : Nat, op = k := ⟨op.toNat, by omega⟩
    have k1 : 1 ≤ k := by omega
    have k2 : k ≤ 37 := by omega
    have hf := formOf_nat k k1 k2
    have HI := fun W (hW : TabOK W) => info_at k k1 k2 W (Aside0.mk hW)
    have hc := form_rows (k - 1) (by omega)
    by_cases h6 : k = 6
    · subst h6
      rw [show (tabRow (6 - 1)).2.1 = 5 from rfl] at hf HI
      exact val_5c _ a b c n w (by omega) (by omega) rfl hf HT _ _ _ _ _ _ (Lib.hid HI)
    · have e6 : ((k : Int) == 6) = false := beq_eq_false_iff_ne.2 (by omega)
      rcases hc with hc | hc | hc | hc | hc | hc | hc | hc <;> rw [hc] at hf HI
      · exact val_1 _ a b c n w (by omega) (by omega) e6 hf HT _ _ _ _ _ _ (Lib.hid HI)
      · exact val_2 _ a b c n w (by omega) (by omega) e6 hf HT _ _ _ _ _ _ (Lib.hid HI)
      · exact val_3 _ a b c n w (by omega) (by omega) e6 hf HT _ _ _ _ _ _ (Lib.hid HI)
      · exact val_4 _ a b c n w (by omega) (by omega) e6 hf HT _ _ _ _ _ _ (Lib.hid HI)
      · exact val_5 _ a b c n w (by omega) (by omega) e6 hf HT _ _ _ _ _ _ (Lib.hid HI)
      · exact val_6 _ a b c n w (by omega) (by omega) e6 hf HT _ _ _ _ _ _ (Lib.hid HI)
      · exact val_7 _ a b c n w (by omega) (by omega) e6 hf HT _ _ _ _ _ _ (Lib.hid HI)
      · exact val_8 _ a b c n w (by omega) (by omega) e6 hf HT _ _ _ _ _ _ (Lib.hid HI)

def appW (a0 a1 a2 a3 a4 : Int) : List Int :=
  if formOf a0 = 6 then [wordOf a0 a1 a2 a3, a4 % 4294967296, IntKind.u64.wrap a4 / 4294967296 % 4294967296]
  else [bits .or .u32 (wordOf a0 a1 a2 a3) (shl .u32 (a4 % 4294967296) (shf (formOf a0)))]
def appF (l : List Int) (a0 a1 a2 a3 a4 : Int) : Option (List Int) := if l.length < 35184372088830 then some (l ++ appW a0 a1 a2 a3 a4) else none
theorem app_calls (P0 : Nat → Prop) (u : Value) (l : List Int) (a0 a1 a2 a3 a4 : Int) (r : List Int) (w0 w : World) (hB : Below w0.heap.size w0 w)
    (ho0 : Kd.R (Kd.int .u32) 53 w w0.heap.size P0 u l) (h : appF l a0 a1 a2 a3 a4 = some r) (HT : Aside0 (TabOK w0)) :
    Calls Tryd.prog 70 #[u, .agg #[.int .i64 a0, .int .i64 a1, .int .i64 a2, .int .i64 a3, .int .i64 a4]] w fun e w' => ∃ v0_ : Value, e = .returned (v0_) ∧ Kd.R (Kd.int .u32) 53 w' w0.heap.size (fun k_ => (P0 k_ ∨ w.heap.size ≤ k_)) v0_ r ∧ Below w0.heap.size w0 w' ∧ Kept w w' (fun k_ => P0 k_) := by
  unfold appF at h
  by_cases hl : l.length < 35184372088830
  · rw [if_pos hl] at h
    obtain rfl := Option.some.inj h
    obtain ⟨nm, b1, b2, b3, b4, wd, b5, hi⟩ := infoF_form a0
    have HI := fun W (hW : Below w0.heap.size w0 W) => info_calls a0 _ _ _ _ _ _ _ _ W hi (Aside0.mk (HT.out.below hW))
    unfold appW
    by_cases h6 : formOf a0 = 6
    · rw [if_pos h6]
      rw [h6] at HI
      exact app_three P0 u l a0 a1 a2 a3 a4 nm wd b1 b2 b3 b4 b5 w0 w hB ⟨ho0⟩ hl (Lib.hid HI)
    · rw [if_neg h6]
      exact app_one P0 u l a0 a1 a2 a3 a4 nm _ wd b1 b2 b3 b4 b5 w0 w hB ⟨ho0⟩ (beq_eq_false_iff_ne.2 h6) (by omega) (Lib.hid HI)
  · rw [if_neg hl] at h
    cases h
end Go.Proofs.YtcjidibdidijaaaDoor
