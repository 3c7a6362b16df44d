/- The plain law of EncodingFlip: a flipped bit makes an encoding invalid or another instruction's. -/
import Derived.Test.YtcjidibdidijaaaDoorCodP
import Derived.Test.YtcjidibdidijaaaDoorKeepP
import Derived.Test.YtcjidibdidijaaaDoorEncR
import Derived.Test.YtcjidibdidijaaaDoorCLFl
namespace Go.Proofs.YtcjidibdidijaaaDoor.Pure
open Go.RowKit Go.Proofs.YtcjidibdidijaaaDoor Go.Proofs.YtcjidibdidijaaaDoor.PCod Go.Proofs.YtcjidibdidijaaaDoorW.PrintWords Go.Proofs.YtcjidibdidijaaaDoorW.PrintMore
set_option linter.unusedVariables false

theorem pick_f (n m : Int) (h : m ≠ 0) : fullingkeep_Pick.f n m = some (pickN n m) := by
  unfold fullingkeep_Pick.f pickN
  rw [if_neg h]
  split <;> rfl
/-- The words with one bit flipped. -/
def flipW (w : List Int) (p q : Int) : List Int := if w.length = 0 then w else w.set (pickN p w.length).toNat (Go.bits .xor .u32 (rd w (pickN p w.length)) ((2 ^ (pickN q 32).toNat : Nat) : Int))
theorem shl_one (k : Nat) (h : k < 32) : shl .u32 1 (k : Int) = ((2 ^ k : Nat) : Int) := by
  have hp : 2 ^ k < 2 ^ 32 := Nat.pow_lt_pow_right (by omega) h
  have hp' : 2 ^ k < 4294967296 := hp
  rw [shl32 1 k k rfl (by omega), Int.one_mul]
  clear hp
  generalize 2 ^ k = m at *
  omega
theorem flip_f (w : List Int) (p q : Int) (hl : w.length < 35184372088832) : fullingkeep2_FlipBit.f w p q = some (flipW w p q) := by
  unfold fullingkeep2_FlipBit.f flipW
  rw [if_pos (by simpa using hl), Option.bind_some, List.nil_append]
  by_cases h0 : w.length = 0
  · rw [if_neg (by omega), if_pos h0]
  · have hp := pickN_range p w.length (by omega) (by omega)
    have hq := pickN_range q 32 (by omega) (by omega)
    rw [if_pos (by omega), if_neg h0, pick_f _ _ (by omega), Option.bind_some, if_pos hp.1, if_pos hp.2, pick_f _ _ (by omega), Option.bind_some]
    have e : IntKind.u64.wrap (pickN q 32) = ((pickN q 32).toNat : Int) := by rw [u64w]; omega
    rw [e, if_pos (by omega), shl_one _ (by omega)]
theorem flip_ne (w : List Int) (hw : u32s w) (h0 : w.length ≠ 0) (p q : Int) (hl : w.length < 9223372036854775807) : flipW w p q ≠ w := by
  have hp := pickN_range p w.length (by omega) (by omega)
  have hq := pickN_range q 32 (by omega) (by omega)
  unfold flipW
  rw [if_neg h0]
  generalize hj : (pickN p w.length).toNat = j
  have hjl : j < w.length := by omega
  have hx : rd w (pickN p w.length) = w[j] := by
    rw [show pickN p w.length = (j : Int) by omega]
    exact rd_nat w j hjl
  rw [hx]
  intro h
  have h1 := congrArg (·[j]?) h
  simp only [List.getElem?_set_self hjl, List.getElem?_eq_getElem hjl, Option.some.injEq] at h1
  have hr := hw w[j] (List.getElem_mem hjl)
  exact xor32_ne w[j] (pickN q 32).toNat (by omega) hr.1 hr.2 h1
theorem flip_u32 (w : List Int) (hw : u32s w) (p q : Int) : u32s (flipW w p q) := by
  unfold flipW
  split
  · exact hw
  · intro x hx
    rcases List.mem_or_eq_of_mem_set hx with h | h
    · exact hw x h
    · rw [h]; exact xor32_range _ _
theorem flip_len (w : List Int) (p q : Int) : (flipW w p q).length = w.length := by
  unfold flipW
  split
  · rfl
  · rw [List.length_set]
theorem EncodingFlip : fullinglaw30_EncodingFlip.Pure := by
  intro a0 a1 a2 h0 h1 h2
  have hv := mkI_valid a0 (i64_wf h0)
  refine Ev.rounds (r := true) ?_
  refine Ev.congr (f := fun k => (fullingref29_Encode.f k [mkI a0]).bind fun bt251 => ((fullingkeep2_FlipBit.f bt251.1 a1 a2).bind fun t255 => ((encoding_Decode.f k t255 0).bind fun bt258 => (if bt258.2.2.2.2.2.2 = 0 then (if (!((mkI a0).f0 == bt258.1) || (!((mkI a0).f1 == bt258.2.1) || (!((mkI a0).f2 == bt258.2.2.1) || (!((mkI a0).f3 == bt258.2.2.2.1) || (!((mkI a0).f4 == bt258.2.2.2.2.1)))))) = true then ((fullinglaw30_EncodingExamples.f).bind fun t266 => (some t266)) else (some false)) else ((fullinglaw30_EncodingExamples.f).bind fun t267 => (some t267)))))) (fun k => rfl) ?_
  generalize mkI a0 = i at *
  have he : encL [i] = (wI i, 0) := by
    unfold encL
    rw [if_pos (by simp [hv])]
    simp
  have hl3 := wI_len3 hv
  refine Ev.bind (f := _) (renc_ev [i] (by simp)) ?_
  rw [he]
  simp only [flip_f (wI i) a1 a2 (by omega), Option.bind_some]
  have hu := flip_u32 (wI i) (wI_u32 hv) a1 a2
  have hn := flip_ne (wI i) (wI_u32 hv) (by omega) a1 a2 (by omega)
  have hl := flip_len (wI i) a1 a2
  generalize flipW (wI i) a1 a2 = w at *
  refine Ev.bind (f := _) (dec_ev w hu (by omega) 0) ?_
  have ex : ∀ (g : Nat → Option Bool), (∀ k, g k = some true) → Ev g true := fun g hg => Ev.congr hg (Ev.now _)
  by_cases hk : okD w 0
  · have e : decS w 0 = ((decI w 0).f0, (decI w 0).f1, (decI w 0).f2, (decI w 0).f3, (decI w 0).f4, sizeI (rd w 0 % 64), 0) := if_pos hk
    rw [e]
    refine ex _ (fun k => ?_)
    simp only [if_true]
    obtain ⟨hv2, hs2, hlt, hd⟩ := ok_words w hu 0 hk
    rw [List.drop_zero, Nat.zero_add] at hd
    have hne : i ≠ decI w 0 := by
      intro hi
      apply hn
      have hd' : w = wI i ++ w.drop (wI i).length := by rw [hi]; exact hd
      rw [List.drop_eq_nil_of_le (by omega), List.append_nil] at hd'
      exact hd'
    rw [if_pos]
    · rfl
    cases hb : (!(i.f0 == (decI w 0).f0) || (!(i.f1 == (decI w 0).f1) || (!(i.f2 == (decI w 0).f2) || (!(i.f3 == (decI w 0).f3) || (!(i.f4 == (decI w 0).f4))))))
    · exfalso
      apply hne
      simp at hb
      obtain ⟨q0, q1, q2, q3, q4⟩ := hb
      cases i
      simp only at q0 q1 q2 q3 q4
      rw [q0, q1, q2, q3, q4]
    · rfl
  · rw [show decS w 0 = errD from if_neg hk]
    exact ex _ (fun k => (if_neg (show ¬ errD.2.2.2.2.2.2 = 0 by decide)).trans rfl)
end Go.Proofs.YtcjidibdidijaaaDoor.Pure
