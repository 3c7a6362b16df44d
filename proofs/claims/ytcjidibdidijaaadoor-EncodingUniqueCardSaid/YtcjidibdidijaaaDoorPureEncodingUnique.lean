/- The plain law of EncodingUnique: whatever is decoded is encoded back to the words that stand there. -/
import Derived.Test.YtcjidibdidijaaaDoorCodP
import Derived.Test.YtcjidibdidijaaaDoorKeepP
import Derived.Test.YtcjidibdidijaaaDoorCLUn
namespace Go.Proofs.YtcjidibdidijaaaDoor.Pure
open Go.RowKit Go.Proofs.YtcjidibdidijaaaDoor Go.Proofs.YtcjidibdidijaaaDoor.PCod Go.Proofs.YtcjidibdidijaaaDoorW.PrintWords Go.Proofs.YtcjidibdidijaaaDoorW.PrintMore
set_option linter.unusedVariables false

theorem rdL6 (xs : List (List Int)) (j : Nat) (h : j < xs.length) : rd_L6 xs (j : Int) = xs[j] := by
  unfold rd_L6
  rw [Int.toNat_natCast, List.getD_eq_getElem?_getD, List.getElem?_eq_getElem h]
  rfl
theorem uni_loop (xs : List (List Int)) (hx : ∀ x ∈ xs, u32s x ∧ x.length < 9223372036854775800) (hl : xs.length < 1000) : ∀ (d j : Nat), xs.length - j = d → j ≤ xs.length → Ev (fun k => fullinglaw30_EncodingUnique.l0 k xs (xs.length : Int) (j : Int)) true
  | 0, j, hd, hj => by
    refine Ev.step (f := fun _ => some true) (fun k => ?_) (Ev.now _)
    rw [fullinglaw30_EncodingUnique.l0, if_neg (by omega)]
    rfl
  | d + 1, j, hd, hj => by
    have hlt : j < xs.length := by omega
    obtain ⟨hu, hb⟩ := hx xs[j] (List.getElem_mem hlt)
    have ih := uni_loop xs hx hl d (j + 1) (by omega) (by omega)
    generalize hw : xs[j] = w at *
    refine Ev.step (f := fun k => (encoding_Decode.f k w 0).bind fun bt343 => (if bt343.2.2.2.2.2.2 = 0 then ((encoding_Encode.f k (([(⟨bt343.1, bt343.2.1, bt343.2.2.1, bt343.2.2.2.1, bt343.2.2.2.2.1⟩ : S42)] : List (S42)))).bind fun bt354 => (if bt354.2 = 0 then (if bt343.2.2.2.2.2.1 = (bt354.1.length : Int) then (if bt343.2.2.2.2.2.1 > (w.length : Int) then (some false) else (if 0 ≤ bt343.2.2.2.2.2.1 then (if bt343.2.2.2.2.2.1 ≤ (w.length : Int) then ((fullingref32_SameWords.f k bt354.1 (w.take (bt343.2.2.2.2.2.1 : Int).toNat)).bind fun t363 => (if t363 = true then ((fullingref29_Valid.f bt343.1 bt343.2.1 bt343.2.2.1 bt343.2.2.2.1 bt343.2.2.2.2.1).bind fun t364 => (if t364 = true then (fullinglaw30_EncodingUnique.l0 k xs (xs.length : Int) ((j + 1 : Nat) : Int)) else (some false))) else (some false))) else (none)) else (none))) else (some false)) else (some false))) else (fullinglaw30_EncodingUnique.l0 k xs (xs.length : Int) ((j + 1 : Nat) : Int)))) (fun k => ?_) ?_
    · rw [fullinglaw30_EncodingUnique.l0, if_pos (by omega), if_pos (by omega), if_pos (by omega), rdL6 xs j hlt, hw, wrap_succ j (by omega)]
    · refine Ev.bind (f := _) (dec_ev w hu (by omega) 0) ?_
      by_cases hk : okD w 0
      · have e : decS w 0 = ((decI w 0).f0, (decI w 0).f1, (decI w 0).f2, (decI w 0).f3, (decI w 0).f4, sizeI (rd w 0 % 64), 0) := if_pos hk
        obtain ⟨hv, hs, hlt0, hd0⟩ := ok_words w hu 0 hk
        have hle := hk.2.1
        rw [List.drop_zero, Nat.zero_add] at hd0
        rw [e]
        simp only [if_true]
        have he : encL [decI w 0] = (wI (decI w 0), 0) := by
          unfold encL
          rw [if_pos (by simp [show vI (decI w 0) = true from hv])]
          simp
        refine Ev.bind (f := _) (enc_ev [decI w 0] (by simp)) ?_
        rw [he, show sizeI (rd w 0 % 64) = ((wI (decI w 0)).length : Int) from hs]
        have hs' : sizeI (rd w 0 % 64) = ((wI (decI w 0)).length : Int) := hs
        simp only [if_true, Int.toNat_natCast]
        have h3 := wI_len3 (i := decI w 0) hv
        have ht : w.take (wI (decI w 0)).length = wI (decI w 0) := by
          have hd1 : w = wI (decI w 0) ++ w.drop (wI (decI w 0)).length := hd0
          have h2 := congrArg (List.take (wI (decI w 0)).length) hd1
          rw [List.take_left] at h2
          exact h2
        refine Ev.congr (f := fun k => (fullingref32_SameWords.f k (wI (decI w 0)) (wI (decI w 0))).bind fun t363 => (if t363 = true then ((fullingref29_Valid.f (decI w 0).f0 (decI w 0).f1 (decI w 0).f2 (decI w 0).f3 (decI w 0).f4).bind fun t364 => (if t364 = true then (fullinglaw30_EncodingUnique.l0 k xs (xs.length : Int) ((j + 1 : Nat) : Int)) else (some false))) else (some false))) (fun k => ?_) ?_
        · rw [if_neg (by omega), if_pos (by omega), if_pos (by omega), ht]
        · refine Ev.bind (f := _) (sameW_ev _ (by omega)) ?_
          simp only [if_true]
          have h1 : fullingref29_Valid.f (decI w 0).f0 (decI w 0).f1 (decI w 0).f2 (decI w 0).f3 (decI w 0).f4 = some true := congrArg some hv
          simp only [h1, Option.bind_some, if_true]
          exact ih
      · rw [show decS w 0 = errD from if_neg hk]
        exact Ev.congr (fun k => if_neg (show ¬ errD.2.2.2.2.2.2 = 0 by decide)) ih
theorem or32_range (x y : Int) : 0 ≤ Go.bits .or .u32 x y ∧ Go.bits .or .u32 x y < 4294967296 := by
  rw [or32]
  have := Nat.or_lt_two_pow (U32_lt x) (U32_lt y)
  have h : U32 x ||| U32 y < 4294967296 := this
  omega
theorem EncodingUnique (l0 : List Int) (a1 a2 a3 : Int) (h0 : l0.length * 4 ≤ 140737488351232) (hu : u32s l0) (h1 : 0 ≤ a1 ∧ a1 < 4294967296) (h2 : 0 ≤ a2 ∧ a2 < 4294967296) : ∃ k, fullinglaw30_EncodingUnique.f k l0 a1 a2 a3 = some true := by
  refine Ev.rounds (r := true) ?_
  have hm : 0 ≤ mn (l0.length : Int) 2 ∧ mn (l0.length : Int) 2 ≤ l0.length ∧ mn (l0.length : Int) 2 ≤ 2 := by unfold mn; split <;> omega
  have ht : 0 ≤ Int.tmod a1 38 ∧ Int.tmod a1 38 < 4294967296 := by
    have := Int.tmod_nonneg 38 h1.1
    have := Int.tmod_lt_of_pos a1 (show (0 : Int) < 38 by omega)
    omega
  refine Ev.congr (f := fun k => fullinglaw30_EncodingUnique.l0 k [l0, [Go.bits .or .u32 (Int.tmod a1 38) (Go.bits .andNot .u32 a2 63)] ++ l0.take (mn (l0.length : Int) 2).toNat, [Int.tmod a1 38, a2, a2], [a3 % 4294967296]] (([l0, [Go.bits .or .u32 (Int.tmod a1 38) (Go.bits .andNot .u32 a2 63)] ++ l0.take (mn (l0.length : Int) 2).toNat, [Int.tmod a1 38, a2, a2], [a3 % 4294967296]] : List (List Int)).length : Int) ((0 : Nat) : Int)) (fun k => ?_) (uni_loop _ ?_ (by simp) _ 0 rfl (by simp))
  · show fullinglaw30_EncodingUnique.f k l0 a1 a2 a3 = _
    unfold fullinglaw30_EncodingUnique.f
    rw [Option.bind_some, if_pos hm.1, if_pos hm.2.1, Option.bind_some, if_pos (by simp only [List.length_cons, List.length_nil, List.length_take]; omega), Option.bind_some]
    rfl
  · intro x hx
    simp only [List.mem_cons, List.not_mem_nil, or_false] at hx
    rcases hx with rfl | rfl | rfl | rfl
    · exact ⟨hu, by omega⟩
    · refine ⟨fun y hy => ?_, by simp only [List.length_append, List.length_cons, List.length_nil, List.length_take]; omega⟩
      rcases List.mem_append.1 hy with hy | hy
      · rw [List.mem_singleton.1 hy]; exact or32_range _ _
      · exact hu y (List.mem_of_mem_take hy)
    · refine ⟨fun y hy => ?_, by simp⟩
      simp only [List.mem_cons, List.not_mem_nil, or_false] at hy
      rcases hy with rfl | rfl | rfl <;> omega
    · refine ⟨fun y hy => ?_, by simp⟩
      simp only [List.mem_cons, List.not_mem_nil, or_false] at hy
      subst hy
      omega
end Go.Proofs.YtcjidibdidijaaaDoor.Pure
