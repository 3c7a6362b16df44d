/- encoding.DecodeAll in plain words. -/
import Derived.Test.YtcjidibdidijaaaDoorCodP
import Derived.Test.YtcjidibdidijaaaDoorCDal
namespace Go.Proofs.YtcjidibdidijaaaDoor
open Go.RowKit Go.Proofs.YtcjidibdidijaaaDoor.PCod Go.Proofs.YtcjidibdidijaaaDoorW.PrintWords Go.Proofs.YtcjidibdidijaaaDoorW.PrintMore
set_option linter.unusedVariables false
set_option linter.unusedSimpArgs false

theorem dall_loop (w : List Int) (hw : u32s w) (hl : w.length < 3518437208883) : ∀ (n a : Nat) (is : List S42) (ps : List Int), a ≤ w.length → w.length - a < n → is.length ≤ a → ps.length ≤ a →
    Ev (fun k => encoding_DecodeAll.l0 k w is ps (a : Int)) (match decA w n a with | none => ([], [], 204) | some l => (is ++ l, ps ++ starts a l, 0))
  | 0, a, is, ps, ha, hn, hi, hp => by omega
  | n + 1, a, is, ps, ha, hn, hi, hp => by
    rw [decA]
    by_cases hlt : a < w.length
    · rw [if_pos hlt]
      refine Ev.step (f := fun k => (encoding_Decode.f k w (a : Int)).bind fun bt175 => (if bt175.2.2.2.2.2.2 = 0 then (if is.length < 3518437208883 then (if ps.length < 17592186044416 then (encoding_DecodeAll.l0 k w (is ++ [(⟨bt175.1, bt175.2.1, bt175.2.2.1, bt175.2.2.2.1, bt175.2.2.2.2.1⟩ : S42)]) (ps ++ [(a : Int)]) (wrap64 ((a : Int) + bt175.2.2.2.2.2.1))) else (none)) else (none)) else (some (([] : List (S42)), ([] : List Int), bt175.2.2.2.2.2.2)))) (fun k => ?_) ?_
      · rw [encoding_DecodeAll.l0, if_pos (by omega)]
      · refine Ev.bind (dec_ev w hw (by omega) a) ?_
        by_cases hk : okD w a
        · obtain ⟨hv, hs, _, hd⟩ := ok_words w hw a hk
          have hle := hk.2.1
          have h3 := wI_len3 hv
          have ih := dall_loop w hw hl n (a + (wI (decI w a)).length) (is ++ [decI w a]) (ps ++ [(a : Int)]) (by omega) (by omega) (by simp; omega) (by simp; omega)
          have e : decS w a = ((decI w a).f0, (decI w a).f1, (decI w a).f2, (decI w a).f3, (decI w a).f4, sizeI (rd w a % 64), 0) := if_pos hk
          rw [e, if_pos hk]
          simp only [if_true]
          rw [hs]
          refine Ev.congr (fun k => ?_) (f := fun k => encoding_DecodeAll.l0 k w (is ++ [decI w a]) (ps ++ [(a : Int)]) ((a + (wI (decI w a)).length : Nat) : Int)) ?_
          · rw [if_pos (by omega), if_pos (by omega), show wrap64 ((a : Int) + ((wI (decI w a)).length : Int)) = ((a + (wI (decI w a)).length : Nat) : Int) by unfold wrap64; omega]
          · cases hm : decA w n (a + (wI (decI w a)).length) with
            | none =>
              rw [hm] at ih
              exact ih
            | some l =>
              rw [hm] at ih
              simp only [Option.map_some, starts]
              simp only [List.append_assoc, List.cons_append, List.nil_append] at ih
              exact ih
        · rw [if_neg hk, show decS w a = errD from if_neg hk]
          refine Ev.congr (fun k => ?_) (Ev.now _)
          exact (if_neg (show ¬ errD.2.2.2.2.2.2 = 0 by decide)).trans rfl
    · rw [if_neg hlt]
      refine Ev.step (f := fun _ => some (is, ps, 0)) (fun k => ?_) ?_
      · rw [encoding_DecodeAll.l0, if_neg (by omega)]
      · simp only [starts, List.append_nil]
        exact Ev.now _
theorem dall_ev (w : List Int) (hw : u32s w) (hl : w.length < 3518437208883) : Ev (fun k => encoding_DecodeAll.f k w) (decR w) := by
  have h := dall_loop w hw hl (w.length + 1) 0 [] [] (by omega) (by omega) (by simp) (by simp)
  simp only [List.nil_append] at h
  exact h
end Go.Proofs.YtcjidibdidijaaaDoor
