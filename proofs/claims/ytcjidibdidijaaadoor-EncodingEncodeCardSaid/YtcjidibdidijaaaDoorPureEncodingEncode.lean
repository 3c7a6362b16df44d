/- The plain law of EncodingEncode: both encoders hand back the same words, or the same error. -/
import Derived.Test.YtcjidibdidijaaaDoorKeepP
import Derived.Test.YtcjidibdidijaaaDoorEncR
import Derived.Test.YtcjidibdidijaaaDoorCLEn
namespace Go.Proofs.YtcjidibdidijaaaDoor.Pure
open Go.RowKit Go.Proofs.YtcjidibdidijaaaDoor Go.Proofs.YtcjidibdidijaaaDoor.PCod Go.Proofs.YtcjidibdidijaaaDoorW.PrintWords Go.Proofs.YtcjidibdidijaaaDoorW.PrintMore
set_option linter.unusedVariables false

theorem encL_len (l : List S42) : (encL l).1.length ≤ 3 * l.length := by
  unfold encL
  split
  · rename_i h
    exact (flat_len l h).2
  · simp
theorem rdL7 (xs : List (List S42)) (j : Nat) (h : j < xs.length) : rd_L7 xs (j : Int) = xs[j] := by
  unfold rd_L7
  rw [Int.toNat_natCast, List.getD_eq_getElem?_getD, List.getElem?_eq_getElem h]
  rfl
theorem enc_law_loop (xs : List (List S42)) (hx : ∀ x ∈ xs, 3 * x.length < 35184372088830) (hl : xs.length < 1000) : ∀ (d j : Nat), xs.length - j = d → j ≤ xs.length → Ev (fun k => fullinglaw30_EncodingEncode.l0 k xs (xs.length : Int) (j : Int)) true
  | 0, j, hd, hj => by
    refine Ev.step (f := fun _ => some true) (fun k => ?_) (Ev.now _)
    rw [fullinglaw30_EncodingEncode.l0, if_neg (by omega)]
    rfl
  | d + 1, j, hd, hj => by
    have hlt : j < xs.length := by omega
    have hb := hx xs[j] (List.getElem_mem hlt)
    have ih := enc_law_loop xs hx hl d (j + 1) (by omega) (by omega)
    refine Ev.step (f := fun k => (encoding_Encode.f k xs[j]).bind fun bt207 => ((fullingref29_Encode.f k xs[j]).bind fun bt211 => (if bt207.2 = bt211.2 then ((fullingref32_SameWords.f k bt207.1 bt211.1).bind fun t215 => (if t215 = true then (fullinglaw30_EncodingEncode.l0 k xs (xs.length : Int) ((j + 1 : Nat) : Int)) else (some false))) else (some false)))) (fun k => ?_) ?_
    · rw [fullinglaw30_EncodingEncode.l0, if_pos (by omega), if_pos (by omega), if_pos (by omega), rdL7 xs j hlt, wrap_succ j (by omega)]
    · refine Ev.bind (f := _) (enc_ev xs[j] hb) (Ev.bind (f := _) (renc_ev xs[j] hb) ?_)
      simp only [if_true]
      refine Ev.bind (f := _) (sameW_ev _ (by have := encL_len xs[j]; omega)) ?_
      simp only [if_true]
      exact ih
theorem EncodingEncode (l0 : List S42) (l1 : List Int) (h0 : l0.length * 40 ≤ 140737488351232) (hw : ∀ x ∈ l1, (Lit.int .i64 x).wf = true) : ∃ k, fullinglaw30_EncodingEncode.f k l0 l1 = some true := by
  refine Ev.rounds (r := true) ?_
  have hlen := mkL_len l1 12
  refine Ev.bind (f := _) (instrs_ev l1 12 (by omega)) ?_
  generalize mkL l1 12 = t at *
  simp only [List.nil_append, List.length_nil, Option.bind_some]
  refine Ev.congr (f := fun k => fullinglaw30_EncodingEncode.l0 k [l0, t, t ++ l0] (([l0, t, t ++ l0] : List (List S42)).length : Int) ((0 : Nat) : Int)) (fun k => ?_) (enc_law_loop _ ?_ (by simp) _ 0 rfl (by simp))
  · rw [if_pos (by omega), if_pos (by omega)]
    rfl
  · intro x hx
    simp only [List.mem_cons, List.not_mem_nil, or_false] at hx
    rcases hx with rfl | rfl | rfl
    · omega
    · omega
    · rw [List.length_append]; omega
end Go.Proofs.YtcjidibdidijaaaDoor.Pure
