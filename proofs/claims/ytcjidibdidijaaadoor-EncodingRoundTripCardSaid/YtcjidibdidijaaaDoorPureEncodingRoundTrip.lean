/- The plain law of EncodingRoundTrip: decoding all gives the instructions back, at ascending places. -/
import Derived.Test.YtcjidibdidijaaaDoorDalP
import Derived.Test.YtcjidibdidijaaaDoorKeepP
import Derived.Test.YtcjidibdidijaaaDoorCLRt
namespace Go.Proofs.YtcjidibdidijaaaDoor.Pure
open Go.RowKit Go.Proofs.YtcjidibdidijaaaDoor Go.Proofs.YtcjidibdidijaaaDoor.PCod Go.Proofs.YtcjidibdidijaaaDoorW.PrintWords Go.Proofs.YtcjidibdidijaaaDoorW.PrintMore
set_option linter.unusedVariables false

theorem round_loop (t : List S42) (hv : t.all vI = true) (hl : t.length < 1000) : ∀ (d j : Nat), t.length - j = d → j ≤ t.length → Ev (fun k => fullinglaw30_EncodingRoundTrip.l0 k (starts 0 t) (j : Int)) true
  | 0, j, hd, hj => by
    refine Ev.step (f := fun _ => some true) (fun k => ?_) (Ev.now _)
    rw [fullinglaw30_EncodingRoundTrip.l0, if_neg (by rw [starts_len]; omega)]
    rfl
  | d + 1, j, hd, hj => by
    have hlt : j < t.length := by omega
    have hg := starts_get 0 t j hlt
    rw [Nat.zero_add] at hg
    refine Ev.step (fun k => ?_) (round_loop t hv hl d (j + 1) (by omega) (by omega))
    rw [fullinglaw30_EncodingRoundTrip.l0, if_pos (by rw [starts_len]; omega)]
    rcases Nat.eq_zero_or_pos j with h0 | h0
    · subst h0
      rw [if_neg (by omega), if_pos (show ((0 : Nat) : Int) = 0 by rfl), if_pos (by omega), if_pos (by rw [hg]; rfl), wrap_succ 0 (by omega)]
    · obtain ⟨m, rfl⟩ : ∃ m, j = m + 1 := ⟨j - 1, by omega⟩
      have hg1 := starts_get 0 t m (by omega)
      rw [Nat.zero_add] at hg1
      have e : t.take (m + 1) = t.take m ++ [t[m]] := List.take_succ_eq_append_getElem (by omega)
      have hvm : vI t[m] = true := (List.all_eq_true.1 hv) _ (List.getElem_mem (by omega))
      have h3 := wI_len3 hvm
      have em : wrap64 (((m + 1 : Nat) : Int) - 1) = (m : Int) := by unfold wrap64; omega
      rw [e, List.flatMap_append, List.length_append] at hg
      simp only [List.flatMap_cons, List.flatMap_nil, List.append_nil] at hg
      rw [if_pos (by omega), if_pos (by omega), em, if_pos (by omega), if_pos (by rw [starts_len]; omega), hg, hg1, if_neg (by omega), if_neg (by omega), wrap_succ (m + 1) (by omega)]
theorem EncodingRoundTrip : fullinglaw30_EncodingRoundTrip.Pure := by
  intro l0 hm hr hw
  have hv := mkL_valid l0 30 hw
  have hlen := mkL_len l0 30
  refine Ev.rounds (r := true) ?_
  refine Ev.bind (f := _) (instrs_ev l0 30 (by omega)) ?_
  generalize mkL l0 30 = t at *
  have hfl := flat_len t hv
  have he : encL t = (t.flatMap wI, 0) := if_pos hv
  refine Ev.bind (f := _) (enc_ev t (by omega)) ?_
  rw [he]
  refine Ev.bind (f := _) (dall_ev (t.flatMap wI) (flat_u32 t hv) (by omega)) ?_
  rw [decR_flat t hv]
  simp only [if_true]
  refine Ev.bind (f := _) (sameI_ev t (by omega)) ?_
  simp only [if_true]
  refine Ev.step (f := fun k => fullinglaw30_EncodingRoundTrip.l0 k (starts 0 t) 0) (fun k => ?_) (round_loop t hv (by omega) _ 0 rfl (by omega))
  rw [fullinglaw30_EncodingRoundTrip.j0, if_neg (by rw [starts_len]; simp)]
end Go.Proofs.YtcjidibdidijaaaDoor.Pure
