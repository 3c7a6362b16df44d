/- encoding.Encode in plain words: the words of all instructions in line, or an error. -/
import Derived.Test.YtcjidibdidijaaaDoorFld
import Derived.Test.YtcjidibdidijaaaDoorCEnc
namespace Go.Proofs.YtcjidibdidijaaaDoor
open Go.RowKit Go.Proofs.YtcjidibdidijaaaDoor.PCod Go.Proofs.YtcjidibdidijaaaDoorW.PrintWords Go.Proofs.YtcjidibdidijaaaDoorW.PrintMore
set_option linter.unusedVariables false
set_option linter.unusedSimpArgs false

def vI (i : S42) : Bool := valB i.f0 i.f1 i.f2 i.f3 i.f4
def wI (i : S42) : List Int := appW i.f0 i.f1 i.f2 i.f3 i.f4
def encL (l : List S42) : List Int × Int := if l.all vI then (l.flatMap wI, 0) else ([], 204)
theorem vI_val {i : S42} (h : vI i = true) : Val i.f0 i.f1 i.f2 i.f3 i.f4 := of_decide_eq_true h
theorem wI_len {i : S42} (h : vI i = true) : (wI i).length = if formOf i.f0 = 6 then 3 else 1 := appW_len (vI_val h)
theorem wI_len3 {i : S42} (h : vI i = true) : 1 ≤ (wI i).length ∧ (wI i).length ≤ 3 := by
  rw [wI_len h]
  split <;> omega
theorem wI_u32 {i : S42} (h : vI i = true) : ∀ x ∈ wI i, 0 ≤ x ∧ x < 4294967296 := appW_u32 (vI_val h)
theorem flat_len : ∀ (l : List S42), l.all vI = true → l.length ≤ (l.flatMap wI).length ∧ (l.flatMap wI).length ≤ 3 * l.length
  | [], _ => by simp
  | i :: t, h => by
    simp only [List.all_cons, Bool.and_eq_true] at h
    have := wI_len3 h.1
    have := flat_len t h.2
    simp only [List.flatMap_cons, List.length_append, List.length_cons]
    omega
theorem flat_u32 : ∀ (l : List S42), l.all vI = true → ∀ x ∈ l.flatMap wI, 0 ≤ x ∧ x < 4294967296
  | [], _ => by simp
  | i :: t, h => by
    simp only [List.all_cons, Bool.and_eq_true] at h
    intro x hx
    rw [List.flatMap_cons, List.mem_append] at hx
    rcases hx with hx | hx
    · exact wI_u32 h.1 x hx
    · exact flat_u32 t h.2 x hx
theorem rd42 (l : List S42) (j : Nat) (h : j < l.length) : rd_T42 l (j : Int) = l[j] := by
  unfold rd_T42
  rw [Int.toNat_natCast, List.getD_eq_getElem?_getD, List.getElem?_eq_getElem h]
  rfl
theorem rd_nat (l : List Int) (j : Nat) (h : j < l.length) : rd l (j : Int) = l[j] := by
  unfold rd
  rw [Int.toNat_natCast, List.getD_eq_getElem?_getD, List.getElem?_eq_getElem h]
  rfl
theorem wrap_succ (j : Nat) (h : j < 9223372036854775807) : wrap64 ((j : Int) + 1) = ((j + 1 : Nat) : Int) := by
  unfold wrap64
  omega
theorem enc_loop (l : List S42) (hl : 3 * l.length < 35184372088830) : ∀ (d j : Nat) (acc : List Int), l.length - j = d → j ≤ l.length → acc.length ≤ 3 * j →
    Ev (fun k => encoding_Encode.l0 k acc l (l.length : Int) (j : Int)) (if (l.drop j).all vI then (acc ++ (l.drop j).flatMap wI, 0) else ([], 204))
  | 0, j, acc, hd, hj, ha => by
    obtain rfl : j = l.length := by omega
    refine Ev.step (f := fun _ => some (acc, 0)) (fun k => ?_) ?_
    · simp only [encoding_Encode.l0]
      rw [if_neg (by omega)]
    · rw [List.drop_length]
      simp only [List.all_nil, if_true, List.flatMap_nil, List.append_nil]
      exact Ev.now _
  | d + 1, j, acc, hd, hj, ha => by
    have hlt : j < l.length := by omega
    have e : l.drop j = l[j] :: l.drop (j + 1) := List.drop_eq_getElem_cons hlt
    by_cases hv : vI l[j] = true
    · have ih := enc_loop l hl d (j + 1) (acc ++ wI l[j]) (by omega) (by omega) (by have := wI_len3 hv; rw [List.length_append]; omega)
      rw [e]
      simp only [List.all_cons, hv, Bool.true_and, List.flatMap_cons]
      rw [← List.append_assoc]
      refine Ev.step (f := fun k => encoding_Encode.l0 k (acc ++ wI l[j]) l (l.length : Int) ((j + 1 : Nat) : Int)) (fun k => ?_) ih
      simp only [encoding_Encode.l0]
      rw [if_pos (by omega), if_pos (by omega), if_pos (by omega), rd42 l j hlt]
      have h1 : machine_Valid.f l[j].f0 l[j].f1 l[j].f2 l[j].f3 l[j].f4 = some true := congrArg some hv
      have h2 : encoding_appendInstr.f acc l[j].f0 l[j].f1 l[j].f2 l[j].f3 l[j].f4 = some (acc ++ wI l[j]) := if_pos (by omega)
      rw [h1, Option.bind_some, if_pos rfl, h2, Option.bind_some, wrap_succ j (by omega)]
    · rw [e]
      have hv' : vI l[j] = false := by simpa using hv
      simp only [List.all_cons, hv', Bool.false_and, Bool.false_eq_true, if_false]
      refine Ev.step (f := fun _ => some ([], 204)) (fun k => ?_) (Ev.now _)
      simp only [encoding_Encode.l0]
      rw [if_pos (by omega), if_pos (by omega), if_pos (by omega), rd42 l j hlt]
      have h1 : machine_Valid.f l[j].f0 l[j].f1 l[j].f2 l[j].f3 l[j].f4 = some false := congrArg some hv'
      rw [h1, Option.bind_some, if_neg (by decide)]
theorem enc_ev (l : List S42) (hl : 3 * l.length < 35184372088830) : Ev (fun k => encoding_Encode.f k l) (encL l) := by
  have h := enc_loop l hl l.length 0 [] (by omega) (by omega) (by simp)
  simp only [List.drop_zero, List.nil_append] at h
  exact h
end Go.Proofs.YtcjidibdidijaaaDoor
