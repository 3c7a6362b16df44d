/- Blocks read as slices. -/
import Derived.Test.YtcjidibdidijaaaDoorCT
namespace Go.Proofs.YtcjidibdidijaaaDoor
open Go.RowKit Go.Proofs.YtcjidibdidijaaaDoor.PCod Go.Proofs.YtcjidibdidijaaaDoorW.PrintWords Go.Proofs.YtcjidibdidijaaaDoorW.PrintMore
set_option linter.unusedVariables false
set_option linter.unusedSimpArgs false

theorem kcX {W w1 : World} (hb : Below W.heap.size W w1) (b o : Nat) (z : Int) (hc : W.cell? ⟨b, o, none⟩ = some (.int .i64 z)) (hf : W.frozen? ⟨b, o, none⟩ = false) : w1.cell? ⟨b, o, none⟩ = some (.int .i64 z) ∧ w1.frozen? ⟨b, o, none⟩ = false :=
  ⟨(hb.cell (World.block_lt_of_cell? _ _ hc)).trans hc, (hb.frozen (p := ⟨b, o, none⟩) (World.block_lt_of_cell? _ _ hc)).trans hf⟩
def insCells (l : List S42) : List Value := l.flatMap fun i => [.int .i64 i.f0, .int .i64 i.f1, .int .i64 i.f2, .int .i64 i.f3, .int .i64 i.f4]
theorem insCells_get : ∀ (l : List S42) (j : Nat) (p : S42), l[j]? = some p → ∀ i u, ([.int .i64 p.f0, .int .i64 p.f1, .int .i64 p.f2, .int .i64 p.f3, .int .i64 p.f4] : List Value)[i]? = some u → (insCells l)[j * 5 + i]? = some u
  | [], j, p, h, i, u, hu => by simp at h
  | s :: t, 0, p, h, i, u, hu => by
    have e : s = p := by simpa using h
    subst e
    have hi : i < 5 := (List.getElem?_eq_some_iff.1 hu).1
    unfold insCells
    rw [List.flatMap_cons, List.getElem?_append_left (by simp; omega), Nat.zero_mul, Nat.zero_add]
    exact hu
  | s :: t, j + 1, p, h, i, u, hu => by
    have ih := insCells_get t j p (by simpa using h) i u hu
    unfold insCells at ih ⊢
    rw [List.flatMap_cons, List.getElem?_append_right (by simp; omega)]
    simp only [List.length_cons, List.length_nil]
    rw [show (j + 1) * 5 + i - (0 + 1 + 1 + 1 + 1 + 1) = j * 5 + i by omega]
    exact ih
theorem C42_blk {W : World} {b : Nat} {l : List S42} (h : W.heap[b]? = some (.cells (insCells l).toArray 42 (0, 0))) (hl : l.length ≤ 9223372036854775807) : Kd.C k42 W (some ⟨b, 0, none⟩) l.length l :=
  ⟨rfl, hl, fun _ => ⟨_, rfl, fun j p hj => ⟨_, rfl, k42_mk W p, fun i u hu => by
    have hs : k42.sz = 5 := rfl
    rw [add_plain, hs, blk_cell h, List.getElem?_toArray]
    exact insCells_get l j p hj i u hu⟩⟩⟩
theorem C32_blk {W : World} {b : Nat} {k : IntKind} {e : TypeId} {l : List Int} (h : W.heap[b]? = some (.cells (nums k l).toArray e (0, 0))) (hl : l.length ≤ 9223372036854775807) : Kd.C (Kd.int k) W (some ⟨b, 0, none⟩) l.length l := by
  refine Kd.C_of_reads (d := (0 : Int)) (h1 := fun _ => rfl) ⟨rfl, hl, fun _ => ⟨_, rfl, fun j hj => ?_⟩⟩
  rw [add_plain, blk_cell h, List.getElem?_toArray, nums, List.getElem?_map, List.getElem?_eq_getElem hj, List.getD_eq_getElem?_getD, List.getElem?_eq_getElem hj]
  rfl
end Go.Proofs.YtcjidibdidijaaaDoor
