/- Parts of this proof in one text: Arg, Off. -/
import Derived.Test.YtcjidibdidijaaaDoorQV2
import Derived.Test.YtcjidibdidijaaaDoorQV1
namespace Go.Proofs.YtcjidibdidijaaaDoor
open Go.RowKit Go.Deep Go.Proofs.YtcjidibdidijaaaDoor.PCod Go.Proofs.YtcjidibdidijaaaDoorW.PrintWords Go.Proofs.YtcjidibdidijaaaDoorW.PrintMore
set_option linter.unusedVariables false
section
variable {H : Type} {enc : TypeId × Value → H} {W : World} {base : Nat} {sp : Nat → Bool} {held : Bool}
end
end Go.Proofs.YtcjidibdidijaaaDoor
namespace Go.Proofs.YtcjidibdidijaaaDoor
open Go.RowKit Go.Proofs.YtcjidibdidijaaaDoor.PCod Go.Proofs.YtcjidibdidijaaaDoorW.PrintWords Go.Proofs.YtcjidibdidijaaaDoorW.PrintMore
set_option linter.unusedVariables false
set_option linter.unusedSimpArgs false
structure Off (S : Nat → Prop) (w w' : World) : Prop where
  os : w'.os = w.os
  tape : w'.tape = w.tape
  output : w'.output = w.output
  size : w.heap.size ≤ w'.heap.size
  block : ∀ k, k < w.heap.size → ¬ S k → w'.heap[k]? = w.heap[k]?
section
variable {S S2 : Nat → Prop} {w w1 w2 : World}
theorem Off.refl (S : Nat → Prop) (w : World) : Off S w w := ⟨rfl, rfl, rfl, Nat.le_refl _, fun _ _ _ => rfl⟩
theorem Off.of_below (h : Below w.heap.size w w1) (S : Nat → Prop) : Off S w w1 := ⟨h.os, h.tape, h.output, h.size, fun k hk _ => h.block k hk⟩
theorem Off.mono (h : Off S w w1) (hs : ∀ k, S k → S2 k) : Off S2 w w1 := ⟨h.os, h.tape, h.output, h.size, fun k hk hn => h.block k hk (fun he => hn (hs k he))⟩
theorem Off.trans (h : Off S w w1) (k : Off S2 w1 w2) (hs : ∀ k, S2 k → S k ∨ w.heap.size ≤ k) : Off S w w2 :=
  ⟨k.os.trans h.os, k.tape.trans h.tape, k.output.trans h.output, Nat.le_trans h.size k.size, fun i hi hn =>
    (k.block i (Nat.lt_of_lt_of_le hi h.size) (fun he => (hs i he).elim hn (fun h3 => by omega))).trans (h.block i hi hn)⟩
theorem Off.below (h : Off S w w1) (k : Below w1.heap.size w1 w2) : Off S w w2 := h.trans (Off.of_below k (fun _ => False)) (fun _ hk => hk.elim)
theorem Off.alloc (h : Off S w w1) (o : Obj) : Off S w (w1.alloc o) := h.below (below_alloc (Below.refl _ _) o)
theorem Off.drew (h : Off S w w1) : Off S w w1.drew := ⟨h.os, h.tape, h.output, h.size, h.block⟩
theorem Off.drewN (h : Off S w w1) (n : Nat) : Off S w (w1.drewN n) := ⟨h.os, h.tape, h.output, h.size, h.block⟩
theorem Off.setCell (h : Off S w w1) {p : Addr} (hp : S p.block ∨ w.heap.size ≤ p.block) (u : Value) : Off S w (w1.setCell p u) :=
  h.trans (S2 := fun k => k = p.block) ⟨rfl, rfl, rfl, by simp [World.setCell], fun i _ hn => Below.heap_setCell w1 p u i hn⟩ (fun k hk => by rw [hk]; exact hp)
theorem Off.grown (h : Off S w w1) {row : Option Nat} (hg : w1.grownBy w2 row) (hr : ∀ k, row = some k → S k ∨ w.heap.size ≤ k) : Off S w w2 :=
  h.trans (S2 := fun k => row = some k) ⟨hg.os, hg.tape, hg.output, hg.size, fun i hi hn => hg.block i hi (fun he => hn he.symm)⟩ hr
theorem Off.toBelow {w0 : World} (hb : Below w0.heap.size w0 w) (h : Off S w w1) (hs : ∀ k, S k → w0.heap.size ≤ k) : Below w0.heap.size w0 w1 :=
  ⟨h.os.trans hb.os, h.tape.trans hb.tape, h.output.trans hb.output, Nat.le_trans hb.size h.size, fun k hk => (h.block k (Nat.lt_of_lt_of_le hk hb.size) (fun he => by have := hs k he; omega)).trans (hb.block k hk)⟩
theorem Off.blk {g : Nat} {o : Obj} (h : Off S w w1) (hb : w.heap[g]? = some o) (hn : ¬ S g) : w1.heap[g]? = some o := (h.block g (blk_lt hb) hn).trans hb
theorem Off.keep {g : Nat} (h : Off S w w1) (hs : ∀ k, S k → k = g) : KeepBut w w1 g none := ⟨h.size, fun i hi hg _ => h.block i hi (fun he => hg (hs i he))⟩
end
def flds (i : S42) : List Value := [.int .i64 i.f0, .int .i64 i.f1, .int .i64 i.f2, .int .i64 i.f3, .int .i64 i.f4]
def InF (w : World) (g n : Nat) (f : Nat → S42) : Prop := ∃ cells, w.heap[g]? = some (.cells cells 42 (0, 0)) ∧ ∀ j, j < n → ∀ q u, (flds (f j))[q]? = some u → cells[j * 5 + q]? = some u
theorem InF.of_R {w : World} {base : Nat} {ok : Nat → Prop} {v : Value} {L : List S42} (h : Kd.R k42 42 w base ok v L) (hp : 0 < L.length) :
    ∃ g cap, v = .slice (some ⟨g, 0, none⟩) L.length cap ∧ base ≤ g ∧ L.length ≤ cap ∧ InF w g L.length (fun j => L.getD j z42) := by
  obtain ⟨g, cap, rfl, hb, hlt, cells, hc⟩ := Kd.R_form h hp
  obtain ⟨_, hcap, hC⟩ := Kd.R_reads' h
  refine ⟨g, cap, rfl, hb, hcap, cells, hc, fun j hj q u hu => ?_⟩
  obtain ⟨_, _, hC⟩ := hC
  obtain ⟨ad, e, hC⟩ := hC hp
  obtain rfl := Option.some.inj e
  obtain ⟨c, hcl, hK, hcc⟩ := hC j L[j] (List.getElem?_eq_getElem hj)
  obtain rfl := k42_open hK
  have e2 : L.getD j z42 = L[j] := by rw [List.getD_eq_getElem?_getD, List.getElem?_eq_getElem hj]; rfl
  dsimp only at hu
  rw [e2] at hu
  have := hcc q u hu
  rw [add_plain, blk_cell hc] at this
  exact this
theorem InF.toC {w : World} {g : Nat} {L : List S42} (h : InF w g L.length (fun j => L.getD j z42)) (hl : L.length ≤ 9223372036854775807) : Kd.C k42 w (some ⟨g, 0, none⟩) L.length L := by
  obtain ⟨cells, hc, h⟩ := h
  refine ⟨rfl, hl, fun _ => ⟨_, rfl, fun j p hj => ⟨_, rfl, k42_mk w p, fun i u hu => ?_⟩⟩⟩
  obtain ⟨hjl, hjp⟩ := List.getElem?_eq_some_iff.1 hj
  have hs : k42.sz = 5 := rfl
  rw [add_plain, hs, blk_cell hc]
  refine h j hjl i u ?_
  dsimp only
  rw [List.getD_eq_getElem?_getD, hj]
  exact hu
theorem InF.congr {w : World} {g n : Nat} {f f' : Nat → S42} (h : InF w g n f) (he : ∀ j, j < n → f j = f' j) : InF w g n f' := by
  obtain ⟨cells, hc, h⟩ := h
  exact ⟨cells, hc, fun j hj q u hu => h j hj q u (by rw [he j hj]; exact hu)⟩
theorem InF.cells {w : World} {g n : Nat} {f : Nat → S42} (h : InF w g n f) (j : Nat) (hj : j < n) :
    w.cell? ⟨g, j * 5, none⟩ = some (.int .i64 (f j).f0) ∧ w.cell? ⟨g, j * 5 + 1, none⟩ = some (.int .i64 (f j).f1) ∧ w.cell? ⟨g, j * 5 + 2, none⟩ = some (.int .i64 (f j).f2) ∧
    w.cell? ⟨g, j * 5 + 3, none⟩ = some (.int .i64 (f j).f3) ∧ w.cell? ⟨g, j * 5 + 4, none⟩ = some (.int .i64 (f j).f4) := by
  obtain ⟨cells, hc, h⟩ := h
  exact ⟨(blk_cell hc _).trans (h j hj 0 _ rfl), (blk_cell hc _).trans (h j hj 1 _ rfl), (blk_cell hc _).trans (h j hj 2 _ rfl), (blk_cell hc _).trans (h j hj 3 _ rfl), (blk_cell hc _).trans (h j hj 4 _ rfl)⟩
theorem InF.put {w : World} {g n : Nat} {f : Nat → S42} (h : InF w g n f) (k q0 : Nat) (hk : k < n) (hq : q0 < 5) (v : Value) (i : S42) (hi : ∀ q u, (flds i)[q]? = some u → if q = q0 then u = v else (flds (f k))[q]? = some u) :
    InF (w.setCell ⟨g, k * 5 + q0, none⟩ v) g n (fun j => if j = k then i else f j) := by
  obtain ⟨cells, hc, h⟩ := h
  refine ⟨_, blk_set hc _ _, fun j hj q u hu => ?_⟩
  have hq5 : q < 5 := (List.getElem?_eq_some_iff.1 hu).1
  dsimp only at hu
  rw [Array.getElem?_setIfInBounds]
  by_cases e : k * 5 + q0 = j * 5 + q
  · have ej : j = k := by omega
    have eq : q = q0 := by omega
    subst ej eq
    rw [if_pos rfl]
    have hin : (flds (f j))[q]? = some ((flds (f j))[q]'hq5) := List.getElem?_eq_getElem hq5
    have := h j hj q _ hin
    rw [if_pos (Array.getElem?_eq_some_iff.1 this).1]
    rw [if_pos rfl] at hu
    have hx := hi q u hu
    rw [if_pos rfl] at hx
    rw [hx]
  · rw [if_neg e]
    by_cases ej : j = k
    · rw [if_pos ej] at hu
      have hx := hi q u hu
      rw [if_neg (by intro eq; subst ej eq; exact e rfl)] at hx
      subst ej
      exact h j hj q u hx
    · rw [if_neg ej] at hu
      exact h j hj q u hu
theorem InF.off {S : Nat → Prop} {w w1 : World} {g n : Nat} {f : Nat → S42} (h : InF w g n f) (ho : Off S w w1) (hn : ¬ S g) : InF w1 g n f := by
  obtain ⟨cells, hc, h⟩ := h
  exact ⟨cells, ho.blk hc hn, h⟩
theorem InF.drew {w : World} {g n : Nat} {f : Nat → S42} (h : InF w g n f) : InF w.drew g n f := h
end Go.Proofs.YtcjidibdidijaaaDoor
