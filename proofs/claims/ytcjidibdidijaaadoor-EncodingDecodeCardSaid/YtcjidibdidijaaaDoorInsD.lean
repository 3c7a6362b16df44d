/- fullingkeep2.Instr: what it hands back, as a plain function. -/
import Derived.Test.YtcjidibdidijaaaDoorVal
import Derived.Test.YtcjidibdidijaaaDoorKeep
namespace Go.Proofs.YtcjidibdidijaaaDoor
set_option linter.unusedVariables false
set_option linter.unusedSimpArgs false
open Go.RowKit Go.Proofs.YtcjidibdidijaaaDoorW.PrintWords

/-- The instruction that the digits of n give, for the operation op. -/
def instrD (op n : Int) : Int × Int × Int × Int × Int :=
  let d1 := nextN n 37
  let f := formOf op
  let A := if hasA f then pickN d1 8 else 0
  let d2 := if hasA f then nextN d1 8 else d1
  let B := if hasB f then pickN d2 8 else 0
  let d3 := if hasB f then nextN d2 8 else d2
  let C := if hasC f then pickN d3 8 else 0
  let d4 := if hasC f then nextN d3 8 else d3
  if op = 4 then (op, A, B, C, wrap64 (1 + pickN d4 40))
  else if op = 6 then (op, pickN d4 3, B, C, pickN (nextN d4 3) 2)
  else if op = 34 ∨ op = 35 then (op, A, B, C, pickN d4 2)
  else if op = 36 ∨ op = 37 then (op, A, B, C, pickN d4 6)
  else if op = 14 then (op, A, B, C, wordN (pickN d4 500) n)
  else if op = 13 ∨ op = 33 ∨ op = 5 ∨ op = 7 ∨ op = 8 then (op, A, B, C, wrap64 (pickN d4 15 - 6))
  else (op, A, B, C, 0)
def instrF (n : Int) : Int × Int × Int × Int × Int := instrD (pickN n 37 + 1) n
def insV (i : Int × Int × Int × Int × Int) : Value := .agg #[.int .i64 i.1, .int .i64 i.2.1, .int .i64 i.2.2.1, .int .i64 i.2.2.2.1, .int .i64 i.2.2.2.2]
theorem kc {W w1 : World} (hb : Below W.heap.size W w1) (b o : Nat) (z : Int) (hc : W.cell? ⟨b, o, none⟩ = some (.int .i64 z)) (hf : W.frozen? ⟨b, o, none⟩ = false) : w1.cell? ⟨b, o, none⟩ = some (.int .i64 z) ∧ w1.frozen? ⟨b, o, none⟩ = false :=
  ⟨(hb.cell (World.block_lt_of_cell? _ _ hc)).trans hc, (hb.frozen (p := ⟨b, o, none⟩) (World.block_lt_of_cell? _ _ hc)).trans hf⟩
theorem next_any (n m p d : Int) (hp : Hid (pickN n m = p)) (hd : Hid (nextN n m = d)) (b : Nat) (h0 : 0 < m) (w : World) (hc : w.cell? ⟨b, 0, none⟩ = some (.int .i64 n)) (hf : w.frozen? ⟨b, 0, none⟩ = false) :
    Calls Tryd.prog 74 #[.pointer (some ⟨b, 0, none⟩), .int .i64 m] w fun e w' => e = .returned (.int .i64 p) ∧ w' = w.setCell ⟨b, 0, none⟩ (.int .i64 d) := by
  have h := next_calls n m b h0 w hc hf
  rw [hp.out, hd.out] at h
  exact h
theorem word_any (n raw x : Int) (hx : Hid (wordN n raw = x)) (w : World) : Calls Tryd.prog 57 #[.int .i64 n, .int .i64 raw] w fun e w' => e = .returned (.int .i64 x) ∧ Below w.heap.size w w' := by
  have h := word_calls n raw w
  rw [hx.out] at h
  exact h
theorem end39 {a : Act} {w W : World} (op A B C X : Int) {v : Value} (hp : a.tmps.getD 2 undef = .pointer (some ⟨w.heap.size, 0, none⟩)) (hd : a.defers = [])
    (c0 : W.cell? ⟨w.heap.size, 0, none⟩ = some (.int .i64 op)) (c1 : W.cell? ⟨w.heap.size, 1, none⟩ = some (.int .i64 A)) (c2 : W.cell? ⟨w.heap.size, 2, none⟩ = some (.int .i64 B))
    (c3 : W.cell? ⟨w.heap.size, 3, none⟩ = some (.int .i64 C)) (c4 : W.cell? ⟨w.heap.size, 4, none⟩ = some (.int .i64 X)) (hv : insV (op, A, B, C, X) = v) (hb : Below w.heap.size w W) :
    bodyPost Tryd.prog Tryd.f39 (fun e w' => e = .returned v ∧ Below w.heap.size w w') .ret a W := by
  subst hv
  refine bodyPost_ret (v := .agg #[.int .i64 op, .int .i64 A, .int .i64 B, .int .i64 C, .int .i64 X]) ?_ hd ⟨rfl, hb⟩
  have hp2 : a.tmps[2]?.getD undef = .pointer (some ⟨w.heap.size, 0, none⟩) := by simpa using hp
  simp [results, Tryd.results39, go_sem, hp, hp2, c0, c1, c2, c3, c4]
end Go.Proofs.YtcjidibdidijaaaDoor
