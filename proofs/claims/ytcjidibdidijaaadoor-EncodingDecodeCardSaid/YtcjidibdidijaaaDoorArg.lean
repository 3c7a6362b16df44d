/- Arguments that came in, as lists: slices of instructions and of numbers; what is read may be shared. -/
import Derived.Test.YtcjidibdidijaaaDoorCT
import Derived.Test.YtcjidibdidijaaaDoorLaid
import Derived.Test.YtcjidibdidijaaaDoorWSized
import Derived.Test.YtcjidibdidijaaaDoorWMore
namespace Go.Proofs.YtcjidibdidijaaaDoor
open Go.RowKit Go.Deep Go.Proofs.YtcjidibdidijaaaDoor.PCod Go.Proofs.YtcjidibdidijaaaDoorW.PrintWords Go.Proofs.YtcjidibdidijaaaDoorW.PrintMore
set_option linter.unusedVariables false

theorem V_of_C {α : Type} {d : Kd α} (hd : Kd.Heap d) {e : Nat} {W : World} {base : Nat} {A : Option Addr} {c : Nat} {xs : List α} (h : d.C W A xs.length xs) (hc : xs.length ≤ c) : Kd.V d e W base (fun _ => True) (.slice A xs.length c) xs :=
  ⟨A, c, rfl, hc, fun _ hW => hd.C (fun k hk => hW k trivial hk) h⟩
theorem heap42 : Kd.Heap k42 := Kd.heap_iso _ (Kd.heap_pair (Kd.heap_int _) (Kd.heap_pair (Kd.heap_int _) (Kd.heap_pair (Kd.heap_int _) (Kd.heap_pair (Kd.heap_int _) (Kd.heap_int _)))))
theorem cells42 : Tryd.prog.cellsOf 42 = 5 := by kernel_rfl
section
variable {H : Type} {enc : TypeId × Value → H} {W : World} {base : Nat} {sp : Nat → Bool} {held : Bool}
set_option maxRecDepth 100000 in
theorem instr_cells {n : Nat} {cs : List Value} {x : DataW H × List MemPlace} (h : DataW.trod enc Tryd.prog W base sp held n 42 cs = some x) : ∃ s : S42, cs = [.int .i64 s.f0, .int .i64 s.f1, .int .i64 s.f2, .int .i64 s.f3, .int .i64 s.f4] := by
  obtain ⟨xs, m, rfl, hx, hl, hn, hf⟩ := DataW.trod_struct Tryd.underlying42 h
  rw [cells42] at hl
  have g : ∀ (j off t : Nat), j < 5 → t = 3 ∨ t = 2 → DataW.trod enc Tryd.prog W base sp held m t (List.take (Tryd.prog.cellsOf t) (List.drop off cs)) = xs[j]? → ∃ z, cs[off]? = some (.int .i64 z) := fun j off t hj ht hq => by
    have hlt : j < xs.length := by rw [hn]; exact hj
    rw [List.getElem?_eq_getElem hlt] at hq
    rcases ht with rfl | rfl
    · obtain ⟨z, hc, _⟩ := DataW.trod_int Tryd.underlying3 hq
      rw [cells3] at hc
      exact ⟨z, take_one hc⟩
    · obtain ⟨z, hc, _⟩ := DataW.trod_int Tryd.underlying2 hq
      rw [show Tryd.prog.cellsOf 2 = 1 by kernel_rfl] at hc
      exact ⟨z, take_one hc⟩
  obtain ⟨z0, h0⟩ := g 0 0 3 (by omega) (.inl rfl) (hf 0 _ rfl)
  obtain ⟨z1, h1⟩ := g 1 1 3 (by omega) (.inl rfl) (hf 1 _ rfl)
  obtain ⟨z2, h2⟩ := g 2 2 3 (by omega) (.inl rfl) (hf 2 _ rfl)
  obtain ⟨z3, h3⟩ := g 3 3 3 (by omega) (.inl rfl) (hf 3 _ rfl)
  obtain ⟨z4, h4⟩ := g 4 4 2 (by omega) (.inr rfl) (hf 4 _ rfl)
  refine ⟨⟨z0, z1, z2, z3, z4⟩, ?_⟩
  match cs, hl with
  | [c0, c1, c2, c3, c4], _ =>
    have e0 : c0 = .int .i64 z0 := Option.some.inj h0
    have e1 : c1 = .int .i64 z1 := Option.some.inj h1
    have e2 : c2 = .int .i64 z2 := Option.some.inj h2
    have e3 : c3 = .int .i64 z3 := Option.some.inj h3
    have e4 : c4 = .int .i64 z4 := Option.some.inj h4
    rw [e0, e1, e2, e3, e4]
theorem open_instrs {a : Option Addr} {len cap : Nat} {d : DataW H} {ps : List MemPlace} {ts : List TypeId} {ds : List (DataW H)} {j : Nat}
    (hsz : (DataW.weightsEach Tryd.prog ts ds).all (· ≤ reachBytes) = true) (ht : ts[j]? = some 55) (hd : ds[j]? = some d)
    (h : DataW.Trod enc Tryd.prog W base sp held 55 (.slice a len cap) d ps) : ∃ l : List S42, len = l.length ∧ Kd.C k42 W a l.length l ∧ l.length ≤ cap ∧ l.length * 40 ≤ 140737488351232 := by
  obtain ⟨fuel, hf⟩ := h
  rcases open_slice Tryd.underlying55 hf with ⟨hcs, _⟩ | ⟨x, l, c, m, n, D, Pl, hcs, _, hlc, hcm, hm, hx, hel⟩
  · simp [Value.cells] at hcs
    obtain ⟨rfl, rfl, rfl⟩ := hcs
    exact ⟨[], rfl, ⟨rfl, by simp, fun h => absurd h (by simp)⟩, by simp, by simp⟩
  · simp [Value.cells] at hcs
    obtain ⟨rfl, rfl, rfl⟩ := hcs
    obtain ⟨hx, _⟩ := Prod.mk.inj hx
    subst hx
    have z := sized_slice hsz ht hd Tryd.underlying55
    rw [show Tryd.prog.bytesOf 42 = 40 by kernel_rfl] at z
    replace z : _ ≤ 140737488351232 := z
    simp only [List.length_map, List.length_range] at z
    have hlm : len ≤ m := by rw [hm]; split <;> omega
    have hs : ∀ i, i < len → ∃ s : S42, ∀ q u, ([.int .i64 s.f0, .int .i64 s.f1, .int .i64 s.f2, .int .i64 s.f3, .int .i64 s.f4] : List Value)[q]? = some u → W.cell? (x.add (i * 5 + q)) = some u := fun i hi => by
      obtain ⟨cs', h1, h2⟩ := hel i (by omega)
      rw [cells42] at h1
      obtain ⟨s, rfl⟩ := instr_cells h2
      refine ⟨s, fun q u hu => ?_⟩
      have hq : q < 5 := (List.getElem?_eq_some_iff.1 hu).1
      rw [← Go.Proofs.YtcjidibdidijaaaDoorW.PrintWords.add_add, (World.cells?_some h1).2.2 q hq]
      exact hu
    have hch : ∃ f : Nat → S42, ∀ i, i < len → ∀ q u, ([.int .i64 (f i).f0, .int .i64 (f i).f1, .int .i64 (f i).f2, .int .i64 (f i).f3, .int .i64 (f i).f4] : List Value)[q]? = some u → W.cell? (x.add (i * 5 + q)) = some u :=
      ⟨fun i => if hi : i < len then (hs i hi).choose else z42, fun i hi => by
        have := (hs i hi).choose_spec
        simpa only [dif_pos hi] using this⟩
    obtain ⟨f, hf⟩ := hch
    refine ⟨(List.range len).map f, by simp, ⟨rfl, ?_, fun _ => ⟨x, rfl, fun i p hp => ?_⟩⟩, by simpa using hlc, by simp; omega⟩
    · simp only [maxLen] at hcm
      simp
      omega
    · simp only [List.getElem?_map, Option.map_eq_some_iff] at hp
      obtain ⟨i', hi', rfl⟩ := hp
      have hlt : i < len := by have := (List.getElem?_eq_some_iff.1 hi').1; simpa using this
      have : i' = i := by rw [List.getElem?_range hlt] at hi'; exact (Option.some.inj hi').symm
      subst this
      exact ⟨_, rfl, k42_mk W (f i'), fun q u hu => hf i' hlt q u hu⟩
end
end Go.Proofs.YtcjidibdidijaaaDoor
