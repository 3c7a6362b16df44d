/- The laid table: what the rows' list gives is what the walks read. -/
import Derived.Test.YtcjidibdidijaaaDoorRows
import Derived.Test.YtcjidibdidijaaaDoorTab
import Derived.Deep.Slices
import Derived.Lib.LaidTab
import Derived.KernelRfl
namespace Go.Proofs.YtcjidibdidijaaaDoor
set_option linter.unusedVariables false
open Go.Deep

theorem gTab : Tryd.prog.globalNamed "fulling/machine.table" = some 0 := by kernel_rfl
theorem gTabType : (Tryd.prog.globals[0]?).map (·.type) = some 127 := by kernel_rfl
theorem cells87 : Tryd.prog.cellsOf 87 = 7 := by kernel_rfl
theorem cells3 : Tryd.prog.cellsOf 3 = 1 := by kernel_rfl
theorem cells4 : Tryd.prog.cellsOf 4 = 1 := by kernel_rfl
theorem cells9 : Tryd.prog.cellsOf 9 = 1 := by kernel_rfl

def rowData {H : Type} (r : List UInt8 × Int × Bool × Bool × Bool × Bool × Int) : DataW H :=
  .agg [.lit (.string r.1), .lit (.int .i64 r.2.1), .lit (.bool r.2.2.1), .lit (.bool r.2.2.2.1), .lit (.bool r.2.2.2.2.1), .lit (.bool r.2.2.2.2.2.1), .lit (.int .i64 r.2.2.2.2.2.2)]

theorem field_lit {H : Type} {xs : List (DataW H × List MemPlace)} {ds : List (DataW H)} (h : xs.map (·.1) = ds) (j : Nat) (d : DataW H) (hd : ds[j]? = some d) : ∃ q, xs[j]? = some (d, q) := by
  subst h
  simp only [List.getElem?_map, Option.map_eq_some_iff] at hd
  obtain ⟨x, hx, rfl⟩ := hd
  exact ⟨x.2, hx⟩
theorem take_one {cs : List Value} {j : Nat} {v : Value} (h : (cs.drop j).take 1 = [v]) : cs[j]? = some v := by
  have := congrArg (·[0]?) h
  simpa [List.getElem?_take, List.getElem?_drop] using this

section
variable {H : Type} {enc : TypeId × Value → H} {w : World} {base : Nat} {sp : Nat → Bool} {held : Bool}
theorem lit_int {n : Nat} {t : TypeId} {k : IntKind} {z : Int} {cs : List Value} {q : List MemPlace} {v : Nat} (ht : Tryd.prog.underlying t = some (.int k)) (h : DataW.trod enc Tryd.prog w base sp held n t ((cs.drop v).take 1) = some (.lit (.int k z), q)) : cs[v]? = some (.int k z) := by
  obtain ⟨z', hc, hx, _⟩ := DataW.trod_int ht h
  simp only [Prod.mk.injEq, DataW.lit.injEq, Lit.int.injEq, true_and] at hx
  rw [hx.1]
  exact take_one hc
theorem lit_bool {n : Nat} {t : TypeId} {z : Bool} {cs : List Value} {q : List MemPlace} {v : Nat} (ht : Tryd.prog.underlying t = some .bool) (h : DataW.trod enc Tryd.prog w base sp held n t ((cs.drop v).take 1) = some (.lit (.bool z), q)) : cs[v]? = some (.bool z) := by
  obtain ⟨z', hc, hx⟩ := DataW.trod_bool ht h
  simp only [Prod.mk.injEq, DataW.lit.injEq, Lit.bool.injEq] at hx
  rw [hx.1]
  exact take_one hc
theorem lit_string {n : Nat} {t : TypeId} {z : List UInt8} {cs : List Value} {q : List MemPlace} {v : Nat} (ht : Tryd.prog.underlying t = some .string) (h : DataW.trod enc Tryd.prog w base sp held n t ((cs.drop v).take 1) = some (.lit (.string z), q)) : cs[v]? = some (.string ⟨z.toArray⟩) := by
  obtain ⟨z', hc, hx, _⟩ := DataW.trod_string ht h
  simp only [Prod.mk.injEq, DataW.lit.injEq, Lit.string.injEq] at hx
  rw [hx.1]
  exact take_one hc

theorem row_cells {n : Nat} {cs : List Value} {q : List MemPlace} (r : List UInt8 × Int × Bool × Bool × Bool × Bool × Int) (h : DataW.trod enc Tryd.prog w base sp held n 87 cs = some (rowData r, q)) :
    cs[0]? = some (.string ⟨r.1.toArray⟩) ∧ cs[1]? = some (.int .i64 r.2.1) ∧ cs[2]? = some (.bool r.2.2.1) ∧ cs[3]? = some (.bool r.2.2.2.1) ∧ cs[4]? = some (.bool r.2.2.2.2.1) ∧ cs[5]? = some (.bool r.2.2.2.2.2.1) ∧ cs[6]? = some (.int .i64 r.2.2.2.2.2.2) := by
  obtain ⟨xs, m, rfl, hx, hl, _, hf⟩ := DataW.trod_struct Tryd.underlying87 h
  injection hx with hx _
  injection hx with hx
  have e := hx.symm
  have g : ∀ (j : Nat) (f : Field) (d : DataW H), _ → _ → Tryd.prog.cellsOf f.type = 1 → ∃ q, DataW.trod enc Tryd.prog w base sp held m f.type ((cs.drop f.offset).take 1) = some (d, q) := fun j f d hj hd hc => by
    obtain ⟨q, hq⟩ := field_lit e j d hd
    have := (hf j f hj).trans hq
    rw [hc] at this
    exact ⟨q, this⟩
  obtain ⟨_, h0⟩ := g 0 _ _ rfl rfl cells9
  obtain ⟨_, h1⟩ := g 1 _ _ rfl rfl cells3
  obtain ⟨_, h2⟩ := g 2 _ _ rfl rfl cells4
  obtain ⟨_, h3⟩ := g 3 _ _ rfl rfl cells4
  obtain ⟨_, h4⟩ := g 4 _ _ rfl rfl cells4
  obtain ⟨_, h5⟩ := g 5 _ _ rfl rfl cells4
  obtain ⟨_, h6⟩ := g 6 _ _ rfl rfl cells3
  exact ⟨lit_string Tryd.underlying9 h0, lit_int Tryd.underlying3 h1, lit_bool Tryd.underlying4 h2, lit_bool Tryd.underlying4 h3, lit_bool Tryd.underlying4 h4, lit_bool Tryd.underlying4 h5, lit_int Tryd.underlying3 h6⟩
end

theorem laid_rows {H : Type} : ∃ rest, (Rows.laid_fulling_machine_table : DataW H) = .slice (tabT.map rowData) rest := ⟨_, rfl⟩

theorem tabOK_of_laid {W : World} (h : laidMetH Tryd.prog [("fulling/machine.table", Rows.laid_fulling_machine_table)] W) : TabOK W := by
  have h : laidMet Tryd.prog [("fulling/machine.table", Rows.laid_fulling_machine_table)] W := h
  obtain ⟨ps, ⟨g', t', cs, fuel, p, q, hg', ht', hvar, hd, _, _⟩, _⟩ := h
  obtain rfl := Option.some.inj (gTab.symm.trans hg')
  obtain rfl := Option.some.inj (gTabType.symm.trans ht')
  obtain ⟨rest, hr⟩ := laid_rows (H := Unit)
  rw [hr] at hd
  rcases open_slice Tryd.underlying127 hd with ⟨_, hx⟩ | ⟨a, len, cap, m, n, D, Pl, hcs, hb, hlc, hcm, hm, hx, hel⟩
  · injection hx with hx _
    cases hx
  · injection hx with hx _
    injection hx with hx _
    have hlen : len = 37 := by
      have := congrArg List.length hx
      simpa [tabT_len] using this.symm
    subst hlen
    have hD : ∀ i, i < 37 → D i = rowData (tabRow i) := fun i hi => by
      have := congrArg (·[i]?) hx
      simp only [List.getElem?_map, List.getElem?_range hi, Option.map_some] at this
      have h2 : tabT[i]? = some (tabRow i) := by
        unfold tabRow
        rw [List.getD_eq_getElem?_getD, List.getElem?_eq_getElem (by rw [tabT_len]; exact hi)]
        rfl
      rw [h2] at this
      exact (Option.some.inj this).symm
    have hm37 : 37 ≤ m := by rw [hm]; split <;> omega
    have hc : ∀ i, i < 37 → ∃ cs' : List Value, (∀ j, j < 7 → W.cell? ((a.add (i * 7)).add j) = cs'[j]?) ∧ (cs'[0]? = some (.string ⟨(tabRow i).1.toArray⟩) ∧ cs'[1]? = some (.int .i64 (tabRow i).2.1) ∧ cs'[2]? = some (.bool (tabRow i).2.2.1) ∧ cs'[3]? = some (.bool (tabRow i).2.2.2.1) ∧ cs'[4]? = some (.bool (tabRow i).2.2.2.2.1) ∧ cs'[5]? = some (.bool (tabRow i).2.2.2.2.2.1) ∧ cs'[6]? = some (.int .i64 (tabRow i).2.2.2.2.2.2)) := fun i hi => by
      obtain ⟨cs', h1, h2⟩ := hel i (by omega)
      rw [cells87] at h1
      rw [hD i hi] at h2
      exact ⟨cs', (World.cells?_some h1).2.2, row_cells (tabRow i) h2⟩
    have hsp : a.spot = none := by
      obtain ⟨cs', h1, h2, _⟩ := hc 0 (by omega)
      have h3 := (h1 0 (by omega)).trans h2
      have h4 : W.cell? a = some (.string ⟨(tabRow 0).1.toArray⟩) := h3
      unfold World.cell? at h4
      split at h4
      · split at h4
        · cases h4
        · rename_i hs
          simpa using hs
      · cases h4
    obtain ⟨tb, off, spot⟩ := a
    obtain rfl : spot = none := hsp
    have had : ∀ i j, ((⟨tb, off, none⟩ : Addr).add (i * 7)).add j = ⟨tb, off + i * 7 + j, none⟩ := fun i j => by
      unfold Addr.add
      split <;> split <;> simp_all
    have h00 : W.cell? ⟨0, 0, none⟩ = some (.slice (some ⟨tb, off, none⟩) 37 cap) := by
      rw [World.var?_cell gTab hvar 0]
      have := congrArg (·[0]?) hcs
      simpa using this
    have htb : W.cell? ⟨tb, off, none⟩ = some (.string ⟨(tabRow 0).1.toArray⟩) := by
      obtain ⟨cs', h1, h2, _⟩ := hc 0 (by omega)
      exact (h1 0 (by omega)).trans h2
    refine ⟨tb, off, cap, World.block_lt_of_cell? _ _ h00, World.block_lt_of_cell? _ _ htb, h00, fun i hi => ?_⟩
    obtain ⟨cs', h1, h20, h21, h22, h23, h24, h25, h26⟩ := hc i hi
    simp only [had] at h1
    exact ⟨(h1 0 (by omega)).trans h20, (h1 1 (by omega)).trans h21, (h1 2 (by omega)).trans h22, (h1 3 (by omega)).trans h23, (h1 4 (by omega)).trans h24, (h1 5 (by omega)).trans h25, (h1 6 (by omega)).trans h26⟩
end Go.Proofs.YtcjidibdidijaaaDoor
