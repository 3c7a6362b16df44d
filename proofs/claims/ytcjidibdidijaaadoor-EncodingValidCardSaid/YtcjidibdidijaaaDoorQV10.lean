/- Parts of this proof in one text: DecP. -/
import Derived.Test.YtcjidibdidijaaaDoorQV8
import Derived.Test.YtcjidibdidijaaaDoorQV9
namespace Go.Proofs.YtcjidibdidijaaaDoor
open Go.RowKit Go.Proofs.YtcjidibdidijaaaDoor.PCod Go.Proofs.YtcjidibdidijaaaDoorW.PrintWords Go.Proofs.YtcjidibdidijaaaDoorW.PrintMore
set_option linter.unusedVariables false
set_option linter.unusedSimpArgs false
def errD : Int × Int × Int × Int × Int × Int × Int := (0, 0, 0, 0, 0, 0, 204)
def u32s (w : List Int) : Prop := ∀ x ∈ w, 0 ≤ x ∧ x < 4294967296
theorem rd_u32 {w : List Int} (h : u32s w) (i : Int) : 0 ≤ rd w i ∧ rd w i < 4294967296 := by
  unfold rd
  rw [List.getD_eq_getElem?_getD]
  cases e : w[i.toNat]? with
  | none => simp
  | some x => exact h x (List.mem_of_getElem? e)
def decI (w : List Int) (a : Int) : S42 := ⟨rd w a % 64, cA (rd w a), cB (rd w a), cC (rd w a), cN (rd w a) (rd w (a + 1)) (rd w (a + 2))⟩
def sizeI (op : Int) : Int := if formOf op = 6 then 3 else 1
def okD (w : List Int) (a : Int) : Prop := 0 ≤ a ∧ a + sizeI (rd w a % 64) ≤ w.length ∧ vI (decI w a) = true ∧ word1 (decI w a).f0 (decI w a).f1 (decI w a).f2 (decI w a).f3 (decI w a).f4 = rd w a
instance (w : List Int) (a : Int) : Decidable (okD w a) := by unfold okD; exact inferInstance
def decS (w : List Int) (a : Int) : Int × Int × Int × Int × Int × Int × Int :=
  if okD w a then ((decI w a).f0, (decI w a).f1, (decI w a).f2, (decI w a).f3, (decI w a).f4, sizeI (rd w a % 64), 0) else errD
theorem words_rows : ∀ k, k < 37 → (tabRow k).2.2.2.2.2.2 = (if (tabRow k).2.1 = 6 then 3 else 1) ∧ (tabRow k).2.1 ≠ 0 := by decide +kernel
theorem infoF_words (op : Int) : ∃ nm b1 b2 b3 b4, infoF op = some (nm, formOf op, b1, b2, b3, b4, (if formOf op = 0 then 0 else sizeI op), decide (formOf op ≠ 0)) := by
  by_cases h : op < 1 ∨ op > 37
  · rw [formOf_out op h]
    unfold infoF
    by_cases d : op < 1
    · rw [if_pos d]; exact ⟨_, _, _, _, _, rfl⟩
    · rw [if_neg d, if_pos (by omega)]; exact ⟨_, _, _, _, _, rfl⟩
  · have hr := words_rows (op.toNat - 1) (by omega)
    have hf : formOf op = (tabRow (op.toNat - 1)).2.1 := by unfold formOf; rw [if_pos (by omega)]
    unfold infoF sizeI
    rw [if_neg (by omega), if_neg (by omega), hf, if_neg hr.2, hr.1, decide_eq_true hr.2]
    exact ⟨_, _, _, _, _, rfl⟩
theorem shr32 (x y : Int) (k : Nat) (hy : y = k) (hk : k ≤ 32) : shr .i32 x y = x / ((2 ^ k : Nat) : Int) := by
  subst hy
  unfold shr
  rw [Int.toNat_natCast, show IntKind.i32.bits = 32 from rfl, Nat.min_eq_left hk, Int.natCast_pow]
  rfl
theorem or_wide (y z : Int) (hy : 0 ≤ y ∧ y < 4294967296) (hz : 0 ≤ z ∧ z < 4294967296) : Go.bits .or .u64 (IntKind.u64.wrap y) (IntKind.u64.wrap ((IntKind.u64.wrap z) * 4294967296)) = y + z * 4294967296 := by
  rw [u64w, u64w, u64w, show y % 18446744073709551616 = y by omega, show z % 18446744073709551616 * 4294967296 % 18446744073709551616 = z * 4294967296 by omega]
  exact or64_add y z hy.1 hy.2 hz.1 hz.2
theorem op_small (x : Int) (h : 0 ≤ x ∧ x < 4294967296) : wrap64 (Go.bits .and .u32 x 63) = x % 64 := by
  rw [and63 x h.1 h.2]; unfold wrap64; omega
theorem fA_small (x : Int) (h : 0 ≤ x ∧ x < 4294967296) : wrap64 (Go.bits .and .u32 (x / 64) 7) = x / 64 % 8 := by
  rw [and7 _ (by omega) (by omega)]; unfold wrap64; omega
theorem fB_small (x : Int) (h : 0 ≤ x ∧ x < 4294967296) : wrap64 (Go.bits .and .u32 (x / 512) 7) = x / 512 % 8 := by
  rw [and7 _ (by omega) (by omega)]; unfold wrap64; omega
theorem fC_small (x : Int) (h : 0 ≤ x ∧ x < 4294967296) : wrap64 (Go.bits .and .u32 (x / 4096) 7) = x / 4096 % 8 := by
  rw [and7 _ (by omega) (by omega)]; unfold wrap64; omega
theorem w01 : wrap64 (0 + 1) = 1 := by unfold wrap64; omega
theorem w12 : wrap64 (1 + 1) = 2 := by unfold wrap64; omega
theorem w23 : wrap64 (2 + 1) = 3 := by unfold wrap64; omega
theorem rd_cons0 (x : Int) (l : List Int) : rd (x :: l) 0 = x := rfl
theorem rd_one (x y : Int) (l : List Int) : rd (x :: y :: l) 1 = y := rfl
theorem rd_two (x y z : Int) (l : List Int) : rd (x :: y :: z :: l) 2 = z := rfl
theorem dec_j2 (w : List Int) (hw : u32s w) (hl : w.length ≤ 9223372036854775800) (a : Int) (a0 : 0 ≤ a) (b c d n : Int) (op : Int) (nm : ByteArray) (f : Int) (b1 b2 b3 b4 : Bool)
    (hle : a + sizeI op ≤ w.length) (hy : formOf op = 6 → rd w (a + 1) = n % 4294967296) (hz : formOf op = 6 → rd w (a + 2) = n % 18446744073709551616 / 4294967296) :
    Ev (fun k => encoding_Decode.j2 k w a op b c d n nm f b1 b2 b3 b4 (sizeI op)) (if valB op b c d n = true ∧ word1 op b c d n = rd w a then (op, b, c, d, n, sizeI op, 0) else errD) := by
  have hs : 1 ≤ sizeI op := by unfold sizeI; split <;> omega
  by_cases hv : valB op b c d n = true
  · have hV := of_decide_eq_true hv
    refine Ev.step (f := fun k => encoding_Decode.l0 k w a (appW op b c d n) ((appW op b c d n).length : Int) 0 op b c d n nm f b1 b2 b3 b4 (sizeI op)) (fun k => ?_) ?_
    · rw [encoding_Decode.j2]
      have h1 : machine_Valid.f op b c d n = some true := congrArg some hv
      have h2 : encoding_appendInstr.f [] op b c d n = some (appW op b c d n) := by show appF [] op b c d n = _; unfold appF; rw [if_pos (by decide)]; rfl
      rw [h1, Option.bind_some, if_pos rfl, h2, Option.bind_some]
    · by_cases h6 : formOf op = 6
      · have hs3 : sizeI op = 3 := if_pos h6
        have ew : appW op b c d n = [word1 op b c d n, n % 4294967296, n % 18446744073709551616 / 4294967296] := by rw [appW_eq hV, if_pos h6]
        rw [ew]
        have e1 := hy h6
        have e2 := hz h6
        by_cases hx : word1 op b c d n = rd w a
        · rw [if_pos ⟨hv, hx⟩]
          refine Ev.step (f := fun k => encoding_Decode.l0 k w a [word1 op b c d n, n % 4294967296, n % 18446744073709551616 / 4294967296] ([word1 op b c d n, n % 4294967296, n % 18446744073709551616 / 4294967296].length : Int) 1 op b c d n nm f b1 b2 b3 b4 (sizeI op)) (fun k => ?_) ?_
          · rw [encoding_Decode.l0]
            rw [show wrap64 (a + 0) = a by unfold wrap64; omega, rd_cons0, hx, if_pos (by simp), if_pos (by omega), if_pos (by simp), if_pos (by omega), if_pos (by omega), if_pos rfl]
            rw [w01]
          refine Ev.step (f := fun k => encoding_Decode.l0 k w a [word1 op b c d n, n % 4294967296, n % 18446744073709551616 / 4294967296] ([word1 op b c d n, n % 4294967296, n % 18446744073709551616 / 4294967296].length : Int) 2 op b c d n nm f b1 b2 b3 b4 (sizeI op)) (fun k => ?_) ?_
          · rw [encoding_Decode.l0]
            rw [show wrap64 (a + 1) = a + 1 by unfold wrap64; omega, rd_one, e1, if_pos (by simp), if_pos (by omega), if_pos (by simp), if_pos (by omega), if_pos (by omega), if_pos rfl]
            rw [w12]
          refine Ev.step (f := fun k => encoding_Decode.l0 k w a [word1 op b c d n, n % 4294967296, n % 18446744073709551616 / 4294967296] ([word1 op b c d n, n % 4294967296, n % 18446744073709551616 / 4294967296].length : Int) 3 op b c d n nm f b1 b2 b3 b4 (sizeI op)) (fun k => ?_) ?_
          · rw [encoding_Decode.l0]
            rw [show wrap64 (a + 2) = a + 2 by unfold wrap64; omega, rd_two, e2, if_pos (by simp), if_pos (by omega), if_pos (by simp), if_pos (by omega), if_pos (by omega), if_pos rfl]
            rw [w23]
          refine Ev.step (f := fun _ => some (op, b, c, d, n, sizeI op, 0)) (fun k => ?_) (Ev.now _)
          rw [encoding_Decode.l0]
          rw [if_neg (by simp)]
        · rw [if_neg (fun h => hx h.2)]
          refine Ev.step (f := fun _ => some errD) (fun k => ?_) (Ev.now _)
          rw [encoding_Decode.l0]
          rw [show wrap64 (a + 0) = a by unfold wrap64; omega, rd_cons0, if_pos (by simp), if_pos (by omega), if_pos (by simp), if_pos (by omega), if_pos (by omega), if_neg (fun h => hx h.symm)]
          rfl
      · have hs1 : sizeI op = 1 := if_neg h6
        have ew : appW op b c d n = [word1 op b c d n] := by rw [appW_eq hV, if_neg h6]
        rw [ew]
        by_cases hx : word1 op b c d n = rd w a
        · rw [if_pos ⟨hv, hx⟩]
          refine Ev.step (f := fun k => encoding_Decode.l0 k w a [word1 op b c d n] ([word1 op b c d n].length : Int) 1 op b c d n nm f b1 b2 b3 b4 (sizeI op)) (fun k => ?_) ?_
          · rw [encoding_Decode.l0]
            rw [show wrap64 (a + 0) = a by unfold wrap64; omega, rd_cons0, hx, if_pos (by simp), if_pos (by omega), if_pos (by simp), if_pos (by omega), if_pos (by omega), if_pos rfl]
            rw [w01]
          refine Ev.step (f := fun _ => some (op, b, c, d, n, sizeI op, 0)) (fun k => ?_) (Ev.now _)
          rw [encoding_Decode.l0]
          rw [if_neg (by simp)]
        · rw [if_neg (fun h => hx h.2)]
          refine Ev.step (f := fun _ => some errD) (fun k => ?_) (Ev.now _)
          rw [encoding_Decode.l0]
          rw [show wrap64 (a + 0) = a by unfold wrap64; omega, rd_cons0, if_pos (by simp), if_pos (by omega), if_pos (by simp), if_pos (by omega), if_pos (by omega), if_neg (fun h => hx h.symm)]
          rfl
  · rw [if_neg (fun h => hv h.1)]
    refine Ev.step (f := fun _ => some errD) (fun k => ?_) (Ev.now _)
    rw [encoding_Decode.j2]
    have h1 : machine_Valid.f op b c d n = some false := congrArg some (by simpa using hv)
    rw [h1, Option.bind_some, if_neg (by decide)]
    rfl
theorem shift_some (f : Int) : encoding_shift.f f = some (shf f) := by
  unfold encoding_shift.f shf
  by_cases h8 : f = 8
  · rw [if_pos h8, if_pos h8]
  · rw [if_neg h8, if_neg h8]
    by_cases h5 : f = 5
    · rw [if_pos h5, if_pos h5]
    · rw [if_neg h5, if_neg h5]
      by_cases h7 : f = 7
      · rw [if_pos h7, if_pos h7]
      · rw [if_neg h7, if_neg h7]
theorem form_vals (op : Int) (h : formOf op ≠ 0) : formOf op = 1 ∨ formOf op = 2 ∨ formOf op = 3 ∨ formOf op = 4 ∨ formOf op = 5 ∨ formOf op = 6 ∨ formOf op = 7 ∨ formOf op = 8 := by
  by_cases c : 1 ≤ op ∧ op ≤ 37
  · unfold formOf
    rw [if_pos c]
    exact form_rows _ (by omega)
  · exact absurd (formOf_out op (by omega)) h
theorem sext6 (x : Int) (h : 0 ≤ x ∧ x < 4294967296) : wrap64 (shr .i32 (wrap32 x) 6) = if x / 64 < 33554432 then x / 64 else x / 64 - 67108864 := by
  rw [shr32 _ 6 6 rfl (by omega)]
  show wrap64 (wrap32 x / 64) = _
  unfold wrap64 wrap32
  split <;> omega
theorem sext9 (x : Int) (h : 0 ≤ x ∧ x < 4294967296) : wrap64 (shr .i32 (wrap32 x) 9) = if x / 512 < 4194304 then x / 512 else x / 512 - 8388608 := by
  rw [shr32 _ 9 9 rfl (by omega)]
  show wrap64 (wrap32 x / 512) = _
  unfold wrap64 wrap32
  split <;> omega
theorem sext12 (x : Int) (h : 0 ≤ x ∧ x < 4294967296) : wrap64 (shr .i32 (wrap32 x) 12) = if x / 4096 < 524288 then x / 4096 else x / 4096 - 1048576 := by
  rw [shr32 _ 12 12 rfl (by omega)]
  show wrap64 (wrap32 x / 4096) = _
  unfold wrap64 wrap32
  split <;> omega
theorem cA_yes {x f : Int} (hf : formOf (x % 64) = f) (h : hasA f = true) : cA x = x / 64 % 8 := if_pos (by rw [hf]; exact h)
theorem cA_no {x f : Int} (hf : formOf (x % 64) = f) (h : hasA f = false) : cA x = 0 := if_neg (by rw [hf, h]; decide)
theorem cB_yes {x f : Int} (hf : formOf (x % 64) = f) (h : hasB f = true) : cB x = x / 512 % 8 := if_pos (by rw [hf]; exact h)
theorem cB_no {x f : Int} (hf : formOf (x % 64) = f) (h : hasB f = false) : cB x = 0 := if_neg (by rw [hf, h]; decide)
theorem cC_yes {x f : Int} (hf : formOf (x % 64) = f) (h : hasC f = true) : cC x = x / 4096 % 8 := if_pos (by rw [hf]; exact h)
theorem cC_no {x f : Int} (hf : formOf (x % 64) = f) (h : hasC f = false) : cC x = 0 := if_neg (by rw [hf, h]; decide)
theorem cN_no {x y z f : Int} (hf : formOf (x % 64) = f) (h : hasN f = false) : cN x y z = 0 := by
  unfold cN
  rw [hf]
  have : f ≠ 8 ∧ f ≠ 5 ∧ f ≠ 7 ∧ f ≠ 6 := by
    refine ⟨?_, ?_, ?_, ?_⟩ <;> (rintro rfl; exact absurd h (by decide))
  rw [if_neg this.1, if_neg this.2.1, if_neg this.2.2.1, if_neg this.2.2.2]
theorem cN_8 {x y z : Int} (hf : formOf (x % 64) = 8) : cN x y z = if x / 64 < 33554432 then x / 64 else x / 64 - 67108864 := by
  unfold cN; rw [hf]; rfl
theorem cN_5 {x y z : Int} (hf : formOf (x % 64) = 5) : cN x y z = if x / 512 < 4194304 then x / 512 else x / 512 - 8388608 := by
  unfold cN; rw [hf]; rfl
theorem cN_7 {x y z : Int} (hf : formOf (x % 64) = 7) : cN x y z = if x / 4096 < 524288 then x / 4096 else x / 4096 - 1048576 := by
  unfold cN; rw [hf]; rfl
theorem cN_6 {x y z : Int} (hf : formOf (x % 64) = 6) : cN x y z = wrap64 (y + z * 4294967296) := by
  unfold cN; rw [hf]; rfl
theorem dec_j1 (w : List Int) (hw : u32s w) (hl : w.length ≤ 9223372036854775800) (a : Int) (a0 : 0 ≤ a) (x : Int) (hx : 0 ≤ x ∧ x < 4294967296) (hle : a + sizeI (x % 64) ≤ w.length) (h0 : formOf (x % 64) ≠ 0)
    (nm : ByteArray) (b1 b2 b3 b4 : Bool) (s : Int) (k : Nat) :
    encoding_Decode.j1 (k + 1) w a x false (x % 64) 0 0 0 0 nm (formOf (x % 64)) b1 b2 b3 b4 s = encoding_Decode.j2 k w a (x % 64) (cA x) (cB x) (cC x) (cN x (rd w (a + 1)) (rd w (a + 2))) nm (formOf (x % 64)) b1 b2 b3 b4 s := by
  have hA := fA_small x hx
  have hB := fB_small x hx
  have hC := fC_small x hx
  rcases form_vals _ h0 with hf | hf | hf | hf | hf | hf | hf | hf
  · rw [cA_no hf (by decide), cB_no hf (by decide), cC_no hf (by decide), cN_no hf (by decide)]
    simp only [encoding_Decode.j1, shift_some, hf, shf, Int.reduceEq, Int.reduceLE, ↓reduceIte, Option.bind_some, Bool.false_eq_true]
  · rw [cA_yes hf (by decide), cB_no hf (by decide), cC_no hf (by decide), cN_no hf (by decide), ← hA]
    simp only [encoding_Decode.j1, shift_some, hf, shf, Int.reduceEq, Int.reduceLE, ↓reduceIte, Option.bind_some, Bool.false_eq_true]
  · rw [cA_yes hf (by decide), cB_yes hf (by decide), cC_no hf (by decide), cN_no hf (by decide), ← hA, ← hB]
    simp only [encoding_Decode.j1, shift_some, hf, shf, Int.reduceEq, Int.reduceLE, ↓reduceIte, Option.bind_some, Bool.false_eq_true]
  · rw [cA_yes hf (by decide), cB_yes hf (by decide), cC_yes hf (by decide), cN_no hf (by decide), ← hA, ← hB, ← hC]
    simp only [encoding_Decode.j1, shift_some, hf, shf, Int.reduceEq, Int.reduceLE, ↓reduceIte, Option.bind_some, Bool.false_eq_true]
  · rw [cA_yes hf (by decide), cB_no hf (by decide), cC_no hf (by decide), cN_5 hf, ← sext9 x hx, ← hA]
    simp only [encoding_Decode.j1, shift_some, hf, shf, Int.reduceEq, Int.reduceLE, ↓reduceIte, Option.bind_some, Bool.false_eq_true]
  · have hs : sizeI (x % 64) = 3 := if_pos hf
    have e1 : wrap64 (a + 1) = a + 1 := by unfold wrap64; omega
    have e2 : wrap64 (a + 2) = a + 2 := by unfold wrap64; omega
    rw [cA_yes hf (by decide), cB_no hf (by decide), cC_no hf (by decide), cN_6 hf, ← or_wide _ _ (rd_u32 hw (a + 1)) (rd_u32 hw (a + 2)), ← hA]
    simp only [encoding_Decode.j1, shift_some, hf, shf, Int.reduceEq, Int.reduceLE, ↓reduceIte, Option.bind_some, Bool.false_eq_true, e1, e2]
    rw [if_pos (by omega), if_pos (by omega), if_pos (by omega), if_pos (by omega)]
  · rw [cA_yes hf (by decide), cB_yes hf (by decide), cC_no hf (by decide), cN_7 hf, ← sext12 x hx, ← hA, ← hB]
    simp only [encoding_Decode.j1, shift_some, hf, shf, Int.reduceEq, Int.reduceLE, ↓reduceIte, Option.bind_some, Bool.false_eq_true]
  · rw [cA_no hf (by decide), cB_no hf (by decide), cC_no hf (by decide), cN_8 hf, ← sext6 x hx]
    simp only [encoding_Decode.j1, shift_some, hf, shf, Int.reduceEq, Int.reduceLE, ↓reduceIte, Option.bind_some, Bool.false_eq_true]
theorem wide_lo (y z : Int) (hy : 0 ≤ y ∧ y < 4294967296) (hz : 0 ≤ z ∧ z < 4294967296) : wrap64 (y + z * 4294967296) % 4294967296 = y ∧ wrap64 (y + z * 4294967296) % 18446744073709551616 / 4294967296 = z := by
  unfold wrap64
  omega
theorem dec_ev (w : List Int) (hw : u32s w) (hl : w.length ≤ 9223372036854775800) (a : Int) : Ev (fun k => encoding_Decode.f k w a) (decS w a) := by
  by_cases h : a < 0 ∨ (w.length : Int) ≤ a
  · have hs : 1 ≤ sizeI (rd w a % 64) := by unfold sizeI; split <;> omega
    rw [show decS w a = errD from if_neg (fun hk => by have := hk.1; have := hk.2.1; omega)]
    refine Ev.congr (f := fun k => encoding_Decode.j0 k w a true) (fun k => ?_) ?_
    · show encoding_Decode.f k w a = _
      unfold encoding_Decode.f
      by_cases h1 : a < 0
      · rw [if_pos h1]
      · rw [if_neg h1, decide_eq_true (by omega)]
    · refine Ev.step (f := fun _ => some errD) (fun k => ?_) (Ev.now _)
      rw [encoding_Decode.j0]
      rw [if_pos rfl]
      rfl
  · refine Ev.congr (f := fun k => encoding_Decode.j0 k w a false) (fun k => ?_) ?_
    · show encoding_Decode.f k w a = _
      unfold encoding_Decode.f
      rw [if_neg (by omega), decide_eq_false (by omega)]
    · have hx := rd_u32 hw a
      obtain ⟨nm, b1, b2, b3, b4, hi⟩ := infoF_words (rd w a % 64)
      have hi' : machine_Info.f (rd w a % 64) = _ := hi
      have hop := op_small _ hx
      have e0 : wrap64 ((w.length : Int) - a) = w.length - a := by unfold wrap64; omega
      by_cases h0 : formOf (rd w a % 64) = 0
      · rw [show decS w a = errD from if_neg (fun hk => by have hv := (vI_val hk.2.2.1); have h1 : 1 ≤ rd w a % 64 := hv.1; have h2 : rd w a % 64 ≤ 37 := hv.2.1; have := (formOf_iff0 _).1 h0; omega)]
        rw [if_pos h0, h0] at hi'
        refine Ev.step (f := fun k => encoding_Decode.j1 k w a (rd w a) true (rd w a % 64) 0 0 0 0 nm 0 b1 b2 b3 b4 0) (fun k => ?_) ?_
        · rw [encoding_Decode.j0]
          rw [if_neg (by decide), if_pos (by omega), if_pos (by omega), hop, hi', Option.bind_some, if_neg (by simp)]
        · refine Ev.step (f := fun _ => some errD) (fun k => ?_) (Ev.now _)
          rw [encoding_Decode.j1]
          rw [if_pos rfl]
          rfl
      · rw [if_neg h0, decide_eq_true h0] at hi'
        by_cases hsz : a + sizeI (rd w a % 64) ≤ w.length
        · refine Ev.step (f := fun k => encoding_Decode.j1 k w a (rd w a) false (rd w a % 64) 0 0 0 0 nm (formOf (rd w a % 64)) b1 b2 b3 b4 (sizeI (rd w a % 64))) (fun k => ?_) ?_
          · rw [encoding_Decode.j0]
            rw [if_neg (by decide), if_pos (by omega), if_pos (by omega), hop, hi', Option.bind_some, if_pos rfl, e0, decide_eq_false (by simp only; omega)]
          · refine Ev.step (fun k => dec_j1 w hw hl a (by omega) _ hx hsz h0 nm b1 b2 b3 b4 (sizeI (rd w a % 64)) k) ?_
            have hd : decS w a = if valB (rd w a % 64) (cA (rd w a)) (cB (rd w a)) (cC (rd w a)) (cN (rd w a) (rd w (a + 1)) (rd w (a + 2))) = true ∧ word1 (rd w a % 64) (cA (rd w a)) (cB (rd w a)) (cC (rd w a)) (cN (rd w a) (rd w (a + 1)) (rd w (a + 2))) = rd w a then (rd w a % 64, cA (rd w a), cB (rd w a), cC (rd w a), cN (rd w a) (rd w (a + 1)) (rd w (a + 2)), sizeI (rd w a % 64), 0) else errD := by
              unfold decS
              by_cases c : okD w a
              · rw [if_pos c, if_pos ⟨c.2.2.1, c.2.2.2⟩]; rfl
              · rw [if_neg c, if_neg (fun h => c ⟨by omega, hsz, h.1, h.2⟩)]
            rw [hd]
            refine dec_j2 w hw hl a (by omega) _ _ _ _ _ nm _ b1 b2 b3 b4 hsz (fun h6 => ?_) (fun h6 => ?_)
            · rw [cN_6 h6]
              exact ((wide_lo _ _ (rd_u32 hw _) (rd_u32 hw _)).1).symm
            · rw [cN_6 h6]
              exact ((wide_lo _ _ (rd_u32 hw _) (rd_u32 hw _)).2).symm
        · rw [show decS w a = errD from if_neg (fun hk => hsz hk.2.1)]
          refine Ev.step (f := fun k => encoding_Decode.j1 k w a (rd w a) true (rd w a % 64) 0 0 0 0 nm (formOf (rd w a % 64)) b1 b2 b3 b4 (sizeI (rd w a % 64))) (fun k => ?_) ?_
          · rw [encoding_Decode.j0]
            rw [if_neg (by decide), if_pos (by omega), if_pos (by omega), hop, hi', Option.bind_some, if_pos rfl, e0, decide_eq_true (by simp only; omega)]
          · refine Ev.step (f := fun _ => some errD) (fun k => ?_) (Ev.now _)
            rw [encoding_Decode.j1]
            rw [if_pos rfl]
            rfl
end Go.Proofs.YtcjidibdidijaaaDoor
