/- Parts of this proof in one text: App, Valid, RVal0. -/
import Derived.Test.YtcjidibdidijaaaDoorQV1
import Derived.StillTailTactics
import Derived.Lib.Hide
import Derived.Outline
import Derived.Test.YtcjidibdidijaaaDoorQV2
import Derived.Test.YtcjidibdidijaaaDoorQV4
namespace Go.Proofs.YtcjidibdidijaaaDoor
set_option linter.unusedVariables false
set_option linter.unusedSimpArgs false
open Go.RowKit Go.Proofs.YtcjidibdidijaaaDoorW.PrintWords Go.Proofs.YtcjidibdidijaaaDoorW.PrintMore Go.Proofs.YtcjidibdidijaaaDoorW.PrintLast
def shf (f : Int) : Int := if f = 8 then 6 else if f = 5 then 9 else if f = 7 then 12 else 32
theorem shift_calls (f : Int) (w : World) : Calls Tryd.prog 71 #[.int .i64 f] w fun e w' => e = .returned (.int .u64 (shf f)) ∧ w = w' := by
  by_cases h1 : f = 8
  · subst h1
    go_enter Tryd.func71, Tryd.ntmps71
    go_wp2
    go_ret
    exact ⟨rfl, rfl⟩
  · by_cases h2 : f = 5
    · subst h2
      go_enter Tryd.func71, Tryd.ntmps71
      go_wp2
      go_ret
      exact ⟨rfl, rfl⟩
    · by_cases h3 : f = 7
      · subst h3
        go_enter Tryd.func71, Tryd.ntmps71
        go_wp2
        go_ret
        exact ⟨rfl, rfl⟩
      · have e : shf f = 32 := by simp [shf, h1, h2, h3]
        rw [e]
        have b1 : (f == 8) = false := beq_eq_false_iff_ne.2 h1
        have b2 : (f == 5) = false := beq_eq_false_iff_ne.2 h2
        have b3 : (f == 7) = false := beq_eq_false_iff_ne.2 h3
        go_enter Tryd.func71, Tryd.ntmps71
        go_wp2
        go_ret
        exact ⟨rfl, rfl⟩
def wordOf (a0 a1 a2 a3 : Int) : Int := bits BinOp.or IntKind.u32 (bits BinOp.or IntKind.u32 (bits BinOp.or IntKind.u32 (a0 % 4294967296) (a1 % 4294967296 * 64 % 4294967296)) (a2 % 4294967296 * 512 % 4294967296)) (a3 % 4294967296 * 4096 % 4294967296)
def app.T5 : Bool × List (List Nat × List Nat) := (true, [([], []), ([], []), ([], []), ([2], [2]), ([3], [3]), ([], []), ([5], [5]), ([6], [6]), ([4, 7], [4, 7]), ([1, 8], [1, 8]), ([9], [9]), ([0, 10, 7], [0, 10]), ([11, 11, 0, 1, 2, 3, 4, 5, 6, 7, 8, 9, 10, 11], [11])])
def app.B5 : List Nat := [0, 0, 0, 4, 12, 0, 32, 96, 252, 510, 1022, 2047, 4095]
theorem app.tab5 : rtab .any (opsOf Tryd.f70 5) = app.T5 := by kernel_rfl
theorem app.bits5 : waitsOk app.T5.2 app.B5 = true := by kernel_rfl
theorem info53a : (Tryd.prog.info? 53).map (fun i => (i.zero, i.size, i.bytes)) = some (some (.int .u32 0), 1, 4) := by kernel_rfl
set_option maxRecDepth 100000 in
set_option maxHeartbeats 2000000 in
theorem app_one (P0 : Nat → Prop) (u : Value) (l : List Int) (a0 a1 a2 a3 a4 : Int) (nm : ByteArray) (f wd : Int) (b1 b2 b3 b4 b5 : Bool) (w0 w : World) (hB : Below w0.heap.size w0 w)
    (HO : Aside0 (Kd.R (Kd.int .u32) 53 w w0.heap.size P0 u l)) (hf : (f == 6) = false) (h : l.length < 35184372088832)
    (HI : Hid (∀ W, Below w0.heap.size w0 W → Calls Tryd.prog 59 #[.int .i64 a0] W fun e w' => e = .returned (.tuple #[.agg #[.string nm, .int .i64 f, .bool b1, .bool b2, .bool b3, .bool b4, .int .i64 wd], .bool b5]) ∧ Below W.heap.size W w')) :
    Calls Tryd.prog 70 #[u, .agg #[.int .i64 a0, .int .i64 a1, .int .i64 a2, .int .i64 a3, .int .i64 a4]] w fun e w' => ∃ v, e = .returned v ∧ Kd.R (Kd.int .u32) 53 w' w0.heap.size (fun k => P0 k ∨ w.heap.size ≤ k) v (l ++ [bits .or .u32 (wordOf a0 a1 a2 a3) (shl .u32 (a4 % 4294967296) (shf f))]) ∧ Below w0.heap.size w0 w' ∧ Kept w w' P0 := by
  have hwo : bits BinOp.or IntKind.u32 (bits BinOp.or IntKind.u32 (bits BinOp.or IntKind.u32 (a0 % 4294967296) (a1 % 4294967296 * 64 % 4294967296)) (a2 % 4294967296 * 512 % 4294967296)) (a3 % 4294967296 * 4096 % 4294967296) = wordOf a0 a1 a2 a3 := rfl
  generalize wordOf a0 a1 a2 a3 = x0 at *
  have hsh := Lib.hid (shift_calls f)
  have s0 : 0 ≤ shf f := by unfold shf; split <;> (try split) <;> (try split) <;> omega
  have s1 : shf f ≤ 32 := by unfold shf; split <;> (try split) <;> (try split) <;> omega
  generalize shf f = sf at *
  obtain ⟨ji, hji⟩ : ∃ j_ : Int, (shl .u32 (a4 % 4294967296) sf) = j_ := ⟨_, rfl⟩
  have hji_ : (IntKind.u32.wrap ((a4 % 4294967296) * 2 ^ min sf.toNat 32)) = ji := hji
  have hjiz : IntKind.u32.wrap ((a4 % 4294967296) * 2 ^ sf.toNat) = ji := shl_small hji s1
  have hjw : IntKind.u32.wrap (IntKind.u32.wrap a4 * 2 ^ sf.toNat) = ji := hjiz
  have hown : ∀ k, u.ownBlock = some k → k < w.heap.size := Kd.R_lt HO.out
  have s0b : decide (0 ≤ sf) = true := decide_eq_true s0
  rw [hji]
  clear hji
  go_enter Tryd.func70, Tryd.ntmps70
  go_wp2_with fail
  refine (HI.out _ (hB.alloc (hB.size) _)).mono ?_
  rintro e w1 ⟨rfl, hb⟩
  have hz : w.heap.size < w1.heap.size := by have := hb.size; simp at this; omega
  have g0 : w1.cell? ⟨w.heap.size, 0, none⟩ = some (.int .i64 a0) := (hb.cell (p := ⟨w.heap.size, 0, none⟩) (by simp)).trans (by simp)
  have g1 : w1.cell? ⟨w.heap.size, 1, none⟩ = some (.int .i64 a1) := (hb.cell (p := ⟨w.heap.size, 1, none⟩) (by simp)).trans (by simp)
  have g2 : w1.cell? ⟨w.heap.size, 2, none⟩ = some (.int .i64 a2) := (hb.cell (p := ⟨w.heap.size, 2, none⟩) (by simp)).trans (by simp)
  have g3 : w1.cell? ⟨w.heap.size, 3, none⟩ = some (.int .i64 a3) := (hb.cell (p := ⟨w.heap.size, 3, none⟩) (by simp)).trans (by simp)
  have g4 : w1.cell? ⟨w.heap.size, 4, none⟩ = some (.int .i64 a4) := (hb.cell (p := ⟨w.heap.size, 4, none⟩) (by simp)).trans (by simp)
  have HO1 := Aside0.mk (Kd.R_below (Kd.R_alloc HO.out _) hb)
  have HB1 := Aside0.mk (below_step (hB.alloc hB.size _) hb)
  have HK1 := Aside0.mk (Kept.below (S := P0) (Kept.alloc (Kept.refl w P0) _) hb)
  have hw1 : w.heap.size ≤ w1.heap.size := Nat.le_of_lt hz
  clear hb HO
  go_wp2_with fail
  have HO2 := Aside0.mk (Kd.R_drew (Kd.R_alloc HO1.out (.cells #[.string nm, .int .i64 f, .bool b1, .bool b2, .bool b3, .bool b4, .int .i64 wd] 87)))
  have HB2 := Aside0.mk (below_drew1 (below_alloc HB1.out (.cells #[.string nm, .int .i64 f, .bool b1, .bool b2, .bool b3, .bool b4, .int .i64 wd] 87)))
  have HK2 := Aside0.mk (Kept.drew (Kept.alloc HK1.out (.cells #[.string nm, .int .i64 f, .bool b1, .bool b2, .bool b3, .bool b4, .int .i64 wd] 87)))
  have hz2 : w1.heap.size < (w1.alloc (.cells #[.string nm, .int .i64 f, .bool b1, .bool b2, .bool b3, .bool b4, .int .i64 wd] 87)).drew.heap.size := by simp
  have c4 : (w1.alloc (.cells #[.string nm, .int .i64 f, .bool b1, .bool b2, .bool b3, .bool b4, .int .i64 wd] 87)).drew.cell? ⟨w.heap.size, 4, none⟩ = some (.int .i64 a4) := by go_simp
  have cf : (w1.alloc (.cells #[.string nm, .int .i64 f, .bool b1, .bool b2, .bool b3, .bool b4, .int .i64 wd] 87)).drew.cell? ⟨w1.heap.size, 1, none⟩ = some (.int .i64 f) := by go_simp
  clear HO1 HB1 HK1
  refine start_ (n := 13) (S := (fun w' => w'.cell? ⟨w.heap.size, 4, none⟩ = some (.int .i64 a4) ∧ w'.cell? ⟨w1.heap.size, 1, none⟩ = some (.int .i64 f))) (ds := []) #[false, false, false, false, false, false, false, false, false, false, false, false, false] (by kernel_rfl) rfl rfl ⟨c4, cf⟩ (fun hHeld => ?_)
  refine with_tabW app.tab5 app.bits5 (fun HT_ HW_ => ?_)
  generalize (w1.alloc (.cells #[.string nm, .int .i64 f, .bool b1, .bool b2, .bool b3, .bool b4, .int .i64 wd] 87)).drew = W at *
  refine pure_ (i := 0) (N := some 47) (v := ?_) (a' := ?_) #[true, false, false, false, false, false, false, false, false, false, false, false, false] rfl rfl (any_of HT_.out (by kernel_rfl)) (fun _ _ _ h => h) (Or.inl ⟨by rfl, ?_⟩) ?_ ?_
  rotate_left
  · intro w'
    go_simp
    with_reducible rfl
  rotate_left
  · simp only [Act.put, List.setIfInBounds_toArray, List.set_cons_zero, List.set_cons_succ, i64_w, i32_w]
    rfl
  refine pure_ (i := 1) (N := some 48) (v := ?_) (a' := ?_) #[true, true, false, false, false, false, false, false, false, false, false, false, false] rfl rfl (any_of HT_.out (by kernel_rfl)) (fun _ _ _ h => h) (Or.inl ⟨by rfl, ?_⟩) ?_ ?_
  rotate_left
  · intro w'
    go_simp
    with_reducible rfl
  rotate_left
  · simp only [Act.put, List.setIfInBounds_toArray, List.set_cons_zero, List.set_cons_succ, i64_w, i32_w]
    rfl
  refine pure_ (i := 2) (N := some 49) (v := ?_) (a' := ?_) #[true, true, true, false, false, false, false, false, false, false, false, false, false] rfl rfl (any_of HT_.out (by kernel_rfl)) (fun _ _ _ h => h) (Or.inl ⟨by rfl, ?_⟩) ?_ ?_
  rotate_left
  · intro w'
    go_simp
    with_reducible rfl
  rotate_left
  · simp only [Act.put, List.setIfInBounds_toArray, List.set_cons_zero, List.set_cons_succ, i64_w, i32_w]
    rfl
  refine pure_ (i := 5) (N := some 52) (v := ?_) (a' := ?_) #[true, true, true, false, false, true, false, false, false, false, false, false, false] rfl rfl (any_of HT_.out (by kernel_rfl)) (fun _ _ _ h => h) (Or.inl ⟨by rfl, ?_⟩) ?_ ?_
  rotate_left
  · intro w'
    go_simp
    with_reducible rfl
  rotate_left
  · simp only [Act.put, List.setIfInBounds_toArray, List.set_cons_zero, List.set_cons_succ, i64_w, i32_w]
    rfl
  refine take_ (i := 3) (N := some 50) (v := ?_) (a' := ?_) #[true, true, true, true, false, true, false, false, false, false, false, false, false] rfl rfl (take_ofW HT_.out HW_.out (by kernel_rfl)) (fun _ _ _ h => h) (Or.inl ⟨by rfl, ?_⟩) hHeld ?_ ?_
  rotate_left
  · rintro w' ⟨s0, s1⟩
    go_simp
    with_reducible rfl
  rotate_left
  · simp only [Act.put, List.setIfInBounds_toArray, List.set_cons_zero, List.set_cons_succ, i64_w, i32_w]
    rfl
  refine pure_ (i := 4) (N := some 51) (v := ?_) (a' := ?_) #[true, true, true, true, true, true, false, false, false, false, false, false, false] rfl rfl (any_of HT_.out (by kernel_rfl)) (fun _ _ _ h => h) (Or.inl ⟨by rfl, ?_⟩) ?_ ?_
  rotate_left
  · intro w'
    go_simp
    with_reducible rfl
  rotate_left
  · simp only [Act.put, List.setIfInBounds_toArray, List.set_cons_zero, List.set_cons_succ, i64_w, i32_w]
    rfl
  refine take_ (i := 6) (N := some 53) (v := ?_) (a' := ?_) #[true, true, true, true, true, true, true, false, false, false, false, false, false] rfl rfl (take_ofW HT_.out HW_.out (by kernel_rfl)) (fun _ _ _ h => h) (Or.inl ⟨by rfl, ?_⟩) hHeld ?_ ?_
  rotate_left
  · rintro w' ⟨s0, s1⟩
    go_simp
    with_reducible rfl
  rotate_left
  · simp only [Act.put, List.setIfInBounds_toArray, List.set_cons_zero, List.set_cons_succ, i64_w, i32_w]
    rfl
  refine one_ (i := 7) (N := some 54) #[true, true, true, true, true, true, true, true, false, false, false, false, false] rfl rfl (one_of HT_.out (by kernel_rfl)) (by decide) (fun K hK => ?_)
  refine goes_ Tryd.func71 (by kernel_rfl) rfl #[.int .i64 f] (by rfl) rfl rfl (by (try simp only [List.map_toArray, List.map_cons, List.map_nil]); first | done | rfl) ?_
  with_reducible refine (hsh.out _).mono ?_
  rintro e w' ⟨rfl, rfl⟩
  refine ⟨_, rfl, ?_⟩
  refine hK.out _ _ ⟨c4, cf⟩ (fun hHeld => ?_)
  clear hK K
  refine norm_ (a' := ?_) ?_ ?_
  rotate_left
  · show Act.put _ (some 54) _ = _
    simp only [Act.put, List.setIfInBounds_toArray, List.set_cons_zero, List.set_cons_succ, i64_w, i32_w]
    rfl
  refine pure_ (i := 8) (N := some 55) (v := ?_) (a' := ?_) #[true, true, true, true, true, true, true, true, true, false, false, false, false] rfl rfl (any_of HT_.out (by kernel_rfl)) (fun _ _ _ h => h) (Or.inl ⟨by rfl, ?_⟩) ?_ ?_
  rotate_left
  · intro w'
    go_simp
    with_reducible rfl
  rotate_left
  · simp only [Act.put, List.setIfInBounds_toArray, List.set_cons_zero, List.set_cons_succ, i64_w, i32_w]
    rfl
  refine pure_ (i := 9) (N := some 56) (v := ?_) (a' := ?_) #[true, true, true, true, true, true, true, true, true, true, false, false, false] rfl rfl (any_of HT_.out (by kernel_rfl)) (fun _ _ _ h => h) (Or.inl ⟨by rfl, ?_⟩) ?_ ?_
  rotate_left
  · intro w'
    go_simp
    with_reducible rfl
  rotate_left
  · simp only [Act.put, List.setIfInBounds_toArray, List.set_cons_zero, List.set_cons_succ, i64_w, i32_w]
    rfl
  refine one_ (i := 10) (N := some 57) #[true, true, true, true, true, true, true, true, true, true, true, false, false] rfl rfl (one_of HT_.out (by kernel_rfl)) (by decide) (fun K hK => ?_)
  refine value_ (w1 := ?_) (v := ?_) (by rfl) rfl ?_ ?_
  rotate_left 2
  · go_simp
    constructor
    · rfl
    · rfl
  refine hK.out _ _ ⟨(((Below.refl W.heap.size W).alloc (Nat.le_refl _) _).cell (p := ⟨w.heap.size, 4, none⟩) (Nat.lt_trans hz hz2)).trans c4, (((Below.refl W.heap.size W).alloc (Nat.le_refl _) _).cell (p := ⟨w1.heap.size, 1, none⟩) hz2).trans cf⟩ (fun hHeld => ?_)
  clear hK K
  refine norm_ (a' := ?_) ?_ ?_
  rotate_left
  · show Act.put _ (some 57) _ = _
    simp only [Act.put, List.setIfInBounds_toArray, List.set_cons_zero, List.set_cons_succ, i64_w, i32_w]
    rfl
  refine one_ (i := 11) (N := some 58) #[true, true, true, true, true, true, true, true, true, true, true, true, false] rfl rfl (one_of HT_.out (by kernel_rfl)) (by decide) (fun K hK => ?_)
  refine Kd.R_append_step (Kd.int .u32) (w0 := w0) w0.heap.size (by rfl) (.tmp 47) (.tmp 57) 23 53 (.int .u32 0) 4 rfl Tryd.underlying23 info53a rfl (by decide) (by omega) u l (Go.bits .or .u32 x0 ji) [.int .u32 (Go.bits .or .u32 x0 ji)] (fun k => P0 k ∨ w.heap.size ≤ k) (fun _ => False) rfl rfl ?aP (fun _ hk => hk.elim) ?aF ?aO ?aB ?aS ?aL ?_
  (case aP => exact rfl)
  (case aB => exact HB2.out)
  (case aF => exact (fun k_ hk => .inr (Nat.le_trans HK2.out.1 hk)))
  (case aO => exact Kd.R_mono HO2.out (fun k_ hk => .inl hk))
  (case aS => exact below_size HB2.out)
  (case aL => omega)
  intro v2 w3 ho hb hg hat
  have HK3 := Aside0.mk (Kept.of_grown (S := P0) hg HK2.out (fun k_ e_ => .inl (HO2.out.1 k_ e_)))
  clear HK2 HB2 HO2
  refine hK.out _ _ ⟨hg.cell c4 (fun e => by have := hown _ e.symm; simp at this), hg.cell cf (fun e => by have := hown _ e.symm; simp at this; omega)⟩ (fun hHeld => ?_)
  clear hK K
  refine norm_ (a' := ?_) ?_ ?_
  rotate_left
  · show Act.put _ (some 58) _ = _
    simp only [Act.put, List.setIfInBounds_toArray, List.set_cons_zero, List.set_cons_succ, i64_w, i32_w]
    rfl
  refine pure_ (i := 12) (N := some 4) (v := ?_) (a' := ?_) #[true, true, true, true, true, true, true, true, true, true, true, true, true] rfl rfl (any_of HT_.out (by kernel_rfl)) (fun _ _ _ h => h) (Or.inl ⟨by rfl, ?_⟩) ?_ ?_
  rotate_left
  · intro w'
    go_simp
    with_reducible rfl
  rotate_left
  · simp only [Act.put, List.setIfInBounds_toArray, List.set_cons_zero, List.set_cons_succ, i64_w, i32_w]
    rfl
  refine done_ (done_of HT_.out (by kernel_rfl)) ?_
  try go_wp2
  go_ret
  exact ⟨v2, rfl, ho, hb, HK3.out⟩
theorem reads3 (w : World) (k : IntKind) (x y z : Int) (e : TypeId) : ReadsRow (fun (p : Int) (c : List Value) => c = [.int k p]) 1 (w.alloc (.cells #[.int k x, .int k y, .int k z] e)) (some ⟨w.heap.size, 0, none⟩) 3 [x, y, z] := by
  refine ⟨rfl, by omega, fun _ => ⟨_, rfl, fun j p hj => ⟨[.int k p], rfl, rfl, fun i u hi => ?_⟩⟩⟩
  have hi0 : i = 0 := by
    rcases i with _ | i
    · rfl
    · simp at hi
  subst hi0
  obtain rfl : Value.int k p = u := by simpa using hi
  rcases j with _ | _ | _ | j
  · obtain rfl : x = p := by simpa using hj
    simp [Addr.add]
  · obtain rfl : y = p := by simpa using hj
    simp [Addr.add]
  · obtain rfl : z = p := by simpa using hj
    simp [Addr.add]
  · simp at hj
set_option maxRecDepth 100000 in
set_option maxHeartbeats 2000000 in
theorem app_three (P0 : Nat → Prop) (u : Value) (l : List Int) (a0 a1 a2 a3 a4 : Int) (nm : ByteArray) (wd : Int) (b1 b2 b3 b4 b5 : Bool) (w0 w : World) (hB : Below w0.heap.size w0 w)
    (HO : Aside0 (Kd.R (Kd.int .u32) 53 w w0.heap.size P0 u l)) (h : l.length < 35184372088830)
    (HI : Hid (∀ W, Below w0.heap.size w0 W → Calls Tryd.prog 59 #[.int .i64 a0] W fun e w' => e = .returned (.tuple #[.agg #[.string nm, .int .i64 6, .bool b1, .bool b2, .bool b3, .bool b4, .int .i64 wd], .bool b5]) ∧ Below W.heap.size W w')) :
    Calls Tryd.prog 70 #[u, .agg #[.int .i64 a0, .int .i64 a1, .int .i64 a2, .int .i64 a3, .int .i64 a4]] w fun e w' => ∃ v, e = .returned v ∧ Kd.R (Kd.int .u32) 53 w' w0.heap.size (fun k => P0 k ∨ w.heap.size ≤ k) v (l ++ [wordOf a0 a1 a2 a3, a4 % 4294967296, IntKind.u64.wrap a4 / 4294967296 % 4294967296]) ∧ Below w0.heap.size w0 w' ∧ Kept w w' P0 := by
  have hwo : bits BinOp.or IntKind.u32 (bits BinOp.or IntKind.u32 (bits BinOp.or IntKind.u32 (a0 % 4294967296) (a1 % 4294967296 * 64 % 4294967296)) (a2 % 4294967296 * 512 % 4294967296)) (a3 % 4294967296 * 4096 % 4294967296) = wordOf a0 a1 a2 a3 := rfl
  generalize wordOf a0 a1 a2 a3 = x0 at *
  have hown : ∀ k, u.ownBlock = some k → k < w.heap.size := Kd.R_lt HO.out
  go_enter Tryd.func70, Tryd.ntmps70
  go_wp2_with fail
  refine (HI.out _ (hB.alloc (hB.size) _)).mono ?_
  rintro e w1 ⟨rfl, hb⟩
  have hz : w.heap.size < w1.heap.size := by have := hb.size; simp at this; omega
  have g0 : w1.cell? ⟨w.heap.size, 0, none⟩ = some (.int .i64 a0) := (hb.cell (p := ⟨w.heap.size, 0, none⟩) (by simp)).trans (by simp)
  have g1 : w1.cell? ⟨w.heap.size, 1, none⟩ = some (.int .i64 a1) := (hb.cell (p := ⟨w.heap.size, 1, none⟩) (by simp)).trans (by simp)
  have g2 : w1.cell? ⟨w.heap.size, 2, none⟩ = some (.int .i64 a2) := (hb.cell (p := ⟨w.heap.size, 2, none⟩) (by simp)).trans (by simp)
  have g3 : w1.cell? ⟨w.heap.size, 3, none⟩ = some (.int .i64 a3) := (hb.cell (p := ⟨w.heap.size, 3, none⟩) (by simp)).trans (by simp)
  have g4 : w1.cell? ⟨w.heap.size, 4, none⟩ = some (.int .i64 a4) := (hb.cell (p := ⟨w.heap.size, 4, none⟩) (by simp)).trans (by simp)
  have HO1 := Aside0.mk (Kd.R_below (Kd.R_alloc HO.out _) hb)
  have HB1 := Aside0.mk (below_step (hB.alloc hB.size _) hb)
  have HK1 := Aside0.mk (Kept.below (S := P0) (Kept.alloc (Kept.refl w P0) _) hb)
  have hw1 : w.heap.size ≤ w1.heap.size := Nat.le_of_lt hz
  clear hb HO
  have e1 : (w1.alloc (.cells #[.string nm, .int .i64 6, .bool b1, .bool b2, .bool b3, .bool b4, .int .i64 wd] 87)).heap.size = w1.heap.size + 1 := by simp
  have HR := Aside0.mk (reads3 (w1.alloc (.cells #[.string nm, .int .i64 6, .bool b1, .bool b2, .bool b3, .bool b4, .int .i64 wd] 87)) .u32 x0 (a4 % 4294967296) (IntKind.u64.wrap a4 / 4294967296 % 4294967296) 53)
  rw [e1] at HR
  go_wp2_with (at_builtin; refine Kd.R_append_rows (Kd.int .u32) (w0 := w0) w0.heap.size rfl (.tmp 35) (.tmp 45) 23 53 (.int .u32 0) 4 rfl Tryd.underlying23 info53a rfl (by decide) (by omega) u l [x0, a4 % 4294967296, IntKind.u64.wrap a4 / 4294967296 % 4294967296] (some ⟨w1.heap.size + 1, 0, none⟩) 3 3 (fun k => P0 k ∨ w.heap.size ≤ k) (fun _ => False) rfl rfl ?aO HR.out (fun _ _ h => h) (fun _ h => h.elim) ?aF ?aB ?aS ?aL ?_; (case aO => exact Kd.R_mono (Kd.R_alloc (Kd.R_alloc HO1.out _) _) (fun k_ hk => .inl hk)); (case aF => exact (fun k_ hk => .inr (Nat.le_trans (by simp; omega) hk))); (case aB => exact below_alloc (below_alloc HB1.out _) _); (case aS => exact below_size (below_alloc (below_alloc HB1.out _) _)); (case aL => omega); intro v2 w3 ho hb hg hat; have HK3 := Aside0.mk (Kept.of_grown (S := P0) hg (Kept.alloc (Kept.alloc HK1.out _) _) (fun k_ e_ => .inl (HO1.out.1 k_ e_))))
  go_ret
  exact ⟨_, rfl, ho, hb, HK3.out⟩
end Go.Proofs.YtcjidibdidijaaaDoor
namespace Go.Proofs.YtcjidibdidijaaaDoor
set_option linter.unusedVariables false
set_option linter.unusedSimpArgs false
open Go.RowKit Go.Proofs.YtcjidibdidijaaaDoorW.PrintWords Go.Proofs.YtcjidibdidijaaaDoorW.PrintMore Go.Proofs.YtcjidibdidijaaaDoorW.PrintLast
theorem form_rows : ∀ k, k < 37 → (tabRow k).2.1 = 1 ∨ (tabRow k).2.1 = 2 ∨ (tabRow k).2.1 = 3 ∨ (tabRow k).2.1 = 4 ∨ (tabRow k).2.1 = 5 ∨ (tabRow k).2.1 = 6 ∨ (tabRow k).2.1 = 7 ∨ (tabRow k).2.1 = 8 := by decide +kernel
theorem formOf_nat (k : Nat) (h1 : 1 ≤ k) (h2 : k ≤ 37) : formOf (k : Int) = (tabRow (k - 1)).2.1 := by
  unfold formOf
  rw [if_pos ⟨by omega, by omega⟩]
  simp
theorem formOf_out (op : Int) (h : op < 1 ∨ op > 37) : formOf op = 0 := by
  unfold formOf
  rw [if_neg (by omega)]
theorem infoF_form (op : Int) : ∃ nm b1 b2 b3 b4 wd b5, infoF op = some (nm, formOf op, b1, b2, b3, b4, wd, b5) := by
  by_cases h : op < 1 ∨ op > 37
  · rw [formOf_out op h]
    unfold infoF
    by_cases d : op < 1
    · rw [if_pos d]; exact ⟨_, _, _, _, _, _, _, rfl⟩
    · rw [if_neg d, if_pos (by omega)]; exact ⟨_, _, _, _, _, _, _, rfl⟩
  · unfold infoF formOf
    rw [if_neg (by omega), if_neg (by omega), if_pos (by omega)]
    exact ⟨_, _, _, _, _, _, _, rfl⟩
set_option maxRecDepth 100000 in
set_option maxHeartbeats 1000000 in
theorem valid_out (op a b c n : Int) (w : World) (h : op < 1 ∨ op > 37) (HT : Aside0 (TabOK w)) :
    Calls Tryd.prog 69 #[.agg #[.int .i64 op, .int .i64 a, .int .i64 b, .int .i64 c, .int .i64 n]] w fun e w' => e = .returned (.bool (valB op a b c n)) ∧ Below w.heap.size w w' := by
  have hv : valB op a b c n = false := decide_eq_false (fun hv => by have := hv.1; have := hv.2.1; omega)
  rw [hv]
  have HI := Lib.hid (fun W => info_out op W h)
  go_enter Tryd.func69, Tryd.ntmps69
  go_wp2_with fail
  refine (HI.out _).mono ?_
  rintro e w1 ⟨rfl, hb⟩
  have HB := Aside0.mk (below_step ((Below.refl w.heap.size w).alloc (Nat.le_refl _) _) hb)
  have hz : w.heap.size < w1.heap.size := by have := hb.size; simp at this; omega
  clear hb
  go_wp2_with fail
  go_ret
  exact ⟨rfl, by repeat (first | exact HB.out | refine Below.setCell ?_ (by first | omega | (simp <;> omega)) _ | refine Below.alloc ?_ (by first | omega | (simp <;> omega)) _)⟩
theorem valid_calls (op a b c n : Int) (r : Bool) (w : World) (h : some (valB op a b c n) = some r) (HT : Aside0 (TabOK w)) :
    Calls Tryd.prog 69 #[.agg #[.int .i64 op, .int .i64 a, .int .i64 b, .int .i64 c, .int .i64 n]] w fun e w' => e = .returned (.bool r) ∧ Below w.heap.size w w' := by
  obtain rfl := Option.some.inj h
  by_cases hr : op < 1 ∨ op > 37
  · exact valid_out op a b c n w hr HT
  · obtain ⟨k, rfl⟩ : ∃ k : Nat, op = k := ⟨op.toNat, by omega⟩
    have k1 : 1 ≤ k := by omega
    have k2 : k ≤ 37 := by omega
    have hf := formOf_nat k k1 k2
    have HI := fun W (hW : TabOK W) => info_at k k1 k2 W (Aside0.mk hW)
    have hc := form_rows (k - 1) (by omega)
    by_cases h6 : k = 6
    · subst h6
      rw [show (tabRow (6 - 1)).2.1 = 5 from rfl] at hf HI
      exact val_5c _ a b c n w (by omega) (by omega) rfl hf HT _ _ _ _ _ _ (Lib.hid HI)
    · have e6 : ((k : Int) == 6) = false := beq_eq_false_iff_ne.2 (by omega)
      rcases hc with hc | hc | hc | hc | hc | hc | hc | hc <;> rw [hc] at hf HI
      · exact val_1 _ a b c n w (by omega) (by omega) e6 hf HT _ _ _ _ _ _ (Lib.hid HI)
      · exact val_2 _ a b c n w (by omega) (by omega) e6 hf HT _ _ _ _ _ _ (Lib.hid HI)
      · exact val_3 _ a b c n w (by omega) (by omega) e6 hf HT _ _ _ _ _ _ (Lib.hid HI)
      · exact val_4 _ a b c n w (by omega) (by omega) e6 hf HT _ _ _ _ _ _ (Lib.hid HI)
      · exact val_5 _ a b c n w (by omega) (by omega) e6 hf HT _ _ _ _ _ _ (Lib.hid HI)
      · exact val_6 _ a b c n w (by omega) (by omega) e6 hf HT _ _ _ _ _ _ (Lib.hid HI)
      · exact val_7 _ a b c n w (by omega) (by omega) e6 hf HT _ _ _ _ _ _ (Lib.hid HI)
      · exact val_8 _ a b c n w (by omega) (by omega) e6 hf HT _ _ _ _ _ _ (Lib.hid HI)
def appW (a0 a1 a2 a3 a4 : Int) : List Int :=
  if formOf a0 = 6 then [wordOf a0 a1 a2 a3, a4 % 4294967296, IntKind.u64.wrap a4 / 4294967296 % 4294967296]
  else [bits .or .u32 (wordOf a0 a1 a2 a3) (shl .u32 (a4 % 4294967296) (shf (formOf a0)))]
def appF (l : List Int) (a0 a1 a2 a3 a4 : Int) : Option (List Int) := if l.length < 35184372088830 then some (l ++ appW a0 a1 a2 a3 a4) else none
theorem app_calls (P0 : Nat → Prop) (u : Value) (l : List Int) (a0 a1 a2 a3 a4 : Int) (r : List Int) (w0 w : World) (hB : Below w0.heap.size w0 w)
    (ho0 : Kd.R (Kd.int .u32) 53 w w0.heap.size P0 u l) (h : appF l a0 a1 a2 a3 a4 = some r) (HT : Aside0 (TabOK w0)) :
    Calls Tryd.prog 70 #[u, .agg #[.int .i64 a0, .int .i64 a1, .int .i64 a2, .int .i64 a3, .int .i64 a4]] w fun e w' => ∃ v0_ : Value, e = .returned (v0_) ∧ Kd.R (Kd.int .u32) 53 w' w0.heap.size (fun k_ => (P0 k_ ∨ w.heap.size ≤ k_)) v0_ r ∧ Below w0.heap.size w0 w' ∧ Kept w w' (fun k_ => P0 k_) := by
  unfold appF at h
  by_cases hl : l.length < 35184372088830
  · rw [if_pos hl] at h
    obtain rfl := Option.some.inj h
    obtain ⟨nm, b1, b2, b3, b4, wd, b5, hi⟩ := infoF_form a0
    have HI := fun W (hW : Below w0.heap.size w0 W) => info_calls a0 _ _ _ _ _ _ _ _ W hi (Aside0.mk (HT.out.below hW))
    unfold appW
    by_cases h6 : formOf a0 = 6
    · rw [if_pos h6]
      rw [h6] at HI
      exact app_three P0 u l a0 a1 a2 a3 a4 nm wd b1 b2 b3 b4 b5 w0 w hB ⟨ho0⟩ hl (Lib.hid HI)
    · rw [if_neg h6]
      exact app_one P0 u l a0 a1 a2 a3 a4 nm _ wd b1 b2 b3 b4 b5 w0 w hB ⟨ho0⟩ (beq_eq_false_iff_ne.2 h6) (by omega) (Lib.hid HI)
  · rw [if_neg hl] at h
    cases h
end Go.Proofs.YtcjidibdidijaaaDoor
namespace Go.Proofs.YtcjidibdidijaaaDoor
set_option linter.unusedVariables false
set_option linter.unusedSimpArgs false
open Go.RowKit Go.Proofs.YtcjidibdidijaaaDoorW.PrintWords Go.Proofs.YtcjidibdidijaaaDoorW.PrintMore Go.Proofs.YtcjidibdidijaaaDoorW.PrintLast
set_option maxRecDepth 100000 in
set_option maxHeartbeats 4000000 in
theorem form_out (op : Int) (h : op < 1 ∨ op > 37) (w : World) : Calls Tryd.prog 67 #[.int .i64 op] w fun e w' => e = .returned (.int .i64 0) ∧ w = w' := by
  have q1 : (op == 1) = false := beq_eq_false_iff_ne.2 (by omega)
  have q2 : (op == 2) = false := beq_eq_false_iff_ne.2 (by omega)
  have q3 : (op == 3) = false := beq_eq_false_iff_ne.2 (by omega)
  have q4 : (op == 4) = false := beq_eq_false_iff_ne.2 (by omega)
  have q5 : (op == 5) = false := beq_eq_false_iff_ne.2 (by omega)
  have q6 : (op == 6) = false := beq_eq_false_iff_ne.2 (by omega)
  have q7 : (op == 7) = false := beq_eq_false_iff_ne.2 (by omega)
  have q8 : (op == 8) = false := beq_eq_false_iff_ne.2 (by omega)
  have q9 : (op == 9) = false := beq_eq_false_iff_ne.2 (by omega)
  have q10 : (op == 10) = false := beq_eq_false_iff_ne.2 (by omega)
  have q11 : (op == 11) = false := beq_eq_false_iff_ne.2 (by omega)
  have q12 : (op == 12) = false := beq_eq_false_iff_ne.2 (by omega)
  have q13 : (op == 13) = false := beq_eq_false_iff_ne.2 (by omega)
  have q14 : (op == 14) = false := beq_eq_false_iff_ne.2 (by omega)
  have q15 : (op == 15) = false := beq_eq_false_iff_ne.2 (by omega)
  have q16 : (op == 16) = false := beq_eq_false_iff_ne.2 (by omega)
  have q17 : (op == 17) = false := beq_eq_false_iff_ne.2 (by omega)
  have q18 : (op == 18) = false := beq_eq_false_iff_ne.2 (by omega)
  have q19 : (op == 19) = false := beq_eq_false_iff_ne.2 (by omega)
  have q20 : (op == 20) = false := beq_eq_false_iff_ne.2 (by omega)
  have q21 : (op == 21) = false := beq_eq_false_iff_ne.2 (by omega)
  have q22 : (op == 22) = false := beq_eq_false_iff_ne.2 (by omega)
  have q23 : (op == 23) = false := beq_eq_false_iff_ne.2 (by omega)
  have q24 : (op == 24) = false := beq_eq_false_iff_ne.2 (by omega)
  have q25 : (op == 25) = false := beq_eq_false_iff_ne.2 (by omega)
  have q26 : (op == 26) = false := beq_eq_false_iff_ne.2 (by omega)
  have q27 : (op == 27) = false := beq_eq_false_iff_ne.2 (by omega)
  have q28 : (op == 28) = false := beq_eq_false_iff_ne.2 (by omega)
  have q29 : (op == 29) = false := beq_eq_false_iff_ne.2 (by omega)
  have q30 : (op == 30) = false := beq_eq_false_iff_ne.2 (by omega)
  have q31 : (op == 31) = false := beq_eq_false_iff_ne.2 (by omega)
  have q32 : (op == 32) = false := beq_eq_false_iff_ne.2 (by omega)
  have q33 : (op == 33) = false := beq_eq_false_iff_ne.2 (by omega)
  have q34 : (op == 34) = false := beq_eq_false_iff_ne.2 (by omega)
  have q35 : (op == 35) = false := beq_eq_false_iff_ne.2 (by omega)
  have q36 : (op == 36) = false := beq_eq_false_iff_ne.2 (by omega)
  have q37 : (op == 37) = false := beq_eq_false_iff_ne.2 (by omega)
  by_cases c : op < 1
  · have d1 : decide (17 ≤ op) = false := decide_eq_false (by omega)
    have d2 : decide (op ≤ 32) = true := decide_eq_true (by omega)
    go_enter Tryd.func67, Tryd.ntmps67
    go_wp2
    go_ret
    exact ⟨rfl, rfl⟩
  · have d1 : decide (17 ≤ op) = true := decide_eq_true (by omega)
    have d2 : decide (op ≤ 32) = false := decide_eq_false (by omega)
    go_enter Tryd.func67, Tryd.ntmps67
    go_wp2
    go_ret
    exact ⟨rfl, rfl⟩
set_option maxRecDepth 100000 in
set_option maxHeartbeats 8000000 in
theorem form_in (op : Int) (h : op = 1 ∨ op = 2 ∨ op = 3 ∨ op = 4 ∨ op = 5 ∨ op = 6 ∨ op = 7 ∨ op = 8 ∨ op = 9 ∨ op = 10 ∨ op = 11 ∨ op = 12 ∨ op = 13 ∨ op = 14 ∨ op = 15 ∨ op = 16 ∨ op = 17 ∨ op = 18 ∨ op = 19 ∨ op = 20 ∨ op = 21 ∨ op = 22 ∨ op = 23 ∨ op = 24 ∨ op = 25 ∨ op = 26 ∨ op = 27 ∨ op = 28 ∨ op = 29 ∨ op = 30 ∨ op = 31 ∨ op = 32 ∨ op = 33 ∨ op = 34 ∨ op = 35 ∨ op = 36 ∨ op = 37) (w : World) : Calls Tryd.prog 67 #[.int .i64 op] w fun e w' => e = .returned (.int .i64 (formOf op)) ∧ w = w' := by
  rcases h with rfl | rfl | rfl | rfl | rfl | rfl | rfl | rfl | rfl | rfl | rfl | rfl | rfl | rfl | rfl | rfl | rfl | rfl | rfl | rfl | rfl | rfl | rfl | rfl | rfl | rfl | rfl | rfl | rfl | rfl | rfl | rfl | rfl | rfl | rfl | rfl | rfl
  all_goals
    go_enter Tryd.func67, Tryd.ntmps67
    go_wp2
    go_ret
    exact ⟨rfl, rfl⟩
theorem form_any (op : Int) (w : World) : Calls Tryd.prog 67 #[.int .i64 op] w fun e w' => e = .returned (.int .i64 (formOf op)) ∧ w = w' := by
  by_cases h : op < 1 ∨ op > 37
  · rw [formOf_out op h]; exact form_out op h w
  · exact form_in op (by omega) w
theorem form_calls (a0 r : Int) (w : World) (h : some (formOf a0) = some r) : Calls Tryd.prog 67 #[.int .i64 a0] w fun e w' => e = .returned (.int .i64 r) ∧ Drawn0 w w' := by
  obtain rfl := Option.some.inj h
  exact (form_any a0 w).mono (fun e w' ⟨a, b⟩ => ⟨a, 0, b ▸ rfl⟩)
def loR (op : Int) : Int := if hasN (formOf op) then loN op else 0
def hiR (op : Int) : Int := if hasN (formOf op) then hiN op else 0
set_option maxRecDepth 100000 in
set_option maxHeartbeats 8000000 in
theorem bounds_in (op : Int) (h : op = 1 ∨ op = 2 ∨ op = 3 ∨ op = 4 ∨ op = 5 ∨ op = 6 ∨ op = 7 ∨ op = 8 ∨ op = 9 ∨ op = 10 ∨ op = 11 ∨ op = 12 ∨ op = 13 ∨ op = 14 ∨ op = 15 ∨ op = 16 ∨ op = 17 ∨ op = 18 ∨ op = 19 ∨ op = 20 ∨ op = 21 ∨ op = 22 ∨ op = 23 ∨ op = 24 ∨ op = 25 ∨ op = 26 ∨ op = 27 ∨ op = 28 ∨ op = 29 ∨ op = 30 ∨ op = 31 ∨ op = 32 ∨ op = 33 ∨ op = 34 ∨ op = 35 ∨ op = 36 ∨ op = 37) (w : World) : Calls Tryd.prog 72 #[.int .i64 op] w fun e w' => e = .returned (.tuple #[.int .i64 (loR op), .int .i64 (hiR op)]) ∧ w = w' := by
  rcases h with rfl | rfl | rfl | rfl | rfl | rfl | rfl | rfl | rfl | rfl | rfl | rfl | rfl | rfl | rfl | rfl | rfl | rfl | rfl | rfl | rfl | rfl | rfl | rfl | rfl | rfl | rfl | rfl | rfl | rfl | rfl | rfl | rfl | rfl | rfl | rfl | rfl
  all_goals
    go_enter Tryd.func72, Tryd.ntmps72
    go_wp2
    go_ret2
    exact ⟨rfl, rfl⟩
set_option maxRecDepth 100000 in
set_option maxHeartbeats 4000000 in
theorem bounds_out (op : Int) (h : op < 1 ∨ op > 37) (w : World) : Calls Tryd.prog 72 #[.int .i64 op] w fun e w' => e = .returned (.tuple #[.int .i64 0, .int .i64 0]) ∧ w = w' := by
  have q1 : (op == 1) = false := beq_eq_false_iff_ne.2 (by omega)
  have q2 : (op == 2) = false := beq_eq_false_iff_ne.2 (by omega)
  have q3 : (op == 3) = false := beq_eq_false_iff_ne.2 (by omega)
  have q4 : (op == 4) = false := beq_eq_false_iff_ne.2 (by omega)
  have q5 : (op == 5) = false := beq_eq_false_iff_ne.2 (by omega)
  have q6 : (op == 6) = false := beq_eq_false_iff_ne.2 (by omega)
  have q7 : (op == 7) = false := beq_eq_false_iff_ne.2 (by omega)
  have q8 : (op == 8) = false := beq_eq_false_iff_ne.2 (by omega)
  have q9 : (op == 9) = false := beq_eq_false_iff_ne.2 (by omega)
  have q10 : (op == 10) = false := beq_eq_false_iff_ne.2 (by omega)
  have q11 : (op == 11) = false := beq_eq_false_iff_ne.2 (by omega)
  have q12 : (op == 12) = false := beq_eq_false_iff_ne.2 (by omega)
  have q13 : (op == 13) = false := beq_eq_false_iff_ne.2 (by omega)
  have q14 : (op == 14) = false := beq_eq_false_iff_ne.2 (by omega)
  have q15 : (op == 15) = false := beq_eq_false_iff_ne.2 (by omega)
  have q16 : (op == 16) = false := beq_eq_false_iff_ne.2 (by omega)
  have q17 : (op == 17) = false := beq_eq_false_iff_ne.2 (by omega)
  have q18 : (op == 18) = false := beq_eq_false_iff_ne.2 (by omega)
  have q19 : (op == 19) = false := beq_eq_false_iff_ne.2 (by omega)
  have q20 : (op == 20) = false := beq_eq_false_iff_ne.2 (by omega)
  have q21 : (op == 21) = false := beq_eq_false_iff_ne.2 (by omega)
  have q22 : (op == 22) = false := beq_eq_false_iff_ne.2 (by omega)
  have q23 : (op == 23) = false := beq_eq_false_iff_ne.2 (by omega)
  have q24 : (op == 24) = false := beq_eq_false_iff_ne.2 (by omega)
  have q25 : (op == 25) = false := beq_eq_false_iff_ne.2 (by omega)
  have q26 : (op == 26) = false := beq_eq_false_iff_ne.2 (by omega)
  have q27 : (op == 27) = false := beq_eq_false_iff_ne.2 (by omega)
  have q28 : (op == 28) = false := beq_eq_false_iff_ne.2 (by omega)
  have q29 : (op == 29) = false := beq_eq_false_iff_ne.2 (by omega)
  have q30 : (op == 30) = false := beq_eq_false_iff_ne.2 (by omega)
  have q31 : (op == 31) = false := beq_eq_false_iff_ne.2 (by omega)
  have q32 : (op == 32) = false := beq_eq_false_iff_ne.2 (by omega)
  have q33 : (op == 33) = false := beq_eq_false_iff_ne.2 (by omega)
  have q34 : (op == 34) = false := beq_eq_false_iff_ne.2 (by omega)
  have q35 : (op == 35) = false := beq_eq_false_iff_ne.2 (by omega)
  have q36 : (op == 36) = false := beq_eq_false_iff_ne.2 (by omega)
  have q37 : (op == 37) = false := beq_eq_false_iff_ne.2 (by omega)
  go_enter Tryd.func72, Tryd.ntmps72
  go_wp2
  go_ret2
  exact ⟨rfl, rfl⟩
theorem reg_calls (n : Int) (w : World) : Calls Tryd.prog 73 #[.int .i64 n] w fun e w' => e = .returned (.bool (decide (0 ≤ n ∧ n < 8))) ∧ w = w' := by
  by_cases a : 0 ≤ n
  · by_cases b : n < 8
    · rw [decide_eq_true (p := 0 ≤ n ∧ n < 8) ⟨a, b⟩]
      have b1 : decide (0 ≤ n) = true := decide_eq_true a
      have b2 : decide (n < 8) = true := decide_eq_true b
      go_enter Tryd.func73, Tryd.ntmps73
      go_wp2
      go_ret
      exact ⟨rfl, rfl⟩
    · rw [decide_eq_false (p := 0 ≤ n ∧ n < 8) (by omega)]
      have b1 : decide (0 ≤ n) = true := decide_eq_true a
      have b2 : decide (n < 8) = false := decide_eq_false b
      go_enter Tryd.func73, Tryd.ntmps73
      go_wp2
      go_ret
      exact ⟨rfl, rfl⟩
  · rw [decide_eq_false (p := 0 ≤ n ∧ n < 8) (by omega)]
    have b1 : decide (0 ≤ n) = false := decide_eq_false a
    go_enter Tryd.func73, Tryd.ntmps73
    go_wp2
    go_ret
    exact ⟨rfl, rfl⟩
end Go.Proofs.YtcjidibdidijaaaDoor
