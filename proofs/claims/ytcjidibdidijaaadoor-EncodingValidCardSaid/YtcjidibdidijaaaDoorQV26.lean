/- Parts of this proof in one text: BinW. -/
import Derived.Test.YtcjidibdidijaaaDoorQV3
import Derived.Test.YtcjidibdidijaaaDoorQV19
import Derived.Test.YtcjidibdidijaaaDoorQV25
import Derived.StillTailTactics
import Derived.Deep.LoopGhost
import Derived.Deep.DeepCutAuto
import Derived.Deep.CutBlock
namespace Go.Proofs.YtcjidibdidijaaaDoor
open Go.RowKit Go.Proofs.YtcjidibdidijaaaDoor.PCod Go.Proofs.YtcjidibdidijaaaDoorW.PrintWords Go.Proofs.YtcjidibdidijaaaDoorW.PrintMore Go.Proofs.YtcjidibdidijaaaDoor.DecL
set_option linter.unusedVariables false
set_option linter.unusedSimpArgs false
def BinAt (w : World) (v : Value) (W E P S A : List Int) : Prop :=
  ∃ A0 n0 c0 A1 n1 c1 A2 n2 c2 A3 n3 c3 A4 n4 c4, v = .agg #[.slice A0 n0 c0, .slice A1 n1 c1, .slice A2 n2 c2, .slice A3 n3 c3, .slice A4 n4 c4] ∧ SL w A0 n0 c0 W ∧ SI w A1 n1 c1 E ∧ SI w A2 n2 c2 P ∧ SI w A3 n3 c3 S ∧ SI w A4 n4 c4 A
theorem BinAt.below {w w' : World} {v : Value} {W E P S A : List Int} (h : BinAt w v W E P S A) (hb : Below w.heap.size w w') : BinAt w' v W E P S A := by
  obtain ⟨A0, n0, c0, A1, n1, c1, A2, n2, c2, A3, n3, c3, A4, n4, c4, rfl, h0, h1, h2, h3, h4⟩ := h
  exact ⟨A0, n0, c0, A1, n1, c1, A2, n2, c2, A3, n3, c3, A4, n4, c4, rfl, h0.below hb, h1.below hb, h2.below hb, h3.below hb, h4.below hb⟩
theorem instrs_R {A : Option Addr} {n c : Nat} {l : List Int} {w : World} (h : SI w A n c l) : Calls Tryd.prog 36 #[.slice A n c, .int .i64 24] w fun e w' => ∃ v, e = .returned v ∧ Kd.R k42 42 w' w.heap.size (fun _ => True) v (mkL l 24) ∧ Below w.heap.size w w' := by
  obtain ⟨hC, hc, rfl, hl⟩ := h
  obtain ⟨k, hk⟩ := (instrs_ev l 24 (by omega)).rounds
  exact fullingkeep2_Instrs.calls k A c l 24 _ w hC hc hk
theorem pick_still (n m : Int) (h0 : 0 < m) (w : World) : Calls Tryd.prog 19 #[.int .i64 n, .int .i64 m] w fun e w' => e = .returned (.int .i64 (pickN n m)) ∧ w' = w :=
  (pick_calls n m h0 w).mono fun e w' ⟨he, hw⟩ => ⟨he, hw.symm⟩
theorem put4_side (op A B C X d : Int) (f : S42) (h : f = ⟨op, A, B, C, X⟩) : ∀ q u, (flds ⟨op, A, B, C, d⟩)[q]? = some u → if q = 4 then u = .int .i64 d else (flds f)[q]? = some u := by
  subst h
  intro q u hu
  rcases q with _ | _ | _ | _ | _ | q <;> simp_all [flds]
theorem put1_side (op A B C X d : Int) (f : S42) (h : f = ⟨op, A, B, C, X⟩) : ∀ q u, (flds ⟨op, d, B, C, X⟩)[q]? = some u → if q = 1 then u = .int .i64 d else (flds f)[q]? = some u := by
  subst h
  intro q u hu
  rcases q with _ | _ | _ | _ | _ | q <;> simp_all [flds]
theorem enc_bin {W : World} {g c N : Nat} {L : List S42} (hL : L.all vI = true) (hn : L.length = N) (hN : N ≤ 25) (hC : Kd.C k42 W (some ⟨g, 0, none⟩) L.length L) (hc : N ≤ c) :
    Calls Tryd.prog 37 #[.slice (some ⟨g, 0, none⟩) N c] W fun e w' => ∃ A' n' c', e = .returned (.tuple #[.slice A' n' c', .int .i64 0]) ∧ SL w' A' n' c' (L.flatMap wI) ∧ (∀ ad, A' = some ad → 0 < n' → W.heap.size ≤ ad.block) ∧ Below W.heap.size W w' := by
  subst hn
  obtain ⟨k, hk⟩ := (renc_ev L (by omega)).rounds
  have he : encL L = (L.flatMap wI, 0) := if_pos hL
  rw [he] at hk
  refine (fullingref29_Encode.calls k _ c L _ _ W hC hc hk).mono fun e w' ⟨v, he, hR, hb⟩ => ?_
  obtain ⟨A', c', rfl, hc', hC'⟩ := Kd.R_reads hR
  refine ⟨A', _, c', he, ⟨hC', hc', rfl, flat_u32 L hL, by have := (flat_len L hL).2; omega⟩, fun ad e0 hp => ?_, hb⟩
  obtain ⟨g1, cp, e1, hb1, _⟩ := Kd.R_form hR hp
  injection e1 with e1 _ _
  rw [e1] at e0
  obtain rfl := Option.some.inj e0
  exact hb1
theorem add_block (ad : Addr) (j : Nat) : (ad.add j).block = ad.block := by unfold Addr.add; split <;> rfl
theorem C_off {k : IntKind} {S : Nat → Prop} {w w1 : World} {A : Option Addr} {n : Nat} {xs : List Int} (h : (Kd.int k).C w A n xs) (ho : Off S w w1) (hd : ∀ ad, A = some ad → 0 < n → ¬ S ad.block) : (Kd.int k).C w1 A n xs := by
  have h2 := Kd.reads_of_C (d := (0 : Int)) h
  obtain ⟨h3, h4, h5⟩ := h2
  refine Kd.C_of_reads (d := (0 : Int)) (h1 := fun _ => rfl) ⟨h3, h4, fun hp => ?_⟩
  obtain ⟨ad, e, hc⟩ := h5 hp
  refine ⟨ad, e, fun j hj => ?_⟩
  have hlt := World.block_lt_of_cell? _ _ (hc j hj)
  have hn := hd ad e hp
  rw [← add_block ad j] at hn
  exact (World.cell?_of_block (w := w) (ho.block _ hlt hn)).trans (hc j hj)
theorem SL_off {S : Nat → Prop} {w w1 : World} {A : Option Addr} {n c : Nat} {l : List Int} (h : SL w A n c l) (ho : Off S w w1) (hd : ∀ ad, A = some ad → 0 < n → ¬ S ad.block) : SL w1 A n c l := ⟨C_off h.C ho hd, h.le, h.len, h.u, h.sm⟩
theorem SI.off {S : Nat → Prop} {w w1 : World} {A : Option Addr} {n c : Nat} {l : List Int} (h : SI w A n c l) (ho : Off S w w1) (hd : ∀ ad, A = some ad → 0 < n → ¬ S ad.block) : SI w1 A n c l := ⟨C_off h.C ho hd, h.le, h.len, h.sm⟩
theorem SI.blk2 {w : World} {g : Nat} {a b : Int} (h : w.heap[g]? = some (.cells #[.int .i64 a, .int .i64 b] 3 (0, 0))) : SI w (some ⟨g, 0, none⟩) 2 2 [a, b] := ⟨C32_blk (k := .i64) (l := [a, b]) h (by simp), Nat.le_refl _, rfl, by omega⟩
theorem end18 {a : Act} {W : World} {g2 : Nat} {A0 A1 A2 A3 A4 : Option Addr} {n0 n1 n2 n3 n4 c0 c1 c2 c3 c4 : Nat} (hp : a.tmps.getD 2 undef = .pointer (some ⟨g2, 0, none⟩)) (hd : a.defers = [])
    (hb : W.heap[g2]? = some (.cells #[.slice A0 n0 c0, .slice A1 n1 c1, .slice A2 n2 c2, .slice A3 n3 c3, .slice A4 n4 c4] 25 (0, 0))) {Q : Ending → World → Prop}
    (h : Q (.returned (.agg #[.slice A0 n0 c0, .slice A1 n1 c1, .slice A2 n2 c2, .slice A3 n3 c3, .slice A4 n4 c4])) W) : bodyPost Tryd.prog Tryd.f18 Q .ret a W := by
  refine bodyPost_ret (v := .agg #[.slice A0 n0 c0, .slice A1 n1 c1, .slice A2 n2 c2, .slice A3 n3 c3, .slice A4 n4 c4]) ?_ hd h
  have hp2 : a.tmps[2]?.getD undef = .pointer (some ⟨g2, 0, none⟩) := by simpa using hp
  have x0 : W.cell? ⟨g2, 0, none⟩ = some (.slice A0 n0 c0) := (blk_cell hb 0).trans rfl
  have x1 : W.cell? ⟨g2, 1, none⟩ = some (.slice A1 n1 c1) := (blk_cell hb 1).trans rfl
  have x2 : W.cell? ⟨g2, 2, none⟩ = some (.slice A2 n2 c2) := (blk_cell hb 2).trans rfl
  have x3 : W.cell? ⟨g2, 3, none⟩ = some (.slice A3 n3 c3) := (blk_cell hb 3).trans rfl
  have x4 : W.cell? ⟨g2, 4, none⟩ = some (.slice A4 n4 c4) := (blk_cell hb 4).trans rfl
  simp [results, Tryd.results18, go_sem, hp, hp2, x0, x1, x2, x3, x4]
def BinPost (w : World) (l : List Int) (e : Ending) (w' : World) : Prop := ∃ v, e = .returned v ∧ BinAt w' v (binW l) (binE l) [2, 1] [5, 2] [3, 2] ∧ Below w.heap.size w w'
set_option maxRecDepth 100000 in
set_option maxHeartbeats 8000000 in
theorem bin_any {A : Option Addr} {n c : Nat} {l : List Int} {w : World} (h : SI w A n c l) (hwf : ∀ x ∈ l, (Lit.int .i64 x).wf = true) : Calls Tryd.prog 18 #[.slice A n c] w (BinPost w l) := by
  have H := Aside0.mk h
  have HF := Aside0.mk hwf
  have hLlen := binL_len l
  have HL := Lib.hid hLlen
  clear h hwf hLlen
  go_enter Tryd.func18, Tryd.ntmps18
  go_wp2_with fail
  have B2 := blk_new w (.cells #[.slice none 0 0, .slice none 0 0, .slice none 0 0, .slice none 0 0, .slice none 0 0] 25 (0, 0))
  have HBa : Below w.heap.size w (w.alloc (.cells #[.slice none 0 0, .slice none 0 0, .slice none 0 0, .slice none 0 0, .slice none 0 0] 25 (0, 0))) := below_alloc (Below.refl _ _) _
  have hg2 : w.heap.size < (w.alloc (.cells #[.slice none 0 0, .slice none 0 0, .slice none 0 0, .slice none 0 0, .slice none 0 0] 25 (0, 0))).heap.size := by simp
  generalize hW : w.alloc (.cells #[.slice none 0 0, .slice none 0 0, .slice none 0 0, .slice none 0 0, .slice none 0 0] 25 (0, 0)) = W at *
  have HG2 := Lib.hid hg2
  clear hW hg2
  have H1 := H.out.below HBa
  generalize hG : w.heap.size = g2 at B2 ⊢
  have HG := Lib.hid hG
  clear hG
  refine (instrs_R H1).mono ?_
  rintro e wa ⟨v0, rfl, hR, hba⟩
  have HO := Aside0.mk hR
  replace B2 := Aside0.mk (blk_below B2 hba)
  have HB := Aside0.mk (below_step HBa hba)
  have hLen : (mkL l 24).length ≤ 24 := by rw [mkL_len]; omega
  have HLen := Lib.hid hLen
  have hgw : W.heap.size ≤ wa.heap.size := hba.size
  have HGW := Lib.hid hgw
  clear H1 HBa hba hR hLen hgw
  go_wp2_with (first | ((with_reducible refine gate_builtin (b := .append) (xs := #[.tmp 15, .tmp 17]) rfl ?_); at_builtin; refine Kd.R_append k42 (w0 := wa) W.heap.size rfl (.tmp 15) (.tmp 17) 55 42 (.agg #[(.int .i64 0), (.int .i64 0), (.int .i64 0), (.int .i64 0), (.int .i64 0)]) 40 rfl Tryd.underlying55 info42 rfl (by decide) (by omega) v0 (mkL l 24) (⟨2, 0, 0, 0, 0⟩ : S42) [.int .i64 2, .int .i64 0, .int .i64 0, .int .i64 0, .int .i64 0] (fun _ => True) (fun _ => False) rfl rfl ?aP (fun _ hk => hk.elim) ?aF ?aO ?aB ?aS ?aL ?_; (case aP => exact k42_mkM _ _ _ (⟨2, 0, 0, 0, 0⟩ : S42)); (case aB => exact Below.refl _ _); (case aF => exact (fun _ _ => trivial)); (case aO => exact HO.out); (case aS => exact HGW.out); (case aL => have := HLen.out; omega); intro v1 w1 ho hb hg hat) | fail)
  obtain ⟨L, hLd⟩ : ∃ L, binL l = L := ⟨_, rfl⟩
  replace ho : Kd.R k42 42 w1 W.heap.size (fun _ => True) v1 L := by rw [← hLd]; exact ho
  have hLA : L.all vI = true := by rw [← hLd]; exact binL_all l HF.out
  have hL26 : L.length ≤ 25 := by rw [← hLd, HL.out]; omega
  have hL1 : 1 ≤ L.length := by rw [← hLd, HL.out]; omega
  have HLd := Lib.hid hLd
  have HLA := Lib.hid hLA
  clear hLd hLA
  replace B2 := Aside0.mk (blk_grown B2.out hg (Kd.R_ne HO.out B2.out (by decide)))
  replace HB := Aside0.mk (HB.out.trans (hb.mono (by have := HG2.out; omega)))
  obtain ⟨g, cap, rfl, hbg, hcap, hIn⟩ := InF.of_R ho hL1
  replace HIn := Aside0.mk hIn
  replace HBg := Aside0.mk (show g2 < g by have := HG2.out; have := HG.out; omega)
  replace HCap := Aside0.mk hcap
  clear ho hb hg hat HO hIn hbg hcap HLen HGW
  obtain ⟨wb, hwb⟩ : ∃ wb, wb = w1 := ⟨_, rfl⟩
  subst hwb
  obtain ⟨N, hN⟩ : ∃ N, L.length = N := ⟨_, rfl⟩
  rw [hN] at hL26 hL1 HIn HCap ⊢
  have HN := Lib.hid hN
  clear hN
  go_loopg [4, 5, 6] N (fun kq v4 v5 v6 wr => ∃ i : Nat, v6 = .int .i64 (i : Int) ∧ v5 = .int .i64 (((L.take i).flatMap wI).length : Nat) ∧ Aside0 (i + kq = N) ∧ Aside0 (Kd.R (Kd.int .i64) 3 wr wb.heap.size (fun _ => True) v4 ((starts 0 L).take i)) ∧ Aside0 (Below wb.heap.size wb wr))
  case atStart => exact ⟨0, rfl, rfl, ⟨by omega⟩, ⟨Kd.R_nil _ _ _ _ _⟩, ⟨Below.refl _ _⟩⟩
  case round =>
    obtain ⟨i, rfl, rfl, Hi, HO, HR⟩ := hrel
    by_cases hi : i < N
    · have ti : decide (i < N) = true := decide_eq_true hi
      cases gk with
      | zero => have := Hi.out; omega
      | succ k1 =>
        obtain ⟨c0, c1, c2, c3, c4⟩ := (HIn.out.off (Off.of_below HR.out (fun _ => False)) id).cells i hi
        have hv : vI (L.getD i z42) = true := by
          have hi2 : i < L.length := by rw [HN.out]; exact hi
          rw [List.getD_eq_getElem?_getD, List.getElem?_eq_getElem hi2]
          exact List.all_eq_true.1 HLA.out _ (List.getElem_mem hi2)
        have hst : (starts 0 L).take (i + 1) = (starts 0 L).take i ++ [(((L.take i).flatMap wI).length : Int)] := by
          have hi2 : i < L.length := by rw [HN.out]; exact hi
          have hi3 : i < (starts 0 L).length := by rw [starts_len]; exact hi2
          rw [List.take_succ_eq_append_getElem hi3]
          have := starts_get 0 L i hi2
          unfold rd at this
          rw [Int.toNat_natCast, List.getD_eq_getElem?_getD, List.getElem?_eq_getElem hi3, Nat.zero_add] at this
          rw [← this]
          rfl
        have htot : ((L.take (i + 1)).flatMap wI).length = ((L.take i).flatMap wI).length + (wI (L.getD i z42)).length := by
          have hi2 : i < L.length := by rw [HN.out]; exact hi
          rw [List.take_succ_eq_append_getElem hi2, List.flatMap_append, List.length_append]
          rw [List.getD_eq_getElem?_getD, List.getElem?_eq_getElem hi2]
          simp
        have hbd : ((L.take i).flatMap wI).length ≤ 75 := by
          have := flat_len (L.take i) (List.all_eq_true.2 fun x hx => List.all_eq_true.1 HLA.out x (List.mem_of_mem_take hx))
          have h2 : (L.take i).length ≤ i := List.length_take_le _ _
          omega
        have hw3 := wI_len3 hv
        obtain ⟨nm, b1, b2, b3, b4, hinfo⟩ : ∃ nm b1 b2 b3 b4, infoF (L.getD i z42).f0 = some (nm, formOf (L.getD i z42).f0, b1, b2, b3, b4, ((wI (L.getD i z42)).length : Int), true) := by
          obtain ⟨nm, b1, b2, b3, b4, h⟩ := infoF_words (L.getD i z42).f0
          refine ⟨nm, b1, b2, b3, b4, h.trans ?_⟩
          have h0 : formOf (L.getD i z42).f0 ≠ 0 := by
            have hV := vI_val hv
            have h1 := hV.1
            have h2 := hV.2.1
            have h3 := (words_rows ((L.getD i z42).f0.toNat - 1) (by omega)).2
            unfold formOf
            rw [if_pos ⟨h1, h2⟩]
            exact h3
          rw [if_neg h0, decide_eq_true h0, wI_len hv]
          unfold sizeI
          split <;> rfl
        have HT1 := Lib.hid hst
        have HT2 := Lib.hid htot
        have HI := Lib.hid hinfo
        clear hst htot hinfo hv c1 c2 c3 c4
        generalize (L.getD i z42).f0 = op at *
        generalize (wI (L.getD i z42)).length = sz at *
        generalize ((L.take i).flatMap wI).length = tot at *
        generalize formOf op = fo at *
        go_wp2_with fail
        refine (fullingref29_Info.calls op nm fo b1 b2 b3 b4 sz true _ HI.out).mono ?_
        rintro e wc ⟨rfl, hba⟩
        replace HO := Aside0.mk (Kd.R_below HO.out hba)
        replace HR := Aside0.mk (below_step HR.out hba)
        clear hba c0
        go_upto_region 9 with (fail)
        have B7 := blk_new wc (.cells #[.string nm, .int .i64 fo, .bool b1, .bool b2, .bool b3, .bool b4, .int .i64 sz] 87 (0, 0))
        replace HO := Aside0.mk (Kd.R_alloc HO.out (.cells #[.string nm, .int .i64 fo, .bool b1, .bool b2, .bool b3, .bool b4, .int .i64 sz] 87 (0, 0)))
        replace HR := Aside0.mk (below_alloc HR.out (.cells #[.string nm, .int .i64 fo, .bool b1, .bool b2, .bool b3, .bool b4, .int .i64 sz] 87 (0, 0)))
        generalize hwd : wc.alloc _ = wd at B7 HO HR ⊢
        clear hwd
        generalize wc.heap.size = g7 at B7 ⊢
        replace B7 := Aside0.mk B7
        go_wp2_with (first | ((with_reducible refine gate_builtin (b := .append) (xs := #[.tmp 34, .tmp 36]) rfl ?_); at_builtin; refine Kd.R_append (Kd.int .i64) (w0 := wb) wb.heap.size rfl (.tmp 34) (.tmp 36) 22 3 (.int .i64 0) 8 rfl Tryd.underlying22 info3 rfl (by decide) (by omega) u4 ((starts 0 L).take i) (tot : Int) [.int .i64 (tot : Int)] (fun _ => True) (fun _ => False) rfl rfl ?aP (fun _ hk => hk.elim) ?aF ?aO ?aB ?aS ?aL ?_; (case aP => rfl); (case aB => exact HR.out); (case aF => exact (fun _ _ => trivial)); (case aO => exact HO.out); (case aS => exact HR.out.size); (case aL => have := List.length_take_le i (starts 0 L); omega); intro v2 w2 ho hb hg hat; have B7' := Aside0.mk (blk_grown B7.out hg (Kd.R_ne HO.out B7.out (by decide))); have c7 := (blk_cell B7'.out 6).trans rfl; have HO2 := Aside0.mk ho; have HR2 := Aside0.mk hb; clear ho hb hg hat) | fail)
        go_roundg k1
        case measure => omega
        case rel => exact ⟨i + 1, by go_num, by rw [HT2.out]; first | rfl | go_num, ⟨by have := Hi.out; omega⟩, ⟨by rw [HT1.out]; exact HO2.out⟩, HR2⟩
    · have hie : N = i := by have := Hi.out; omega
      subst hie
      have ti : decide (N < N) = false := decide_eq_false hi
      clear hi
      generalize ((L.take N).flatMap wI).length = tt
      go_wp2_with fail
      clear ti
      have hlast : (starts 0 L).take N = starts 0 L := List.take_of_length_le (by rw [starts_len, HN.out]; exact Nat.le_refl _)
      rw [hlast] at HO
      obtain ⟨A6, c6, hv4, hc6, hC6⟩ := Kd.R_reads HO.out
      subst hv4
      have hPl : (starts 0 L).length = N := by rw [starts_len, HN.out]
      obtain ⟨wm, hwm⟩ : ∃ wm, wm = wr := ⟨_, rfl⟩
      subst hwm
      have hgl : g < wb.heap.size := by obtain ⟨_, hc, _⟩ := HIn.out; exact blk_lt hc
      have HF6 : Aside0 (∀ ad, A6 = some ad → 0 < N → ad.block ≠ g) := by
        refine ⟨fun ad he _ => ?_⟩
        obtain ⟨g6, cp, he6, hb6, _⟩ := Kd.R_form HO.out (by rw [hPl]; omega)
        injection he6 with he6 _ _
        rw [he6] at he
        obtain rfl := Option.some.inj he
        show g6 ≠ g
        omega
      rw [hPl] at hc6 hC6 ⊢
      have HC6 := Aside0.mk hC6
      have Hc6 := Aside0.mk hc6
      replace HIn := Aside0.mk (HIn.out.off (Off.of_below HR.out (fun _ => False)) id)
      replace B2 := Aside0.mk (blk_below B2.out HR.out)
      replace HB := Aside0.mk (HB.out.trans (HR.out.mono HB.out.size))
      have HG3 := Aside0.mk (show w.heap.size ≤ g by have := HBg.out; have := HG.out; omega)
      clear HO hC6 hc6 hlast HR hgl Hi
      have HP := Lib.hid hPl
      clear hPl
      obtain ⟨P, hP⟩ : ∃ P, starts 0 L = P := ⟨_, rfl⟩
      rw [hP] at HC6 HP
      have HPd := Lib.hid hP
      clear hP
      go_loopg [9] N (fun kq v9 wr => ∃ i : Nat, v9 = .int .i64 (i : Int) ∧ Aside0 (i + kq = N) ∧ Aside0 (InF wr g N (fun j => if j < i then fixI N P j (L.getD j z42) else L.getD j z42)) ∧ Aside0 (Off (fun k => k = g) wm wr))
      case atStart => exact ⟨0, rfl, ⟨by omega⟩, ⟨HIn.out.congr fun j _ => by simp⟩, ⟨Off.refl _ _⟩⟩
      case round =>
        obtain ⟨i, rfl, Hi, HI, HR⟩ := hrel
        by_cases hi : i < N
        · have ti : decide (i < N) = true := decide_eq_true hi
          cases gk with
          | zero => have := Hi.out; omega
          | succ k1 =>
            obtain ⟨c0, c1, c2, c3, c4⟩ := HI.out.cells i hi
            simp only [Nat.lt_irrefl, if_false] at c0 c1 c2 c3 c4
            have hfx : fixI N P i (L.getD i z42) = fixI N P i (L.getD i z42) := rfl
            have NX : ∀ W', InF W' g N (fun j => if j = i then fixI N P i (L.getD i z42) else if j < i then fixI N P j (L.getD j z42) else L.getD j z42) → InF W' g N (fun j => if j < i + 1 then fixI N P j (L.getD j z42) else L.getD j z42) := by
              intro W' h
              refine h.congr fun j _ => ?_
              by_cases e : j = i
              · subst e
                rw [if_pos rfl, if_pos (by omega)]
              · rw [if_neg e]
                by_cases e2 : j < i
                · rw [if_pos e2, if_pos (by omega)]
                · rw [if_neg e2, if_neg (by omega)]
            replace NX := Aside0.mk NX
            clear hfx
            obtain ⟨i0, hi0⟩ : ∃ i0, L.getD i z42 = i0 := ⟨_, rfl⟩
            rw [hi0] at c0 c1 c2 c3 c4 NX
            have HI0 := Lib.hid hi0
            clear hi0
            go_wp2_with fail
            refine (rcf_any i0 _).mono ?_
            rintro e wv ⟨rfl, hba⟩
            replace HI := Aside0.mk (HI.out.off (Off.of_below hba (fun _ => False)) id)
            replace HR := Aside0.mk (HR.out.below hba)
            clear c0 c1 c2 c3 c4 hba wr
            obtain ⟨c0, c1, c2, c3, c4⟩ := HI.out.cells i hi
            simp only [Nat.lt_irrefl, if_false] at c0 c1 c2 c3 c4
            rw [HI0.out] at c0 c1 c2 c3 c4
            have hfz : ∀ q, wv.frozen? ⟨g, q, none⟩ = false := fun q => by obtain ⟨_, hc, _⟩ := HI.out; exact blk_frozen hc q
            obtain ⟨op, A1, B1, C1, X⟩ := i0
            cases hj : cfJump ⟨op, A1, B1, C1, X⟩ with
            | true =>
              have hop : op = 5 ∨ op = 7 ∨ op = 8 := cfJump_op hj
              have t6 : (op == 6) = false := beq_eq_false_iff_ne.2 (by omega)
              have hfix : fixI N P i ⟨op, A1, B1, C1, X⟩ = ⟨op, A1, B1, C1, wrap64 (rd P (pickN (wrap64 ((i : Int) + X)) N) - rd P (i : Nat))⟩ := by unfold fixI; rw [if_pos hj]
              have HFX := Lib.hid hfix
              have hpr := pickN_range (wrap64 ((i : Int) + X)) N (by omega) (by omega)
              have hC := Kd.C_keep (0 : Int) HC6.out (HR.out.keep (fun k hk => hk)) HF6.out
              obtain ⟨ad6, e6, hx⟩ := Kd.at_int hC (i : Int) (by omega) (by omega)
              obtain ⟨ad7, e7, hx7⟩ := Kd.at_int hC (pickN (wrap64 ((i : Int) + X)) N) hpr.1 hpr.2
              subst e6
              obtain rfl := Option.some.inj e7
              rw [Int.toNat_natCast] at hx
              have hpk : ∀ W, Calls Tryd.prog 19 #[.int .i64 (IntKind.i64.wrap ((i : Int) + X)), .int .i64 (N : Int)] W fun e w' => e = .returned (.int .i64 (pickN (wrap64 ((i : Int) + X)) N)) ∧ w' = W := fun W => by
                have h := pick_still (IntKind.i64.wrap ((i : Int) + X)) N (by omega) W
                rw [show pickN (IntKind.i64.wrap ((i : Int) + X)) N = pickN (wrap64 ((i : Int) + X)) N by rw [i64w]] at h
                exact h
              replace hpk := Aside0.mk hpk
              have hf4 := hfz (i * 5 + 4)
              generalize hp : pickN (wrap64 ((i : Int) + X)) N = pp at *
              clear hfix hj hop hC e7 hfz
              obtain ⟨p0, p1⟩ := hpr
              generalize hd : rd P (i : Nat) = d1 at *
              generalize hd2 : rd P pp = d2 at *
              clear hp hd hd2
              go_wp2_with fail
              refine wp_region_still_tail 22 (by kernel_rfl) (by kernel_rfl) ?_
              simp only [List.take_succ_cons, List.take_zero, List.drop_succ_cons, List.drop_zero]
              repeat still_step
              refine wpStill_step (fun K hK => ?_)
              go_simp
              refine ⟨_, hpk.out _, hK _ ?_⟩
              clear hK K
              repeat still_step
              refine wpStill_nil ?_
              have HNX : Aside0 (InF ((wv.setCell ⟨g, i * 5 + 4, none⟩ (.int .i64 (wrap64 (d2 - d1)))).drew) g N (fun j => if j < i + 1 then fixI N P j (L.getD j z42) else L.getD j z42)) := by
                refine ⟨NX.out _ ?_⟩
                rw [HFX.out]
                refine (InF.put HI.out i 4 hi (by omega) _ _ (put4_side op A1 B1 C1 X _ _ ?_)).drew
                show (if i < i then _ else _) = _
                rw [if_neg (Nat.lt_irrefl _)]
                exact HI0.out
              go_wp2_with fail
              go_roundg k1
              case measure => omega
              case rel => exact ⟨i + 1, by go_num, ⟨by have := Hi.out; omega⟩, HNX, ⟨(HR.out.setCell (.inl rfl) _).drew⟩⟩
            | false =>
              by_cases h6 : op = 6
              · subst h6
                have hfix : fixI N P i ⟨6, A1, B1, C1, X⟩ = ⟨6, wrap64 (2 - X), B1, C1, X⟩ := by unfold fixI; rw [hj]; rfl
                have HFX := Lib.hid hfix
                have hf1 := hfz (i * 5 + 1)
                clear hfix hj hfz
                have HNX : Aside0 (InF (wv.setCell ⟨g, i * 5 + 1, none⟩ (.int .i64 (wrap64 (2 - X)))) g N (fun j => if j < i + 1 then fixI N P j (L.getD j z42) else L.getD j z42)) := by
                  refine ⟨NX.out _ ?_⟩
                  rw [HFX.out]
                  refine InF.put HI.out i 1 hi (by omega) _ _ (put1_side 6 A1 B1 C1 X _ _ ?_)
                  show (if i < i then _ else _) = _
                  rw [if_neg (Nat.lt_irrefl _)]
                  exact HI0.out
                go_wp2_with fail
                go_roundg k1
                case measure => omega
                case rel => exact ⟨i + 1, by go_num, ⟨by have := Hi.out; omega⟩, HNX, ⟨HR.out.setCell (.inl rfl) _⟩⟩
              · have hfix : fixI N P i ⟨op, A1, B1, C1, X⟩ = ⟨op, A1, B1, C1, X⟩ := by unfold fixI; rw [hj, if_neg (by decide), if_neg h6]
                have HFX := Lib.hid hfix
                have t6 : (op == 6) = false := beq_eq_false_iff_ne.2 h6
                clear hfix hj hfz h6
                go_wp2_with fail
                go_roundg k1
                case measure => omega
                case rel => exact ⟨i + 1, by go_num, ⟨by have := Hi.out; omega⟩, ⟨NX.out _ (HI.out.congr fun j _ => by rw [HFX.out]; by_cases e : j = i; (· subst e; rw [if_pos rfl, if_neg (Nat.lt_irrefl _)]; exact HI0.out); (· rw [if_neg e]))⟩, HR⟩
        · have hie : N = i := by have := Hi.out; omega
          subst hie
          have ti : decide (N < N) = false := decide_eq_false hi
          clear hi
          obtain ⟨BI, hBI⟩ : ∃ BI, L.mapIdx (fixI N P) = BI := ⟨_, rfl⟩
          have hBl : BI.length = N := by rw [← hBI, List.length_mapIdx, HN.out]
          have hIC : Kd.C k42 wr (some ⟨g, 0, none⟩) BI.length BI := by
            refine InF.toC ?_ (by omega)
            rw [hBl]
            refine HI.out.congr fun j hj => ?_
            have hj2 : j < L.length := by rw [HN.out]; exact hj
            rw [if_pos hj, ← hBI]
            simp only [List.getD_eq_getElem?_getD, List.getElem?_mapIdx, List.getElem?_eq_getElem hj2]
            rfl
          have hBd : binI l = BI := by
            unfold binI
            rw [HLd.out, HPd.out, HN.out, hBI]
          have hBA : BI.all vI = true := by rw [← hBd]; exact binI_all l HF.out
          have HBd := Lib.hid hBd
          have HBA := Lib.hid hBA
          have HIC := Aside0.mk hIC
          have HBl := Lib.hid hBl
          have hC := Kd.C_keep (0 : Int) HC6.out (HR.out.keep (fun k hk => hk)) HF6.out
          obtain ⟨ad6, e6, hx⟩ := Kd.at_int hC ((N / 2 : Nat) : Int) (by omega) (by omega)
          subst e6
          rw [Int.toNat_natCast] at hx
          have HE : Aside0 (binE l = [0, rd P ((N / 2 : Nat) : Int)]) := ⟨by unfold binE; rw [HLd.out, HN.out, HPd.out]⟩
          replace B2 := Aside0.mk (HR.out.blk B2.out (by have := HBg.out; omega))
          replace HB := Aside0.mk (Off.toBelow HB.out HR.out (fun k hk => by rw [hk]; exact HG3.out))
          clear hBI hIC hBd hBA hBl hC HI
          generalize rd P ((N / 2 : Nat) : Int) = mid at *
          go_wp2_with fail
          have Bp : ((((wr.alloc (.cells #[.int .i64 2, .int .i64 1] 3 (0, 0))).alloc (.cells #[.int .i64 5, .int .i64 2] 3 (0, 0))).alloc (.cells #[.int .i64 3, .int .i64 2] 3 (0, 0))).alloc (.cells #[.slice none 0 0, .slice none 0 0, .slice (some ⟨wr.heap.size, 0, none⟩) 2 2, .slice (some ⟨wr.heap.size + 1, 0, none⟩) 2 2, .slice (some ⟨wr.heap.size + 1 + 1, 0, none⟩) 2 2] 25 (0, 0))).heap[wr.heap.size]? = some (.cells #[.int .i64 2, .int .i64 1] 3 (0, 0)) := blk_alloc (blk_alloc (blk_alloc (blk_new wr _) _) _) _
          have Bs : ((((wr.alloc (.cells #[.int .i64 2, .int .i64 1] 3 (0, 0))).alloc (.cells #[.int .i64 5, .int .i64 2] 3 (0, 0))).alloc (.cells #[.int .i64 3, .int .i64 2] 3 (0, 0))).alloc (.cells #[.slice none 0 0, .slice none 0 0, .slice (some ⟨wr.heap.size, 0, none⟩) 2 2, .slice (some ⟨wr.heap.size + 1, 0, none⟩) 2 2, .slice (some ⟨wr.heap.size + 1 + 1, 0, none⟩) 2 2] 25 (0, 0))).heap[wr.heap.size + 1]? = some (.cells #[.int .i64 5, .int .i64 2] 3 (0, 0)) := by have h := blk_alloc (blk_alloc (blk_new (wr.alloc (.cells #[.int .i64 2, .int .i64 1] 3 (0, 0))) (.cells #[.int .i64 5, .int .i64 2] 3 (0, 0))) (.cells #[.int .i64 3, .int .i64 2] 3 (0, 0))) (.cells #[.slice none 0 0, .slice none 0 0, .slice (some ⟨wr.heap.size, 0, none⟩) 2 2, .slice (some ⟨wr.heap.size + 1, 0, none⟩) 2 2, .slice (some ⟨wr.heap.size + 1 + 1, 0, none⟩) 2 2] 25 (0, 0)); simpa using h
          have Ba : ((((wr.alloc (.cells #[.int .i64 2, .int .i64 1] 3 (0, 0))).alloc (.cells #[.int .i64 5, .int .i64 2] 3 (0, 0))).alloc (.cells #[.int .i64 3, .int .i64 2] 3 (0, 0))).alloc (.cells #[.slice none 0 0, .slice none 0 0, .slice (some ⟨wr.heap.size, 0, none⟩) 2 2, .slice (some ⟨wr.heap.size + 1, 0, none⟩) 2 2, .slice (some ⟨wr.heap.size + 1 + 1, 0, none⟩) 2 2] 25 (0, 0))).heap[wr.heap.size + 1 + 1]? = some (.cells #[.int .i64 3, .int .i64 2] 3 (0, 0)) := by have h := blk_alloc (blk_new ((wr.alloc (.cells #[.int .i64 2, .int .i64 1] 3 (0, 0))).alloc (.cells #[.int .i64 5, .int .i64 2] 3 (0, 0))) (.cells #[.int .i64 3, .int .i64 2] 3 (0, 0))) (.cells #[.slice none 0 0, .slice none 0 0, .slice (some ⟨wr.heap.size, 0, none⟩) 2 2, .slice (some ⟨wr.heap.size + 1, 0, none⟩) 2 2, .slice (some ⟨wr.heap.size + 1 + 1, 0, none⟩) 2 2] 25 (0, 0)); simpa using h
          have Bx : ((((wr.alloc (.cells #[.int .i64 2, .int .i64 1] 3 (0, 0))).alloc (.cells #[.int .i64 5, .int .i64 2] 3 (0, 0))).alloc (.cells #[.int .i64 3, .int .i64 2] 3 (0, 0))).alloc (.cells #[.slice none 0 0, .slice none 0 0, .slice (some ⟨wr.heap.size, 0, none⟩) 2 2, .slice (some ⟨wr.heap.size + 1, 0, none⟩) 2 2, .slice (some ⟨wr.heap.size + 1 + 1, 0, none⟩) 2 2] 25 (0, 0))).heap[wr.heap.size + 1 + 1 + 1]? = some (.cells #[.slice none 0 0, .slice none 0 0, .slice (some ⟨wr.heap.size, 0, none⟩) 2 2, .slice (some ⟨wr.heap.size + 1, 0, none⟩) 2 2, .slice (some ⟨wr.heap.size + 1 + 1, 0, none⟩) 2 2] 25 (0, 0)) := by have h := blk_new (((wr.alloc (.cells #[.int .i64 2, .int .i64 1] 3 (0, 0))).alloc (.cells #[.int .i64 5, .int .i64 2] 3 (0, 0))).alloc (.cells #[.int .i64 3, .int .i64 2] 3 (0, 0))) (.cells #[.slice none 0 0, .slice none 0 0, .slice (some ⟨wr.heap.size, 0, none⟩) 2 2, .slice (some ⟨wr.heap.size + 1, 0, none⟩) 2 2, .slice (some ⟨wr.heap.size + 1 + 1, 0, none⟩) 2 2] 25 (0, 0)); simpa using h
          have HRq : Below wr.heap.size wr ((((wr.alloc (.cells #[.int .i64 2, .int .i64 1] 3 (0, 0))).alloc (.cells #[.int .i64 5, .int .i64 2] 3 (0, 0))).alloc (.cells #[.int .i64 3, .int .i64 2] 3 (0, 0))).alloc (.cells #[.slice none 0 0, .slice none 0 0, .slice (some ⟨wr.heap.size, 0, none⟩) 2 2, .slice (some ⟨wr.heap.size + 1, 0, none⟩) 2 2, .slice (some ⟨wr.heap.size + 1 + 1, 0, none⟩) 2 2] 25 (0, 0))) := below_alloc (below_alloc (below_alloc (below_alloc (Below.refl _ _) _) _) _) _
          have hxl := World.block_lt_of_cell? _ _ hx
          generalize ((((wr.alloc (.cells #[.int .i64 2, .int .i64 1] 3 (0, 0))).alloc (.cells #[.int .i64 5, .int .i64 2] 3 (0, 0))).alloc (.cells #[.int .i64 3, .int .i64 2] 3 (0, 0))).alloc (.cells #[.slice none 0 0, .slice none 0 0, .slice (some ⟨wr.heap.size, 0, none⟩) 2 2, .slice (some ⟨wr.heap.size + 1, 0, none⟩) 2 2, .slice (some ⟨wr.heap.size + 1 + 1, 0, none⟩) 2 2] 25 (0, 0))) = wq at Bp Bs Ba Bx HRq ⊢
          have hg2q : g2 < wr.heap.size := blk_lt B2.out
          generalize wr.heap.size = q at Bp Bs Ba Bx hg2q hxl ⊢
          refine (enc_bin (W := wq) HBA.out HBl.out hL26 (Kd.C_below HIC.out HRq) HCap.out).mono ?_
          rintro e we ⟨A1, n1, c1, rfl, hSL, hfar, hbe⟩
          have HSL := Aside0.mk hSL
          have hfar2 : ∀ ad, A1 = some ad → 0 < n1 → ¬ (ad.block = q + 1 + 1 + 1 ∨ ad.block = g2) := by
            intro ad e hp
            have h1 := hfar ad e hp
            have h2 := blk_lt Bx
            omega
          have HFAR := Aside0.mk hfar2
          clear hfar hfar2
          replace HRq := below_step HRq hbe
          replace Bp := Aside0.mk (blk_below Bp hbe)
          replace Bs := Aside0.mk (blk_below Bs hbe)
          replace Ba := Aside0.mk (blk_below Ba hbe)
          replace Bx := Aside0.mk (blk_below Bx hbe)
          replace B2 := Aside0.mk (blk_below B2.out HRq)
          have hx' := pw_cell_below HRq hx
          replace HB := Aside0.mk (below_step HB.out HRq)
          clear hx HRq hbe hSL ti
          have x0 := (blk_cell Bx.out 0).trans rfl
          have x1 := (blk_cell Bx.out 1).trans rfl
          have x2 := (blk_cell Bx.out 2).trans rfl
          have x3 := (blk_cell Bx.out 3).trans rfl
          have x4 := (blk_cell Bx.out 4).trans rfl
          have y0 := (blk_cell B2.out 0).trans rfl
          have y1 := (blk_cell B2.out 1).trans rfl
          have y2 := (blk_cell B2.out 2).trans rfl
          have y3 := (blk_cell B2.out 3).trans rfl
          have y4 := (blk_cell B2.out 4).trans rfl
          have xf0 := blk_frozen Bx.out 0
          have xf1 := blk_frozen Bx.out 1
          have yf0 := blk_frozen B2.out 0
          have yf1 := blk_frozen B2.out 1
          have yf2 := blk_frozen B2.out 2
          have yf3 := blk_frozen B2.out 3
          have yf4 := blk_frozen B2.out 4
          have hne : q + 1 + 1 + 1 ≠ g2 := by omega
          have hne2 : g2 ≠ q + 1 + 1 + 1 := by omega
          have hlx := blk_lt Bx.out
          have hl2 := blk_lt B2.out
          have hbn : (ad6.add (N / 2)).block ≠ q + 1 + 1 + 1 := by omega
          have hx2 : (we.setCell ⟨q + 1 + 1 + 1, 0, none⟩ (.slice A1 n1 c1)).cell? (ad6.add (N / 2)) = some (.int .i64 mid) :=
            (World.cell?_of_block (w := we) (Below.heap_setCell we ⟨q + 1 + 1 + 1, 0, none⟩ (.slice A1 n1 c1) _ hbn)).trans hx'
          clear hxl
          have HQX := Aside0.mk (show q ≠ q + 1 + 1 + 1 ∧ q + 1 ≠ q + 1 + 1 + 1 ∧ q + 1 + 1 ≠ q + 1 + 1 + 1 by omega)
          have HQ2 := Aside0.mk (show q ≠ g2 ∧ q + 1 ≠ g2 ∧ q + 1 + 1 ≠ g2 by omega)
          have HGX := Aside0.mk (show w.heap.size ≤ q + 1 + 1 + 1 by have := HG.out; omega)
          generalize q + 1 + 1 + 1 = gx at *
          have hN2 : N / 2 < N := by omega
          have hqx : q ≠ gx ∧ q + 1 ≠ gx ∧ q + 1 + 1 ≠ gx := HQX.out
          have hq2 : q ≠ g2 ∧ q + 1 ≠ g2 ∧ q + 1 + 1 ≠ g2 := HQ2.out
          replace hqx := Aside0.mk hqx
          replace hq2 := Aside0.mk hq2
          go_wp2_with fail
          have T1 : ∀ {k : Nat} {t : TypeId} {cs : Array Value}, we.heap[k]? = some (.cells cs t (0, 0)) → k ≠ gx → k ≠ g2 → ((((((((we.setCell ⟨gx, 0, none⟩ (.slice A1 n1 c1)).setCell ⟨gx, 1, none⟩ (.slice (some ⟨we.heap.size, 0, none⟩) 2 2)).setCell ⟨g2, 0, none⟩ (.slice A1 n1 c1)).setCell ⟨g2, 1, none⟩ (.slice (some ⟨we.heap.size, 0, none⟩) 2 2)).setCell ⟨g2, 2, none⟩ (.slice (some ⟨q, 0, none⟩) 2 2)).setCell ⟨g2, 3, none⟩ (.slice (some ⟨q + 1, 0, none⟩) 2 2)).setCell ⟨g2, 4, none⟩ (.slice (some ⟨q + 1 + 1, 0, none⟩) 2 2)).alloc (.cells #[.int .i64 0, .int .i64 mid] 3 (0, 0))).heap[k]? = some (.cells cs t (0, 0)) := fun h h1 h2 => blk_alloc (blk_far (blk_far (blk_far (blk_far (blk_far (blk_far (blk_far h h1 _) h1 _) h2 _) h2 _) h2 _) h2 _) h2 _) _
          refine end18 (g2 := g2) (A0 := A1) (n0 := n1) (c0 := c1) (A1 := some ⟨we.heap.size, 0, none⟩) (n1 := 2) (c1 := 2) (A2 := some ⟨q, 0, none⟩) (n2 := 2) (c2 := 2) (A3 := some ⟨q + 1, 0, none⟩) (n3 := 2) (c3 := 2) (A4 := some ⟨q + 1 + 1, 0, none⟩) (n4 := 2) (c4 := 2) rfl rfl ?_ ?_
          · exact blk_alloc (blk_put (blk_put (blk_put (blk_put (blk_put (blk_far (blk_far B2.out hne2 _) hne2 _) 0 _ rfl) 1 _ rfl) 2 _ rfl) 3 _ rfl) 4 _ rfl) _
          · have hO : Off (fun k => k = gx ∨ k = g2) we ((((((((we.setCell ⟨gx, 0, none⟩ (.slice A1 n1 c1)).setCell ⟨gx, 1, none⟩ (.slice (some ⟨we.heap.size, 0, none⟩) 2 2)).setCell ⟨g2, 0, none⟩ (.slice A1 n1 c1)).setCell ⟨g2, 1, none⟩ (.slice (some ⟨we.heap.size, 0, none⟩) 2 2)).setCell ⟨g2, 2, none⟩ (.slice (some ⟨q, 0, none⟩) 2 2)).setCell ⟨g2, 3, none⟩ (.slice (some ⟨q + 1, 0, none⟩) 2 2)).setCell ⟨g2, 4, none⟩ (.slice (some ⟨q + 1 + 1, 0, none⟩) 2 2)).alloc (.cells #[.int .i64 0, .int .i64 mid] 3 (0, 0))) := (((((((((Off.refl _ _).setCell (.inl (.inl rfl)) _).setCell (.inl (.inl rfl)) _).setCell (.inl (.inr rfl)) _).setCell (.inl (.inr rfl)) _).setCell (.inl (.inr rfl)) _).setCell (.inl (.inr rfl)) _).setCell (.inl (.inr rfl)) _).alloc _)
            refine ⟨_, rfl, ⟨A1, n1, c1, _, 2, 2, _, 2, 2, _, 2, 2, _, 2, 2, rfl, ?_, ?_, SI.blk2 (T1 Bp.out hqx.out.1 hq2.out.1), SI.blk2 (T1 Bs.out hqx.out.2.1 hq2.out.2.1), SI.blk2 (T1 Ba.out hqx.out.2.2 hq2.out.2.2)⟩, ?_⟩
            · unfold binW
              rw [HBd.out]
              exact SL_off HSL.out hO HFAR.out
            · rw [HE.out]
              refine SI.blk2 ?_
              have h := blk_new (((((((we.setCell ⟨gx, 0, none⟩ (.slice A1 n1 c1)).setCell ⟨gx, 1, none⟩ (.slice (some ⟨we.heap.size, 0, none⟩) 2 2)).setCell ⟨g2, 0, none⟩ (.slice A1 n1 c1)).setCell ⟨g2, 1, none⟩ (.slice (some ⟨we.heap.size, 0, none⟩) 2 2)).setCell ⟨g2, 2, none⟩ (.slice (some ⟨q, 0, none⟩) 2 2)).setCell ⟨g2, 3, none⟩ (.slice (some ⟨q + 1, 0, none⟩) 2 2)).setCell ⟨g2, 4, none⟩ (.slice (some ⟨q + 1 + 1, 0, none⟩) 2 2)) (.cells #[.int .i64 0, .int .i64 mid] 3 (0, 0))
              simpa using h
            · exact Off.toBelow HB.out hO (fun k hk => by rcases hk with rfl | rfl; exact HGX.out; exact Nat.le_of_eq HG.out)
end Go.Proofs.YtcjidibdidijaaaDoor
