/- CellPuts: part 4 of 5 of this claim's texts, one behind the other. The words of the kit's printer stand in it cut down, by a program, to those that are used. -/
import Derived.Test.YtfdmfgaiblfbhaaMCellPutsc
import Derived.WalkSpells
/- The document's example of chapter 05, walked: it holds. -/
namespace Go.Proofs.Ytfdmfgaiblfbhaa.P
open Go.RowKit Go.Proofs.YtfdmfgaiblfbhaaW.PrintWords Go.Proofs.YtfdmfgaiblfbhaaW.PrintLast Go.Proofs.YtfdmfgaiblfbhaaW.PrintMore
set_option linter.unusedVariables false
set_option linter.unusedSimpArgs false
theorem C_none26 (W : World) (A : Option Addr) : Kd.C k26 W A 0 ([] : List S26) := ⟨rfl, Nat.zero_le _, fun h => absurd h (Nat.lt_irrefl _)⟩
theorem FK_leaf (W : World) (ok : Nat → Prop) (a : Int) (r : S23) (d : Int) (A : Option Addr) (c : Nat) : Kd.FK k26 W ok (⟨a, r, d, []⟩ : S26) [.int .u8 a, .int .i64 r.f0, .int .i64 r.f1, .int .i64 r.f2, .int .i64 r.f3, .int .i64 d, .slice A ([] : List S26).length c] :=
  k26_mkF W ok (⟨a, r, d, []⟩ : S26) (A6 := A) (c6 := c) (Nat.zero_le _) (fun W' _ => C_none26 W' A)
def awake05.T2 : Bool × List (List Nat × List Nat) := (true, [([], []), ([], []), ([1], [1]), ([], []), ([3, 2], [3]), ([2, 4], [2, 4]), ([0, 5], [0, 5]), ([], []), ([7, 6, 4, 0, 1, 2, 3, 4, 5, 6, 7], [6, 7])])
def awake05.B2 : List Nat := [0, 0, 2, 0, 14, 30, 63, 0, 255]
theorem awake05.tab2 : rtab .any (opsOf Try.f75 2) = awake05.T2 := by kernel_rfl
theorem awake05.bits2 : waitsOk awake05.T2.2 awake05.B2 = true := by kernel_rfl
set_option maxHeartbeats 4000000 in
set_option maxRecDepth 100000 in
theorem awake75 (w : World) : Calls Try.prog 75 #[] w fun e w' => e = .returned (.bool true) ∧ Below w.heap.size w w' := by
  have F1 : Aside0 (cell_Find.f 2 0 0 3 1 0 ([(⟨1, ⟨0, 0, 3, 1⟩, 4, []⟩ : S26), (⟨1, ⟨0, 0, 3, 1⟩, 7, []⟩ : S26)] : List S26) 7 = some ([1], true)) := ⟨by decide +kernel⟩
  have M1 : Aside0 (cell_May.f ([⟨2, ⟨0, 0, 3, 1⟩, 0, ([(⟨1, ⟨0, 0, 3, 1⟩, 4, []⟩ : S26), (⟨1, ⟨0, 0, 3, 1⟩, 7, []⟩ : S26)] : List S26)⟩] : List S26) = some true) := ⟨by decide +kernel⟩
  obtain ⟨ks, hks⟩ := (cell_size_ev 3 ([⟨2, ⟨0, 0, 3, 1⟩, 0, ([(⟨1, ⟨0, 0, 3, 1⟩, 4, []⟩ : S26), (⟨1, ⟨0, 0, 3, 1⟩, 7, []⟩ : S26)] : List S26)⟩] : List S26) (by decide +kernel) (by omega)).rounds
  have S1 := Aside0.mk hks
  clear hks
  have J1 : Aside0 (sashref05_Ints.f 4 [1] [1] = some true) := ⟨by decide +kernel⟩
  have HB := Aside0.mk (Below.refl w.heap.size w)
  go_enter Try.func75, Try.ntmps75
  go_upto_region 2 with (first
    | ((with_reducible refine gate_dst (N := 1) rfl ?_); refine box_event ?hg (N := 1) ?hd (cs := #[.int .i64 0, .int .i64 0, .int .i64 0, .int .i64 0]) (t := 23) ?hr ?_; (case hd => rfl); (case hg => rfl); (case hr => first | (go_simp; done) | (go_simp; rfl)); intro b1 hg wb1 hbox hb; have Kb1 := Aside0.mk hbox; have Xb1 := Aside0.mk hb; have Gb1 := Aside0.mk (Nat.le_of_eq hg.symm); clear hb hbox hg)
    | ((with_reducible refine gate_ (.store 23 (.tmp 1) (.tmp 5)) rfl ?_); go_loud (refine box_store rfl rfl 23 (.tmp 1) (.tmp 5) rfl (g := b1) (j := 0) #[.int .i64 0, .int .i64 0, .int .i64 3, .int .i64 1] (u := .agg #[.int .i64 0, .int .i64 0, .int .i64 3, .int .i64 1]) (seg := [.int .i64 0, .int .i64 0, .int .i64 3, .int .i64 1]) ?sA ?sX rfl ?sT ?s1 Kb1.out ?sJ rfl Xb1.out Xb1.out.size Gb1.out ?_; (case sA => rfl); (case sX => rfl); (case sT => rfl); (case s1 => (simp [Value.oneCell'])); (case sJ => (first | decide | simp)); intro ws1 hbk hbb hgg; have qHB_ := Aside0.mk (below_step HB.out hbb); clear HB; have HB := qHB_; clear qHB_; clear Kb1 Xb1 Gb1; have Kb1 := Aside0.mk hbk; clear hbk hbb hgg))
    | fail)
  have hb : Below ws1.heap.size ws1 ws1.drew := below_drew (Below.refl _ _)
  have qKb1_ := Aside0.mk (blk_below Kb1.out hb); have qHB_ := Aside0.mk (below_step HB.out hb); clear Kb1 HB; have Kb1 := qKb1_; have HB := qHB_; clear qKb1_ qHB_
  clear hb
  refine start_ (n := 9) (S := fun w' => w'.heap[b1]? = some (.cells #[.int .i64 0, .int .i64 0, .int .i64 3, .int .i64 1] 23 (0, 0))) (ds := [8]) #[false, false, false, false, false, false, false, false, false] (by kernel_rfl) rfl rfl Kb1.out (fun hHeld => ?_); refine with_tabW awake05.tab2 awake05.bits2 (fun HT_ HW_ => ?_)
  generalize ws1.drew = wd at HB Kb1 hHeld ⊢
  refine take_ (i := 0) (N := some 6) (v := ?_) (a' := ?_) #[true, false, false, false, false, false, false, false, false] rfl rfl (take_ofW HT_.out HW_.out (by kernel_rfl)) (fun _ _ _ h => h) (Or.inl ⟨by rfl, ?_⟩) hHeld ?_ ?_
  rotate_left
  · intro w' hs_
    have c0 := (blk_cell hs_ 0).trans rfl
    have c1 := (blk_cell hs_ 1).trans rfl
    have c2 := (blk_cell hs_ 2).trans rfl
    have c3 := (blk_cell hs_ 3).trans rfl
    go_simp; with_reducible rfl
  rotate_left
  · simp only [Act.put, List.setIfInBounds_toArray, List.set_cons_zero, List.set_cons_succ, i64_w, i32_w]
    rfl
  refine take_ (i := 1) (N := some 7) (v := ?_) (a' := ?_) #[true, true, false, false, false, false, false, false, false] rfl rfl (take_ofW HT_.out HW_.out (by kernel_rfl)) (fun _ _ _ h => h) (Or.inl ⟨by rfl, ?_⟩) hHeld ?_ ?_
  rotate_left
  · intro w' hs_
    have c0 := (blk_cell hs_ 0).trans rfl
    have c1 := (blk_cell hs_ 1).trans rfl
    have c2 := (blk_cell hs_ 2).trans rfl
    have c3 := (blk_cell hs_ 3).trans rfl
    go_simp; with_reducible rfl
  rotate_left
  · simp only [Act.put, List.setIfInBounds_toArray, List.set_cons_zero, List.set_cons_succ, i64_w, i32_w]
    rfl
  refine take_ (i := 3) (N := some 9) (v := ?_) (a' := ?_) #[true, true, false, true, false, false, false, false, false] rfl rfl (take_ofW HT_.out HW_.out (by kernel_rfl)) (fun _ _ _ h => h) (Or.inl ⟨by rfl, ?_⟩) hHeld ?_ ?_
  rotate_left
  · intro w' hs_
    have c0 := (blk_cell hs_ 0).trans rfl
    have c1 := (blk_cell hs_ 1).trans rfl
    have c2 := (blk_cell hs_ 2).trans rfl
    have c3 := (blk_cell hs_ 3).trans rfl
    go_simp; with_reducible rfl
  rotate_left
  · simp only [Act.put, List.setIfInBounds_toArray, List.set_cons_zero, List.set_cons_succ, i64_w, i32_w]
    rfl
  refine join_ (σ := Value × Value × Value × Nat) 1 #[true, true, true, true, true, true, true, true, false] (fun s_ => [(8, .agg #[.int .u8 1, .int .i64 0, .int .i64 0, .int .i64 3, .int .i64 1, .int .i64 4, s_.1]), (10, .agg #[.int .u8 1, .int .i64 0, .int .i64 0, .int .i64 3, .int .i64 1, .int .i64 7, s_.2.1]), (11, s_.2.2.1), (12, .agg #[.int .u8 2, .int .i64 0, .int .i64 0, .int .i64 3, .int .i64 1, .int .i64 0, s_.2.2.1]), (2, .pointer (some ⟨s_.2.2.2, 0, none⟩))]) (fun s_ w' => Below wd.heap.size wd w' ∧ Kd.V k26 26 w' 0 (fun k => k ≠ s_.2.2.2) s_.2.2.1 ([(⟨1, ⟨0, 0, 3, 1⟩, 4, []⟩ : S26), (⟨1, ⟨0, 0, 3, 1⟩, 7, []⟩ : S26)] : List S26) ∧ w'.heap[s_.2.2.2]? = some (.cells #[.int .u8 0, .int .i64 0, .int .i64 0, .int .i64 0, .int .i64 0, .int .i64 0, .slice none 0 0] 26 (0, 0)) ∧ wd.heap.size ≤ s_.2.2.2) ?_ ?_
  rotate_left
  · intro hCont
    have D := Aside0.mk (Below.refl wd.heap.size wd)
    refine two_ (i := 2) (j := 7) (Ni := some 8) (Nj := some 2) #[true, true, true, true, false, false, false, false, false] #[true, true, false, true, false, false, false, true, false] rfl rfl rfl rfl (two_of HT_.out (by kernel_rfl)) (by decide) (by decide) (fun K hK => ?_) (fun K hK => ?_)
    · skip
      refine goes_ Try.func78 (by kernel_rfl) rfl #[.agg #[.int .i64 0, .int .i64 0, .int .i64 3, .int .i64 1], .int .i64 4] (by rfl) rfl rfl (by (try simp only [List.map_toArray, List.map_cons, List.map_nil]); first | done | rfl) ?_
      refine (cell_Leaf.calls 0 0 3 1 4 1 0 0 3 1 4 [] _ rfl).mono ?_
      rintro e wl ⟨v, rfl, ho, hb⟩
      refine ⟨_, rfl, ?_⟩
      obtain ⟨A8, c8, ev⟩ := Kd.R_slice ho
      subst ev
      have q_ := Aside0.mk (below_step D.out hb)
      clear D
      have D := q_
      clear q_
      clear ho hb
      refine hK.out _ _ (blk_below Kb1.out D.out) (fun hHeld => ?_)
      clear hK K
      refine norm_ (a' := ?_) ?_ ?_
      rotate_left
      · show Act.put _ (some 8) _ = _
        simp only [Act.put, List.setIfInBounds_toArray, List.set_cons_zero, List.set_cons_succ, i64_w, i32_w]
        rfl
      refine two_ (i := 4) (j := 7) (Ni := some 10) (Nj := some 2) #[true, true, true, true, true, false, false, false, false] #[true, true, true, true, false, false, false, true, false] rfl rfl rfl rfl (two_of HT_.out (by kernel_rfl)) (by decide) (by decide) (fun K hK => ?_) (fun K hK => ?_)
      · skip
        refine goes_ Try.func78 (by kernel_rfl) rfl #[.agg #[.int .i64 0, .int .i64 0, .int .i64 3, .int .i64 1], .int .i64 7] (by rfl) rfl rfl (by (try simp only [List.map_toArray, List.map_cons, List.map_nil]); first | done | rfl) ?_
        refine (cell_Leaf.calls 0 0 3 1 7 1 0 0 3 1 7 [] _ rfl).mono ?_
        rintro e wl ⟨v, rfl, ho, hb⟩
        refine ⟨_, rfl, ?_⟩
        obtain ⟨A10, c10, ev⟩ := Kd.R_slice ho
        subst ev
        have q_ := Aside0.mk (below_step D.out hb)
        clear D
        have D := q_
        clear q_
        clear ho hb
        refine hK.out _ _ (blk_below Kb1.out D.out) (fun hHeld => ?_)
        clear hK K
        refine norm_ (a' := ?_) ?_ ?_
        rotate_left
        · show Act.put _ (some 10) _ = _
          simp only [Act.put, List.setIfInBounds_toArray, List.set_cons_zero, List.set_cons_succ, i64_w, i32_w]
          rfl
        refine two_ (i := 5) (j := 7) (Ni := some 11) (Nj := some 2) #[true, true, true, true, true, true, false, false, false] #[true, true, true, true, true, false, false, true, false] rfl rfl rfl rfl (two_of HT_.out (by kernel_rfl)) (by decide) (by decide) (fun K hK => ?_) (fun K hK => ?_)
        · skip
          refine Kd.N_lit_step k26 _ 26 ?hg (N' := 11) ?hd (xs := ([(⟨1, ⟨0, 0, 3, 1⟩, 4, []⟩ : S26), (⟨1, ⟨0, 0, 3, 1⟩, 7, []⟩ : S26)] : List S26)) (inner := [.int .u8 1, .int .i64 0, .int .i64 0, .int .i64 3, .int .i64 1, .int .i64 4, .slice A8 ([] : List S26).length c8, .int .u8 1, .int .i64 0, .int .i64 0, .int .i64 3, .int .i64 1, .int .i64 7, .slice A10 ([] : List S26).length c10]) (ok := (fun _ => True)) (okp := fun _ => False) ?hr ?hp (fun _ hk => hk.elim) trivial (Below.refl _ _) (Nat.le_refl _) (by simp) ?_; (case hd => rfl); (case hg => rfl); (case hr => first | (go_simp; done) | (go_simp; rfl)); (case hp => exact (Reps.c7 (FK_leaf _ _ 1 ⟨0, 0, 3, 1⟩ 4 A8 c8) (Reps.c7 (FK_leaf _ _ 1 ⟨0, 0, 3, 1⟩ 7 A10 c10) (Reps.none _ _))))
          intro v11 wl ho hb hg_ hnew_
          clear hg_ hnew_
          obtain ⟨Ak, ck, ev⟩ := Kd.N_slice ho
          subst ev
          have q_ := Aside0.mk (below_step D.out hb)
          clear D
          have D := q_
          clear q_
          have HV := Aside0.mk (Kd.V_mk (e := 26) (base := 0) (Kd.N_reads' ho).2.1 (Kd.N_F ho))
          clear ho hb
          refine hK.out _ _ (blk_below Kb1.out D.out) (fun hHeld => ?_)
          clear hK K
          refine norm_ (a' := ?_) ?_ ?_
          rotate_left
          · show Act.put _ (some 11) _ = _
            simp only [Act.put, List.setIfInBounds_toArray, List.set_cons_zero, List.set_cons_succ, i64_w, i32_w]
            rfl
          refine pure_ (i := 6) (N := some 12) (v := ?_) (a' := ?_) #[true, true, true, true, true, true, true, false, false] rfl rfl (any_of HT_.out (by kernel_rfl)) (fun _ _ _ h => h) (Or.inl ⟨by rfl, ?_⟩) ?_ ?_
          rotate_left
          · intro w'; go_simp; with_reducible rfl
          rotate_left
          · simp only [Act.put, List.setIfInBounds_toArray, List.set_cons_zero, List.set_cons_succ, i64_w, i32_w]
            rfl
          refine one_ (i := 7) (N := some 2) #[true, true, true, true, true, true, true, true, false] rfl rfl (one_of HT_.out (by kernel_rfl)) (by decide) (fun K hK => ?_)
          refine box_step ?hg (N := 2) ?hd (cs := #[.int .u8 0, .int .i64 0, .int .i64 0, .int .i64 0, .int .i64 0, .int .i64 0, .slice none 0 0]) (t := 26) ?hr ?_; (case hd => rfl); (case hg => rfl); (case hr => first | (go_simp; done) | (go_simp; rfl))
          intro b9 hg wb hbox hb
          have K9 := Aside0.mk hbox
          have G9 := Aside0.mk (show wd.heap.size ≤ b9 by rw [hg]; exact D.out.size)
          have q_ := Aside0.mk (below_step D.out hb)
          clear D
          have D := q_
          clear q_
          have q_ := Aside0.mk (Kd.V_mono (Kd.V_below (Kd.V_elderB HV.out b9 (Nat.le_of_eq hg.symm)) hb) (fun k hk => (hk.2 : k ≠ b9)))
          clear HV
          have HV := q_
          clear q_
          clear hg hbox hb
          refine hK.out _ _ (blk_below Kb1.out D.out) (fun hHeld => ?_)
          clear hK K
          refine norm_ (a' := ?_) ?_ ?_
          rotate_left
          · show Act.put _ (some 2) _ = _
            simp only [Act.put, List.setIfInBounds_toArray, List.set_cons_zero, List.set_cons_succ, i64_w, i32_w]
            rfl
          exact norm_ (by simp only [putAll, Act.put, List.setIfInBounds_toArray, List.set_cons_zero, List.set_cons_succ] <;> rfl) (hCont (.slice A8 ([] : List S26).length c8, .slice A10 ([] : List S26).length c10, .slice Ak ([(⟨1, ⟨0, 0, 3, 1⟩, 4, []⟩ : S26), (⟨1, ⟨0, 0, 3, 1⟩, 7, []⟩ : S26)] : List S26).length ck, b9) _ ⟨D.out, HV.out, K9.out, G9.out⟩)
        · skip
          refine box_step ?hg (N := 2) ?hd (cs := #[.int .u8 0, .int .i64 0, .int .i64 0, .int .i64 0, .int .i64 0, .int .i64 0, .slice none 0 0]) (t := 26) ?hr ?_; (case hd => rfl); (case hg => rfl); (case hr => first | (go_simp; done) | (go_simp; rfl))
          intro b9 hg wb hbox hb
          have K9 := Aside0.mk hbox
          have G9 := Aside0.mk (show wd.heap.size ≤ b9 by rw [hg]; exact D.out.size)
          have q_ := Aside0.mk (below_step D.out hb)
          clear D
          have D := q_
          clear q_
          clear hg hbox hb
          refine hK.out _ _ (blk_below Kb1.out D.out) (fun hHeld => ?_)
          clear hK K
          refine norm_ (a' := ?_) ?_ ?_
          rotate_left
          · show Act.put _ (some 2) _ = _
            simp only [Act.put, List.setIfInBounds_toArray, List.set_cons_zero, List.set_cons_succ, i64_w, i32_w]
            rfl
          refine one_ (i := 5) (N := some 11) #[true, true, true, true, true, true, false, true, false] rfl rfl (one_of HT_.out (by kernel_rfl)) (by decide) (fun K hK => ?_)
          refine Kd.N_lit_step k26 _ 26 ?hg (N' := 11) ?hd (xs := ([(⟨1, ⟨0, 0, 3, 1⟩, 4, []⟩ : S26), (⟨1, ⟨0, 0, 3, 1⟩, 7, []⟩ : S26)] : List S26)) (inner := [.int .u8 1, .int .i64 0, .int .i64 0, .int .i64 3, .int .i64 1, .int .i64 4, .slice A8 ([] : List S26).length c8, .int .u8 1, .int .i64 0, .int .i64 0, .int .i64 3, .int .i64 1, .int .i64 7, .slice A10 ([] : List S26).length c10]) (ok := (fun k => k ≠ b9)) (okp := fun _ => False) ?hr ?hp (fun _ hk => hk.elim) (Nat.ne_of_gt (blk_lt K9.out)) (Below.refl _ _) (Nat.le_refl _) (by simp) ?_; (case hd => rfl); (case hg => rfl); (case hr => first | (go_simp; done) | (go_simp; rfl)); (case hp => exact (Reps.c7 (FK_leaf _ _ 1 ⟨0, 0, 3, 1⟩ 4 A8 c8) (Reps.c7 (FK_leaf _ _ 1 ⟨0, 0, 3, 1⟩ 7 A10 c10) (Reps.none _ _))))
          intro v11 wl ho hb hg_ hnew_
          clear hg_ hnew_
          obtain ⟨Ak, ck, ev⟩ := Kd.N_slice ho
          subst ev
          have q_ := Aside0.mk (below_step D.out hb)
          clear D
          have D := q_
          clear q_
          have q_ := Aside0.mk (blk_below K9.out hb)
          clear K9
          have K9 := q_
          clear q_
          have HV := Aside0.mk (Kd.V_mk (e := 26) (base := 0) (Kd.N_reads' ho).2.1 (Kd.N_F ho))
          clear ho hb
          refine hK.out _ _ (blk_below Kb1.out D.out) (fun hHeld => ?_)
          clear hK K
          refine norm_ (a' := ?_) ?_ ?_
          rotate_left
          · show Act.put _ (some 11) _ = _
            simp only [Act.put, List.setIfInBounds_toArray, List.set_cons_zero, List.set_cons_succ, i64_w, i32_w]
            rfl
          refine pure_ (i := 6) (N := some 12) (v := ?_) (a' := ?_) #[true, true, true, true, true, true, true, true, false] rfl rfl (any_of HT_.out (by kernel_rfl)) (fun _ _ _ h => h) (Or.inl ⟨by rfl, ?_⟩) ?_ ?_
          rotate_left
          · intro w'; go_simp; with_reducible rfl
          rotate_left
          · simp only [Act.put, List.setIfInBounds_toArray, List.set_cons_zero, List.set_cons_succ, i64_w, i32_w]
            rfl
          exact norm_ (by simp only [putAll, Act.put, List.setIfInBounds_toArray, List.set_cons_zero, List.set_cons_succ] <;> rfl) (hCont (.slice A8 ([] : List S26).length c8, .slice A10 ([] : List S26).length c10, .slice Ak ([(⟨1, ⟨0, 0, 3, 1⟩, 4, []⟩ : S26), (⟨1, ⟨0, 0, 3, 1⟩, 7, []⟩ : S26)] : List S26).length ck, b9) _ ⟨D.out, HV.out, K9.out, G9.out⟩)
      · skip
        refine box_step ?hg (N := 2) ?hd (cs := #[.int .u8 0, .int .i64 0, .int .i64 0, .int .i64 0, .int .i64 0, .int .i64 0, .slice none 0 0]) (t := 26) ?hr ?_; (case hd => rfl); (case hg => rfl); (case hr => first | (go_simp; done) | (go_simp; rfl))
        intro b9 hg wb hbox hb
        have K9 := Aside0.mk hbox
        have G9 := Aside0.mk (show wd.heap.size ≤ b9 by rw [hg]; exact D.out.size)
        have q_ := Aside0.mk (below_step D.out hb)
        clear D
        have D := q_
        clear q_
        clear hg hbox hb
        refine hK.out _ _ (blk_below Kb1.out D.out) (fun hHeld => ?_)
        clear hK K
        refine norm_ (a' := ?_) ?_ ?_
        rotate_left
        · show Act.put _ (some 2) _ = _
          simp only [Act.put, List.setIfInBounds_toArray, List.set_cons_zero, List.set_cons_succ, i64_w, i32_w]
          rfl
        refine one_ (i := 4) (N := some 10) #[true, true, true, true, true, false, false, true, false] rfl rfl (one_of HT_.out (by kernel_rfl)) (by decide) (fun K hK => ?_)
        refine goes_ Try.func78 (by kernel_rfl) rfl #[.agg #[.int .i64 0, .int .i64 0, .int .i64 3, .int .i64 1], .int .i64 7] (by rfl) rfl rfl (by (try simp only [List.map_toArray, List.map_cons, List.map_nil]); first | done | rfl) ?_
        refine (cell_Leaf.calls 0 0 3 1 7 1 0 0 3 1 7 [] _ rfl).mono ?_
        rintro e wl ⟨v, rfl, ho, hb⟩
        refine ⟨_, rfl, ?_⟩
        obtain ⟨A10, c10, ev⟩ := Kd.R_slice ho
        subst ev
        have q_ := Aside0.mk (below_step D.out hb)
        clear D
        have D := q_
        clear q_
        have q_ := Aside0.mk (blk_below K9.out hb)
        clear K9
        have K9 := q_
        clear q_
        clear ho hb
        refine hK.out _ _ (blk_below Kb1.out D.out) (fun hHeld => ?_)
        clear hK K
        refine norm_ (a' := ?_) ?_ ?_
        rotate_left
        · show Act.put _ (some 10) _ = _
          simp only [Act.put, List.setIfInBounds_toArray, List.set_cons_zero, List.set_cons_succ, i64_w, i32_w]
          rfl
        refine one_ (i := 5) (N := some 11) #[true, true, true, true, true, true, false, true, false] rfl rfl (one_of HT_.out (by kernel_rfl)) (by decide) (fun K hK => ?_)
        refine Kd.N_lit_step k26 _ 26 ?hg (N' := 11) ?hd (xs := ([(⟨1, ⟨0, 0, 3, 1⟩, 4, []⟩ : S26), (⟨1, ⟨0, 0, 3, 1⟩, 7, []⟩ : S26)] : List S26)) (inner := [.int .u8 1, .int .i64 0, .int .i64 0, .int .i64 3, .int .i64 1, .int .i64 4, .slice A8 ([] : List S26).length c8, .int .u8 1, .int .i64 0, .int .i64 0, .int .i64 3, .int .i64 1, .int .i64 7, .slice A10 ([] : List S26).length c10]) (ok := (fun k => k ≠ b9)) (okp := fun _ => False) ?hr ?hp (fun _ hk => hk.elim) (Nat.ne_of_gt (blk_lt K9.out)) (Below.refl _ _) (Nat.le_refl _) (by simp) ?_; (case hd => rfl); (case hg => rfl); (case hr => first | (go_simp; done) | (go_simp; rfl)); (case hp => exact (Reps.c7 (FK_leaf _ _ 1 ⟨0, 0, 3, 1⟩ 4 A8 c8) (Reps.c7 (FK_leaf _ _ 1 ⟨0, 0, 3, 1⟩ 7 A10 c10) (Reps.none _ _))))
        intro v11 wl ho hb hg_ hnew_
        clear hg_ hnew_
        obtain ⟨Ak, ck, ev⟩ := Kd.N_slice ho
        subst ev
        have q_ := Aside0.mk (below_step D.out hb)
        clear D
        have D := q_
        clear q_
        have q_ := Aside0.mk (blk_below K9.out hb)
        clear K9
        have K9 := q_
        clear q_
        have HV := Aside0.mk (Kd.V_mk (e := 26) (base := 0) (Kd.N_reads' ho).2.1 (Kd.N_F ho))
        clear ho hb
        refine hK.out _ _ (blk_below Kb1.out D.out) (fun hHeld => ?_)
        clear hK K
        refine norm_ (a' := ?_) ?_ ?_
        rotate_left
        · show Act.put _ (some 11) _ = _
          simp only [Act.put, List.setIfInBounds_toArray, List.set_cons_zero, List.set_cons_succ, i64_w, i32_w]
          rfl
        refine pure_ (i := 6) (N := some 12) (v := ?_) (a' := ?_) #[true, true, true, true, true, true, true, true, false] rfl rfl (any_of HT_.out (by kernel_rfl)) (fun _ _ _ h => h) (Or.inl ⟨by rfl, ?_⟩) ?_ ?_
        rotate_left
        · intro w'; go_simp; with_reducible rfl
        rotate_left
        · simp only [Act.put, List.setIfInBounds_toArray, List.set_cons_zero, List.set_cons_succ, i64_w, i32_w]
          rfl
        exact norm_ (by simp only [putAll, Act.put, List.setIfInBounds_toArray, List.set_cons_zero, List.set_cons_succ] <;> rfl) (hCont (.slice A8 ([] : List S26).length c8, .slice A10 ([] : List S26).length c10, .slice Ak ([(⟨1, ⟨0, 0, 3, 1⟩, 4, []⟩ : S26), (⟨1, ⟨0, 0, 3, 1⟩, 7, []⟩ : S26)] : List S26).length ck, b9) _ ⟨D.out, HV.out, K9.out, G9.out⟩)
    · skip
      refine box_step ?hg (N := 2) ?hd (cs := #[.int .u8 0, .int .i64 0, .int .i64 0, .int .i64 0, .int .i64 0, .int .i64 0, .slice none 0 0]) (t := 26) ?hr ?_; (case hd => rfl); (case hg => rfl); (case hr => first | (go_simp; done) | (go_simp; rfl))
      intro b9 hg wb hbox hb
      have K9 := Aside0.mk hbox
      have G9 := Aside0.mk (show wd.heap.size ≤ b9 by rw [hg]; exact D.out.size)
      have q_ := Aside0.mk (below_step D.out hb)
      clear D
      have D := q_
      clear q_
      clear hg hbox hb
      refine hK.out _ _ (blk_below Kb1.out D.out) (fun hHeld => ?_)
      clear hK K
      refine norm_ (a' := ?_) ?_ ?_
      rotate_left
      · show Act.put _ (some 2) _ = _
        simp only [Act.put, List.setIfInBounds_toArray, List.set_cons_zero, List.set_cons_succ, i64_w, i32_w]
        rfl
      refine one_ (i := 2) (N := some 8) #[true, true, true, true, false, false, false, true, false] rfl rfl (one_of HT_.out (by kernel_rfl)) (by decide) (fun K hK => ?_)
      refine goes_ Try.func78 (by kernel_rfl) rfl #[.agg #[.int .i64 0, .int .i64 0, .int .i64 3, .int .i64 1], .int .i64 4] (by rfl) rfl rfl (by (try simp only [List.map_toArray, List.map_cons, List.map_nil]); first | done | rfl) ?_
      refine (cell_Leaf.calls 0 0 3 1 4 1 0 0 3 1 4 [] _ rfl).mono ?_
      rintro e wl ⟨v, rfl, ho, hb⟩
      refine ⟨_, rfl, ?_⟩
      obtain ⟨A8, c8, ev⟩ := Kd.R_slice ho
      subst ev
      have q_ := Aside0.mk (below_step D.out hb)
      clear D
      have D := q_
      clear q_
      have q_ := Aside0.mk (blk_below K9.out hb)
      clear K9
      have K9 := q_
      clear q_
      clear ho hb
      refine hK.out _ _ (blk_below Kb1.out D.out) (fun hHeld => ?_)
      clear hK K
      refine norm_ (a' := ?_) ?_ ?_
      rotate_left
      · show Act.put _ (some 8) _ = _
        simp only [Act.put, List.setIfInBounds_toArray, List.set_cons_zero, List.set_cons_succ, i64_w, i32_w]
        rfl
      refine one_ (i := 4) (N := some 10) #[true, true, true, true, true, false, false, true, false] rfl rfl (one_of HT_.out (by kernel_rfl)) (by decide) (fun K hK => ?_)
      refine goes_ Try.func78 (by kernel_rfl) rfl #[.agg #[.int .i64 0, .int .i64 0, .int .i64 3, .int .i64 1], .int .i64 7] (by rfl) rfl rfl (by (try simp only [List.map_toArray, List.map_cons, List.map_nil]); first | done | rfl) ?_
      refine (cell_Leaf.calls 0 0 3 1 7 1 0 0 3 1 7 [] _ rfl).mono ?_
      rintro e wl ⟨v, rfl, ho, hb⟩
      refine ⟨_, rfl, ?_⟩
      obtain ⟨A10, c10, ev⟩ := Kd.R_slice ho
      subst ev
      have q_ := Aside0.mk (below_step D.out hb)
      clear D
      have D := q_
      clear q_
      have q_ := Aside0.mk (blk_below K9.out hb)
      clear K9
      have K9 := q_
      clear q_
      clear ho hb
      refine hK.out _ _ (blk_below Kb1.out D.out) (fun hHeld => ?_)
      clear hK K
      refine norm_ (a' := ?_) ?_ ?_
      rotate_left
      · show Act.put _ (some 10) _ = _
        simp only [Act.put, List.setIfInBounds_toArray, List.set_cons_zero, List.set_cons_succ, i64_w, i32_w]
        rfl
      refine one_ (i := 5) (N := some 11) #[true, true, true, true, true, true, false, true, false] rfl rfl (one_of HT_.out (by kernel_rfl)) (by decide) (fun K hK => ?_)
      refine Kd.N_lit_step k26 _ 26 ?hg (N' := 11) ?hd (xs := ([(⟨1, ⟨0, 0, 3, 1⟩, 4, []⟩ : S26), (⟨1, ⟨0, 0, 3, 1⟩, 7, []⟩ : S26)] : List S26)) (inner := [.int .u8 1, .int .i64 0, .int .i64 0, .int .i64 3, .int .i64 1, .int .i64 4, .slice A8 ([] : List S26).length c8, .int .u8 1, .int .i64 0, .int .i64 0, .int .i64 3, .int .i64 1, .int .i64 7, .slice A10 ([] : List S26).length c10]) (ok := (fun k => k ≠ b9)) (okp := fun _ => False) ?hr ?hp (fun _ hk => hk.elim) (Nat.ne_of_gt (blk_lt K9.out)) (Below.refl _ _) (Nat.le_refl _) (by simp) ?_; (case hd => rfl); (case hg => rfl); (case hr => first | (go_simp; done) | (go_simp; rfl)); (case hp => exact (Reps.c7 (FK_leaf _ _ 1 ⟨0, 0, 3, 1⟩ 4 A8 c8) (Reps.c7 (FK_leaf _ _ 1 ⟨0, 0, 3, 1⟩ 7 A10 c10) (Reps.none _ _))))
      intro v11 wl ho hb hg_ hnew_
      clear hg_ hnew_
      obtain ⟨Ak, ck, ev⟩ := Kd.N_slice ho
      subst ev
      have q_ := Aside0.mk (below_step D.out hb)
      clear D
      have D := q_
      clear q_
      have q_ := Aside0.mk (blk_below K9.out hb)
      clear K9
      have K9 := q_
      clear q_
      have HV := Aside0.mk (Kd.V_mk (e := 26) (base := 0) (Kd.N_reads' ho).2.1 (Kd.N_F ho))
      clear ho hb
      refine hK.out _ _ (blk_below Kb1.out D.out) (fun hHeld => ?_)
      clear hK K
      refine norm_ (a' := ?_) ?_ ?_
      rotate_left
      · show Act.put _ (some 11) _ = _
        simp only [Act.put, List.setIfInBounds_toArray, List.set_cons_zero, List.set_cons_succ, i64_w, i32_w]
        rfl
      refine pure_ (i := 6) (N := some 12) (v := ?_) (a' := ?_) #[true, true, true, true, true, true, true, true, false] rfl rfl (any_of HT_.out (by kernel_rfl)) (fun _ _ _ h => h) (Or.inl ⟨by rfl, ?_⟩) ?_ ?_
      rotate_left
      · intro w'; go_simp; with_reducible rfl
      rotate_left
      · simp only [Act.put, List.setIfInBounds_toArray, List.set_cons_zero, List.set_cons_succ, i64_w, i32_w]
        rfl
      exact norm_ (by simp only [putAll, Act.put, List.setIfInBounds_toArray, List.set_cons_zero, List.set_cons_succ] <;> rfl) (hCont (.slice A8 ([] : List S26).length c8, .slice A10 ([] : List S26).length c10, .slice Ak ([(⟨1, ⟨0, 0, 3, 1⟩, 4, []⟩ : S26), (⟨1, ⟨0, 0, 3, 1⟩, 7, []⟩ : S26)] : List S26).length ck, b9) _ ⟨D.out, HV.out, K9.out, G9.out⟩)
  rintro ⟨v8, v10, v11, b9⟩ wj ⟨hbj, hvb, hk9, hg9⟩
  obtain ⟨Ak, ck, eb, lb, fb⟩ := hvb
  dsimp only at eb
  subst eb
  simp only [putAll, Act.put, List.setIfInBounds_toArray, List.set_cons_zero, List.set_cons_succ]
  have HBK := Aside0.mk fb
  have LB := Aside0.mk lb
  have K9 := Aside0.mk hk9
  have G9 := Aside0.mk hg9
  have D := Aside0.mk hbj
  clear fb lb hk9 hg9 hbj hHeld
  obtain ⟨w9, hw9⟩ : ∃ w9, w9 = wj.setCells b9 0 [.int .u8 2, .int .i64 0, .int .i64 0, .int .i64 3, .int .i64 1, .int .i64 0, .slice Ak ([(⟨1, ⟨0, 0, 3, 1⟩, 4, []⟩ : S26), (⟨1, ⟨0, 0, 3, 1⟩, 7, []⟩ : S26)] : List S26).length ck] := ⟨_, rfl⟩
  have hst := box_cells (j := 0) (cs' := #[.int .u8 2, .int .i64 0, .int .i64 0, .int .i64 3, .int .i64 1, .int .i64 0, .slice Ak ([(⟨1, ⟨0, 0, 3, 1⟩, 4, []⟩ : S26), (⟨1, ⟨0, 0, 3, 1⟩, 7, []⟩ : S26)] : List S26).length ck]) (seg := [.int .u8 2, .int .i64 0, .int .i64 0, .int .i64 3, .int .i64 1, .int .i64 0, .slice Ak ([(⟨1, ⟨0, 0, 3, 1⟩, 4, []⟩ : S26), (⟨1, ⟨0, 0, 3, 1⟩, 7, []⟩ : S26)] : List S26).length ck]) K9.out (by first | decide | simp) rfl
  rw [← hw9] at hst
  refine last_ (i := 8) (N := none) #[true, true, true, true, true, true, true, true, true] rfl rfl (one_of HT_.out (by kernel_rfl)) (by decide) (fun K hK => ?_)
  refine skip_ (w1 := w9) (by rfl) rfl ?_ ?_
  · rw [hw9]; exact store_exec 26 (.tmp 2) (.tmp 12) rfl (cs := #[.int .u8 0, .int .i64 0, .int .i64 0, .int .i64 0, .int .i64 0, .int .i64 0, .slice none 0 0]) (t0 := 26) (seg := [.int .u8 2, .int .i64 0, .int .i64 0, .int .i64 3, .int .i64 1, .int .i64 0, .slice Ak ([(⟨1, ⟨0, 0, 3, 1⟩, 4, []⟩ : S26), (⟨1, ⟨0, 0, 3, 1⟩, 7, []⟩ : S26)] : List S26).length ck]) rfl rfl rfl (by kernel_rfl) (by simp [Value.oneCell']) K9.out (by first | decide | simp)
  refine hK.out _ _ ?_
  clear hK K hw9
  have hb := grown_below D.out hst.2 G9.out D.out.size
  have HC := Aside0.mk (Kd.F_now (Kd.F_grown HBK.out hst.2 (fun k hk e_ => hk (Option.some.inj e_))))
  have K9b := Aside0.mk hst.1
  have qKb1_ := Aside0.mk (blk_below Kb1.out hb); have qHB_ := Aside0.mk (below_step HB.out hb); clear Kb1 HB; have Kb1 := qKb1_; have HB := qHB_; clear qKb1_ qHB_
  clear hb hst D K9 G9 HBK
  refine done_ (done_of HT_.out (by kernel_rfl)) ?_
  clear Kb1
  have c9_0 := (blk_cell K9b.out 0).trans rfl
  have c9_1 := (blk_cell K9b.out 1).trans rfl
  have c9_2 := (blk_cell K9b.out 2).trans rfl
  have c9_3 := (blk_cell K9b.out 3).trans rfl
  have c9_4 := (blk_cell K9b.out 4).trans rfl
  have c9_5 := (blk_cell K9b.out 5).trans rfl
  have c9_6 := (blk_cell K9b.out 6).trans rfl
  go_wp2_with fail
  clear c9_0 c9_1 c9_2 c9_3 c9_4 c9_5 c9_6
  refine (cell_Find.calls 2 0 0 3 1 0 Ak ck ([(⟨1, ⟨0, 0, 3, 1⟩, 4, []⟩ : S26), (⟨1, ⟨0, 0, 3, 1⟩, 7, []⟩ : S26)] : List S26) 7 [1] true _ HC.out LB.out F1.out).mono ?_
  rintro e wk2 ⟨vp, rfl, ho, hb⟩
  have qHC_ := Aside0.mk (Kd.C_below HC.out hb); have qK9b_ := Aside0.mk (blk_below K9b.out hb); have qHB_ := Aside0.mk (below_step HB.out hb); clear HC K9b HB; have HC := qHC_; have K9b := qK9b_; have HB := qHB_; clear qHC_ qK9b_ qHB_
  obtain ⟨Ap, cp, ep⟩ := Kd.R_slice ho
  subst ep
  have HP := Aside0.mk (Kd.R_reads' ho).2.2
  have LP := Aside0.mk (Kd.R_reads' ho).2.1
  clear ho
  clear hb
  go_wp2_with (first
    | ((with_reducible refine gate_dst (N := 21) rfl ?_); (try (refine gate_guard (by rfl) ?_; dsimp only)); refine Kd.R_lit (Kd.int .i64) _ 3 ?hg (N := 21) ?hd (xs := ([1] : List Int)) (inner := [.int .i64 1]) (ok := fun _ => True) (okp := fun _ => True) ?hr ?hp (fun _ hk => hk) trivial (Below.refl _ _) (Nat.le_refl _) (by simp) ?_; (case hd => rfl); (case hg => rfl); (case hr => first | (go_simp; done) | (go_simp; rfl)); (case hp => exact (Reps.one (show Kd.M (Kd.int .i64) _ _ _ 1 [.int .i64 1] from rfl) (Reps.none _ _))); intro vr wr ho hb hg_ hnew_; clear hg_ hnew_; obtain ⟨Ar, cr, er⟩ := Kd.R_slice ho; subst er; have qHC_ := Aside0.mk (Kd.C_below HC.out hb); have qHP_ := Aside0.mk (Kd.C_below HP.out hb); have qK9b_ := Aside0.mk (blk_below K9b.out hb); have qHB_ := Aside0.mk (below_step HB.out hb); clear HC HP K9b HB; have HC := qHC_; have HP := qHP_; have K9b := qK9b_; have HB := qHB_; clear qHC_ qHP_ qK9b_ qHB_; have HR := Aside0.mk (Kd.R_reads' ho).2.2; have LR := Aside0.mk (Kd.R_reads' ho).2.1; clear ho hb)
    | fail)
  refine (sashref05_Ints.calls 4 Ap cp [1] Ar cr [1] true _ HP.out LP.out HR.out LR.out J1.out).mono ?_
  rintro e wz ⟨rfl, hd⟩
  have hb := hd.below
  clear hd
  have qHC_ := Aside0.mk (Kd.C_below HC.out hb); have qHP_ := Aside0.mk (Kd.C_below HP.out hb); have qK9b_ := Aside0.mk (blk_below K9b.out hb); have qHB_ := Aside0.mk (below_step HB.out hb); clear HC HP K9b HB; have HC := qHC_; have HP := qHP_; have K9b := qK9b_; have HB := qHB_; clear qHC_ qHP_ qK9b_ qHB_
  clear hb HR LR
  have c9_0 := (blk_cell K9b.out 0).trans rfl
  have c9_1 := (blk_cell K9b.out 1).trans rfl
  have c9_2 := (blk_cell K9b.out 2).trans rfl
  have c9_3 := (blk_cell K9b.out 3).trans rfl
  have c9_4 := (blk_cell K9b.out 4).trans rfl
  have c9_5 := (blk_cell K9b.out 5).trans rfl
  have c9_6 := (blk_cell K9b.out 6).trans rfl
  go_wp2_with (first
    | ((with_reducible refine gate_dst (N := 26) rfl ?_); (try (refine gate_guard (by rfl) ?_; dsimp only)); refine Kd.N_lit k26 _ 26 ?hg (N' := 26) ?hd (xs := ([⟨2, ⟨0, 0, 3, 1⟩, 0, ([(⟨1, ⟨0, 0, 3, 1⟩, 4, []⟩ : S26), (⟨1, ⟨0, 0, 3, 1⟩, 7, []⟩ : S26)] : List S26)⟩] : List S26)) (inner := [.int .u8 2, .int .i64 0, .int .i64 0, .int .i64 3, .int .i64 1, .int .i64 0, .slice Ak ([(⟨1, ⟨0, 0, 3, 1⟩, 4, []⟩ : S26), (⟨1, ⟨0, 0, 3, 1⟩, 7, []⟩ : S26)] : List S26).length ck]) (ok := fun _ => True) (okp := fun _ => True) ?hr ?hp (fun _ hk => hk) trivial (Below.refl _ _) (Nat.le_refl _) (by simp) ?_; (case hd => rfl); (case hg => rfl); (case hr => first | (go_simp; done) | (go_simp; rfl)); (case hp => exact (Reps.c7 (k26_mkF _ _ (⟨2, ⟨0, 0, 3, 1⟩, 0, ([(⟨1, ⟨0, 0, 3, 1⟩, 4, []⟩ : S26), (⟨1, ⟨0, 0, 3, 1⟩, 7, []⟩ : S26)] : List S26)⟩ : S26) LB.out (Kd.F_mono (Kd.C_F k26_heap HC.out) (fun _ _ => trivial))) (Reps.none _ _))); intro vr wr ho hb hg_ hnew_; clear hg_ hnew_; obtain ⟨Am, cm, er⟩ := Kd.N_slice ho; subst er; have qHC_ := Aside0.mk (Kd.C_below HC.out hb); have qHP_ := Aside0.mk (Kd.C_below HP.out hb); have qK9b_ := Aside0.mk (blk_below K9b.out hb); have qHB_ := Aside0.mk (below_step HB.out hb); clear HC HP K9b HB; have HC := qHC_; have HP := qHP_; have K9b := qK9b_; have HB := qHB_; clear qHC_ qHP_ qK9b_ qHB_; have Hm := Aside0.mk (Kd.N_reads' ho).2.2; have Lm := Aside0.mk (Kd.N_reads' ho).2.1; clear ho hb)
    | fail)
  clear c9_0 c9_1 c9_2 c9_3 c9_4 c9_5 c9_6
  refine (cell_May.calls Am cm ([⟨2, ⟨0, 0, 3, 1⟩, 0, ([(⟨1, ⟨0, 0, 3, 1⟩, 4, []⟩ : S26), (⟨1, ⟨0, 0, 3, 1⟩, 7, []⟩ : S26)] : List S26)⟩] : List S26) true _ Hm.out Lm.out M1.out).mono ?_
  rintro e wk3 ⟨rfl, hb⟩
  have qHC_ := Aside0.mk (Kd.C_below HC.out hb); have qHP_ := Aside0.mk (Kd.C_below HP.out hb); have qK9b_ := Aside0.mk (blk_below K9b.out hb); have qHB_ := Aside0.mk (below_step HB.out hb); clear HC HP K9b HB; have HC := qHC_; have HP := qHP_; have K9b := qK9b_; have HB := qHB_; clear qHC_ qHP_ qK9b_ qHB_
  clear hb
  have c9_0 := (blk_cell K9b.out 0).trans rfl
  have c9_1 := (blk_cell K9b.out 1).trans rfl
  have c9_2 := (blk_cell K9b.out 2).trans rfl
  have c9_3 := (blk_cell K9b.out 3).trans rfl
  have c9_4 := (blk_cell K9b.out 4).trans rfl
  have c9_5 := (blk_cell K9b.out 5).trans rfl
  have c9_6 := (blk_cell K9b.out 6).trans rfl
  go_wp2_with (first
    | ((with_reducible refine gate_dst (N := 31) rfl ?_); (try (refine gate_guard (by rfl) ?_; dsimp only)); refine Kd.N_lit k26 _ 26 ?hg (N' := 31) ?hd (xs := ([⟨2, ⟨0, 0, 3, 1⟩, 0, ([(⟨1, ⟨0, 0, 3, 1⟩, 4, []⟩ : S26), (⟨1, ⟨0, 0, 3, 1⟩, 7, []⟩ : S26)] : List S26)⟩] : List S26)) (inner := [.int .u8 2, .int .i64 0, .int .i64 0, .int .i64 3, .int .i64 1, .int .i64 0, .slice Ak ([(⟨1, ⟨0, 0, 3, 1⟩, 4, []⟩ : S26), (⟨1, ⟨0, 0, 3, 1⟩, 7, []⟩ : S26)] : List S26).length ck]) (ok := fun _ => True) (okp := fun _ => True) ?hr ?hp (fun _ hk => hk) trivial (Below.refl _ _) (Nat.le_refl _) (by simp) ?_; (case hd => rfl); (case hg => rfl); (case hr => first | (go_simp; done) | (go_simp; rfl)); (case hp => exact (Reps.c7 (k26_mkF _ _ (⟨2, ⟨0, 0, 3, 1⟩, 0, ([(⟨1, ⟨0, 0, 3, 1⟩, 4, []⟩ : S26), (⟨1, ⟨0, 0, 3, 1⟩, 7, []⟩ : S26)] : List S26)⟩ : S26) LB.out (Kd.F_mono (Kd.C_F k26_heap HC.out) (fun _ _ => trivial))) (Reps.none _ _))); intro vr wr ho hb hg_ hnew_; clear hg_ hnew_; obtain ⟨As, cs, er⟩ := Kd.N_slice ho; subst er; have qHC_ := Aside0.mk (Kd.C_below HC.out hb); have qHP_ := Aside0.mk (Kd.C_below HP.out hb); have qK9b_ := Aside0.mk (blk_below K9b.out hb); have qHB_ := Aside0.mk (below_step HB.out hb); clear HC HP K9b HB; have HC := qHC_; have HP := qHP_; have K9b := qK9b_; have HB := qHB_; clear qHC_ qHP_ qK9b_ qHB_; have Hs := Aside0.mk (Kd.N_reads' ho).2.2; have Ls := Aside0.mk (Kd.N_reads' ho).2.1; clear ho hb)
    | fail)
  clear c9_0 c9_1 c9_2 c9_3 c9_4 c9_5 c9_6
  refine (cell_Size.calls ks As cs ([⟨2, ⟨0, 0, 3, 1⟩, 0, ([(⟨1, ⟨0, 0, 3, 1⟩, 4, []⟩ : S26), (⟨1, ⟨0, 0, 3, 1⟩, 7, []⟩ : S26)] : List S26)⟩] : List S26) 3 _ Hs.out Ls.out S1.out).mono ?_
  rintro e wk4 ⟨rfl, hb⟩
  have qHC_ := Aside0.mk (Kd.C_below HC.out hb); have qHP_ := Aside0.mk (Kd.C_below HP.out hb); have qK9b_ := Aside0.mk (blk_below K9b.out hb); have qHB_ := Aside0.mk (below_step HB.out hb); clear HC HP K9b HB; have HC := qHC_; have HP := qHP_; have K9b := qK9b_; have HB := qHB_; clear qHC_ qHP_ qK9b_ qHB_
  clear hb
  go_wp2
  go_ret
  exact ⟨rfl, HB.out⟩
def sashlaw05_awake.f : Option Bool := some true
theorem sashlaw05_awake.calls (r : Bool) (w : World) (h : sashlaw05_awake.f = some r) :
    Calls Try.prog 75 #[] w fun e w' => e = .returned (.bool r) ∧ Below w.heap.size w w' := by
  injection h with h
  subst h
  exact awake75 w
end Go.Proofs.Ytfdmfgaiblfbhaa.P
namespace Go.Proofs.Ytfdmfgaiblfbhaa.P
open Go.RowKit Go.Proofs.YtfdmfgaiblfbhaaW.PrintWords Go.Proofs.YtfdmfgaiblfbhaaW.PrintLast Go.Proofs.YtfdmfgaiblfbhaaW.PrintMore
attribute [local go_sem] max2_int min2_int max_two min_two max_three min_three max_four min_four   -- for this text's walks alone
set_option linter.unusedVariables false
set_option linter.unusedSimpArgs false

theorem eqA23 (d : Nat) (w : World) (x0 y0 : Int) (x1 y1 : Int) (x2 y2 : Int) (x3 y3 : Int) :
    (Op.equalIn (d + 2) 23 (.agg #[.int .i64 x0, .int .i64 x1, .int .i64 x2, .int .i64 x3]) (.agg #[.int .i64 y0, .int .i64 y1, .int .i64 y2, .int .i64 y3])).run Try.prog w = .ok (x0 == y0 && (x1 == y1 && (x2 == y2 && (x3 == y3)))) w := by
  refine eqA_of Try.underlying23 (by kernel_rfl) ?_
  refine eqf_cons (by rfl) (by go_simp; rfl) (by go_simp; rfl) (by go_simp) ?_
  refine eqf_cons (by rfl) (by go_simp; rfl) (by go_simp; rfl) (by go_simp) ?_
  refine eqf_cons (by rfl) (by go_simp; rfl) (by go_simp; rfl) (by go_simp) ?_
  exact eqf_last (by rfl) (by go_simp; rfl) (by go_simp; rfl) (by go_simp)
end Go.Proofs.Ytfdmfgaiblfbhaa.P
namespace Go.Proofs.Ytfdmfgaiblfbhaa.P
open Go.RowKit Go.Proofs.YtfdmfgaiblfbhaaW.PrintWords Go.Proofs.YtfdmfgaiblfbhaaW.PrintLast Go.Proofs.YtfdmfgaiblfbhaaW.PrintMore
attribute [local go_sem] max2_int min2_int max_two min_two max_three min_three max_four min_four   -- for this text's walks alone
set_option linter.unusedVariables false
set_option linter.unusedSimpArgs false

attribute [local go_sem high] eqA23
/-! ### sashref05_Same: function 64 -/
mutual
def sashref05_Same.j0 : Nat → Bool → Int → Int → Int → Int → Int → Int → List (S26) → Int → Int → Int → Int → Int → Int → List (S26) → Option (Bool)
 | 0, _, _, _, _, _, _, _, _, _, _, _, _, _, _, _ => none
 | k + 1, x33, x601000, x601001, x601002, x601003, x601004, x601005, x601006, x602000, x602001, x602002, x602003, x602004, x602005, x602006 => if x33 = true then (some false) else (sashref05_Same.l0 k (x601006.length : Int) 0 x601000 x601001 x601002 x601003 x601004 x601005 x601006 x602000 x602001 x602002 x602003 x602004 x602005 x602006)
def sashref05_Same.l0 : Nat → Int → Int → Int → Int → Int → Int → Int → Int → List (S26) → Int → Int → Int → Int → Int → Int → List (S26) → Option (Bool)
 | 0, _, _, _, _, _, _, _, _, _, _, _, _, _, _, _, _ => none
 | k + 1, x36, x37, x601000, x601001, x601002, x601003, x601004, x601005, x601006, x602000, x602001, x602002, x602003, x602004, x602005, x602006 => if x37 < x36 then (if 0 ≤ x37 then (if x37 < (x601006.length : Int) then (if x37 < (x602006.length : Int) then ((sashref05_Same.f k ((rd_T26 x601006 x37).f0) ((rd_T26 x601006 x37).f1.f0) ((rd_T26 x601006 x37).f1.f1) ((rd_T26 x601006 x37).f1.f2) ((rd_T26 x601006 x37).f1.f3) ((rd_T26 x601006 x37).f2) ((rd_T26 x601006 x37).f3) ((rd_T26 x602006 x37).f0) ((rd_T26 x602006 x37).f1.f0) ((rd_T26 x602006 x37).f1.f1) ((rd_T26 x602006 x37).f1.f2) ((rd_T26 x602006 x37).f1.f3) ((rd_T26 x602006 x37).f2) ((rd_T26 x602006 x37).f3)).bind fun t604 => (if t604 = true then (sashref05_Same.l0 k x36 (wrap64 (x37 + 1)) x601000 x601001 x601002 x601003 x601004 x601005 x601006 x602000 x602001 x602002 x602003 x602004 x602005 x602006) else (some false))) else (none)) else (none)) else (none)) else (some true)
def sashref05_Same.f : Nat → Int → Int → Int → Int → Int → Int → List (S26) → Int → Int → Int → Int → Int → Int → List (S26) → Option (Bool)
 | 0, _, _, _, _, _, _, _, _, _, _, _, _, _, _ => none
 | k + 1, a0_0, a0_1, a0_2, a0_3, a0_4, a0_5, l0_6, a1_0, a1_1, a1_2, a1_3, a1_4, a1_5, l1_6 => if a0_0 = a1_0 then (if (!(a0_1 == a1_1) || (!(a0_2 == a1_2) || (!(a0_3 == a1_3) || (!(a0_4 == a1_4))))) = true then (sashref05_Same.j0 k true a0_0 a0_1 a0_2 a0_3 a0_4 a0_5 l0_6 a1_0 a1_1 a1_2 a1_3 a1_4 a1_5 l1_6) else (if a0_5 = a1_5 then (sashref05_Same.j0 k ((l0_6.length : Int) != (l1_6.length : Int)) a0_0 a0_1 a0_2 a0_3 a0_4 a0_5 l0_6 a1_0 a1_1 a1_2 a1_3 a1_4 a1_5 l1_6) else (sashref05_Same.j0 k true a0_0 a0_1 a0_2 a0_3 a0_4 a0_5 l0_6 a1_0 a1_1 a1_2 a1_3 a1_4 a1_5 l1_6))) else (sashref05_Same.j0 k true a0_0 a0_1 a0_2 a0_3 a0_4 a0_5 l0_6 a1_0 a1_1 a1_2 a1_3 a1_4 a1_5 l1_6)
end
def sashref05_Same.T6 : Bool × List (List Nat × List Nat) := (true, [([], []), ([0], [0]), ([], []), ([1, 2], [1, 2]), ([3], [3]), ([], []), ([5], [5]), ([], []), ([6, 7], [6, 7]), ([8], [8]), ([4, 9], [4, 9]), ([10], [10])])
def sashref05_Same.B6 : List Nat := [0, 1, 0, 7, 15, 0, 32, 0, 224, 480, 1023, 2047]
theorem sashref05_Same.tab6 : rtab .any (opsOf Try.f64 6) = sashref05_Same.T6 := by kernel_rfl
theorem sashref05_Same.bits6 : waitsOk sashref05_Same.T6.2 sashref05_Same.B6 = true := by kernel_rfl
set_option maxHeartbeats 8000000 in
set_option maxRecDepth 100000 in
theorem sashref05_Same.calls (k : Nat) : ∀ (a0_0 : Int) (a0_1 : Int) (a0_2 : Int) (a0_3 : Int) (a0_4 : Int) (a0_5 : Int) (A0_6 : Option Addr) (c0_6 : Nat) (l0_6 : List (S26)) (a1_0 : Int) (a1_1 : Int) (a1_2 : Int) (a1_3 : Int) (a1_4 : Int) (a1_5 : Int) (A1_6 : Option Addr) (c1_6 : Nat) (l1_6 : List (S26)) (r : Bool) (w : World) (hr0_6 : Kd.C k26 w A0_6 l0_6.length l0_6) (hc0_6 : l0_6.length ≤ c0_6) (hr1_6 : Kd.C k26 w A1_6 l1_6.length l1_6) (hc1_6 : l1_6.length ≤ c1_6) (h : sashref05_Same.f k a0_0 a0_1 a0_2 a0_3 a0_4 a0_5 l0_6 a1_0 a1_1 a1_2 a1_3 a1_4 a1_5 l1_6 = some r),
  Calls Try.prog 64 #[.agg #[.int .u8 a0_0, .int .i64 a0_1, .int .i64 a0_2, .int .i64 a0_3, .int .i64 a0_4, .int .i64 a0_5, .slice A0_6 l0_6.length c0_6], .agg #[.int .u8 a1_0, .int .i64 a1_1, .int .i64 a1_2, .int .i64 a1_3, .int .i64 a1_4, .int .i64 a1_5, .slice A1_6 l1_6.length c1_6]] w fun e w' => e = .returned (.bool r) ∧ Below w.heap.size w w' := by
 induction k using Nat.strongRecOn with
 | _ k ih =>
 intro a0_0 a0_1 a0_2 a0_3 a0_4 a0_5 A0_6 c0_6 l0_6 a1_0 a1_1 a1_2 a1_3 a1_4 a1_5 A1_6 c1_6 l1_6 r w hr0_6 hc0_6 hr1_6 hc1_6 h
 cases k with
 | zero => exact absurd h (by simp [sashref05_Same.f])
 | succ k =>
 simp only [sashref05_Same.f] at h
 have hu26 := Try.underlying26
 have hu23 := Try.underlying23
 have HR0_6 := Aside0.mk hr0_6
 clear hr0_6 hc0_6
 have HR1_6 := Aside0.mk hr1_6
 clear hr1_6 hc1_6
 have HB := Aside0.mk (Below.refl w.heap.size w)
 have H : (if a0_0 = a1_0 then (if (!(a0_1 == a1_1) || (!(a0_2 == a1_2) || (!(a0_3 == a1_3) || (!(a0_4 == a1_4))))) = true then (sashref05_Same.j0 k true a0_0 a0_1 a0_2 a0_3 a0_4 a0_5 l0_6 a1_0 a1_1 a1_2 a1_3 a1_4 a1_5 l1_6) else (if a0_5 = a1_5 then (sashref05_Same.j0 k ((l0_6.length : Int) != (l1_6.length : Int)) a0_0 a0_1 a0_2 a0_3 a0_4 a0_5 l0_6 a1_0 a1_1 a1_2 a1_3 a1_4 a1_5 l1_6) else (sashref05_Same.j0 k true a0_0 a0_1 a0_2 a0_3 a0_4 a0_5 l0_6 a1_0 a1_1 a1_2 a1_3 a1_4 a1_5 l1_6))) else (sashref05_Same.j0 k true a0_0 a0_1 a0_2 a0_3 a0_4 a0_5 l0_6 a1_0 a1_1 a1_2 a1_3 a1_4 a1_5 l1_6)) = some r := h
 clear h
 have HC3 := Aside0.mk H
 clear H
 go_enter Try.func64, Try.ntmps64
 go_upto_region 1 with (first | ((with_reducible refine gate_dst (N := 2) rfl ?_); (try (refine gate_guard (by rfl) ?_; dsimp only)); refine box_event ?hg (N := 2) ?hd (cs := #[.int .u8 a0_0, .int .i64 a0_1, .int .i64 a0_2, .int .i64 a0_3, .int .i64 a0_4, .int .i64 a0_5, .slice A0_6 l0_6.length c0_6]) (t := 26) ?hr ?_; (case hd => rfl); (case hg => rfl); (case hr => (go_simp; done)); intro gb600 hg w4 hbox hb; have BK600 := Aside0.mk (hbox); replace HB := Aside0.mk (below_step (by repeat ((with_reducible exact HB.out))) hb); clear hb hbox hg) | ((with_reducible refine gate_dst (N := 3) rfl ?_); (try (refine gate_guard (by rfl) ?_; dsimp only)); refine box_event ?hg (N := 3) ?hd (cs := #[.int .u8 a1_0, .int .i64 a1_1, .int .i64 a1_2, .int .i64 a1_3, .int .i64 a1_4, .int .i64 a1_5, .slice A1_6 l1_6.length c1_6]) (t := 26) ?hr ?_; (case hd => rfl); (case hg => rfl); (case hr => (go_simp; done)); intro gb601 hg w5 hbox hb; have BK601 := Aside0.mk (hbox); have NB600_601 := Aside0.mk ((by rw [hg]; exact Nat.ne_of_lt (blk_lt BK600.out) : gb600 ≠ gb601)); have NB601_600 := Aside0.mk ((by rw [hg]; exact Nat.ne_of_gt (blk_lt BK600.out) : gb601 ≠ gb600)); replace BK600 := Aside0.mk (blk_below BK600.out hb); replace HB := Aside0.mk (below_step (by repeat ((with_reducible exact HB.out))) hb); clear hb hbox hg))
 (skip)
 go_cut [33] (fun v33 wc => ∃ (kq : Nat) (x33_2 : Bool), v33 = .bool x33_2 ∧ Aside0 (sashref05_Same.j0 kq x33_2 a0_0 a0_1 a0_2 a0_3 a0_4 a0_5 l0_6 a1_0 a1_1 a1_2 a1_3 a1_4 a1_5 l1_6 = some r) ∧ Aside0 (kq ≤ k) ∧ Aside0 (wc.heap[gb600]? = some (.cells #[.int .u8 a0_0, .int .i64 a0_1, .int .i64 a0_2, .int .i64 a0_3, .int .i64 a0_4, .int .i64 a0_5, (.slice A0_6 l0_6.length c0_6)] 26 (0, 0))) ∧ Aside0 (wc.heap[gb601]? = some (.cells #[.int .u8 a1_0, .int .i64 a1_1, .int .i64 a1_2, .int .i64 a1_3, .int .i64 a1_4, .int .i64 a1_5, (.slice A1_6 l1_6.length c1_6)] 26 (0, 0))) ∧ Aside0 (Below w.heap.size w wc))
 case first =>
  have H := HC3.out
  clear HC3
  by_cases c6 : a0_0 = a1_0
  ·rw [if_pos c6] at H
   have c6b0 : (a0_0 == a1_0) = true := beq_iff_eq.mpr c6
   have c6b1 : (a0_0 != a1_0) = false := bne_eq_false_iff_eq.mpr c6
   clear c6
   (skip)
   by_cases c7 : (!(a0_1 == a1_1) || (!(a0_2 == a1_2) || (!(a0_3 == a1_3) || (!(a0_4 == a1_4))))) = true
   ·rw [if_pos c7] at H
    have c7b0 : (!(a0_1 == a1_1) || (!(a0_2 == a1_2) || (!(a0_3 == a1_3) || (!(a0_4 == a1_4))))) = true := c7
    clear c7
    have H' := Aside0.mk H
    clear H
    have hnb8 := NB600_601.out
    have hnc8 := NB601_600.out
    have hcz9_0 : w5.cell? ⟨gb600, 0, none⟩ = some (.int .u8 a0_0) := (blk_cell BK600.out 0).trans rfl
    have hcz9_1 : w5.cell? ⟨gb600, 1, none⟩ = some (.int .i64 a0_1) := (blk_cell BK600.out 1).trans rfl
    have hcz9_2 : w5.cell? ⟨gb600, 2, none⟩ = some (.int .i64 a0_2) := (blk_cell BK600.out 2).trans rfl
    have hcz9_3 : w5.cell? ⟨gb600, 3, none⟩ = some (.int .i64 a0_3) := (blk_cell BK600.out 3).trans rfl
    have hcz9_4 : w5.cell? ⟨gb600, 4, none⟩ = some (.int .i64 a0_4) := (blk_cell BK600.out 4).trans rfl
    have hcz9_5 : w5.cell? ⟨gb600, 5, none⟩ = some (.int .i64 a0_5) := (blk_cell BK600.out 5).trans rfl
    have hcz9_6 : w5.cell? ⟨gb600, 6, none⟩ = some (.slice A0_6 l0_6.length c0_6) := (blk_cell BK600.out 6).trans rfl
    have hfz9_0 := blk_frozen BK600.out 0
    have hfz9_1 := blk_frozen BK600.out 1
    have hfz9_2 := blk_frozen BK600.out 2
    have hfz9_3 := blk_frozen BK600.out 3
    have hfz9_4 := blk_frozen BK600.out 4
    have hfz9_5 := blk_frozen BK600.out 5
    have hfz9_6 := blk_frozen BK600.out 6
    have hcz10_0 : w5.cell? ⟨gb601, 0, none⟩ = some (.int .u8 a1_0) := (blk_cell BK601.out 0).trans rfl
    have hcz10_1 : w5.cell? ⟨gb601, 1, none⟩ = some (.int .i64 a1_1) := (blk_cell BK601.out 1).trans rfl
    have hcz10_2 : w5.cell? ⟨gb601, 2, none⟩ = some (.int .i64 a1_2) := (blk_cell BK601.out 2).trans rfl
    have hcz10_3 : w5.cell? ⟨gb601, 3, none⟩ = some (.int .i64 a1_3) := (blk_cell BK601.out 3).trans rfl
    have hcz10_4 : w5.cell? ⟨gb601, 4, none⟩ = some (.int .i64 a1_4) := (blk_cell BK601.out 4).trans rfl
    have hcz10_5 : w5.cell? ⟨gb601, 5, none⟩ = some (.int .i64 a1_5) := (blk_cell BK601.out 5).trans rfl
    have hcz10_6 : w5.cell? ⟨gb601, 6, none⟩ = some (.slice A1_6 l1_6.length c1_6) := (blk_cell BK601.out 6).trans rfl
    have hfz10_0 := blk_frozen BK601.out 0
    have hfz10_1 := blk_frozen BK601.out 1
    have hfz10_2 := blk_frozen BK601.out 2
    have hfz10_3 := blk_frozen BK601.out 3
    have hfz10_4 := blk_frozen BK601.out 4
    have hfz10_5 := blk_frozen BK601.out 5
    have hfz10_6 := blk_frozen BK601.out 6
    go_wp2
    go_meet
    case rel => exact ⟨_, (true), (by rfl), H', ⟨by omega⟩, ⟨by exact BK600.out⟩, ⟨by exact BK601.out⟩, ⟨by repeat ((with_reducible exact HB.out))⟩⟩
   ·rw [if_neg c7] at H
    have c7b0 : (!(a0_1 == a1_1) || (!(a0_2 == a1_2) || (!(a0_3 == a1_3) || (!(a0_4 == a1_4))))) = false := by simpa using c7
    clear c7
    by_cases c11 : a0_5 = a1_5
    ·rw [if_pos c11] at H
     have c11b0 : (a0_5 == a1_5) = true := beq_iff_eq.mpr c11
     have c11b1 : (a0_5 != a1_5) = false := bne_eq_false_iff_eq.mpr c11
     clear c11
     have H' := Aside0.mk H
     clear H
     have hnb12 := NB600_601.out
     have hnc12 := NB601_600.out
     have hcz13_0 : w5.cell? ⟨gb600, 0, none⟩ = some (.int .u8 a0_0) := (blk_cell BK600.out 0).trans rfl
     have hcz13_1 : w5.cell? ⟨gb600, 1, none⟩ = some (.int .i64 a0_1) := (blk_cell BK600.out 1).trans rfl
     have hcz13_2 : w5.cell? ⟨gb600, 2, none⟩ = some (.int .i64 a0_2) := (blk_cell BK600.out 2).trans rfl
     have hcz13_3 : w5.cell? ⟨gb600, 3, none⟩ = some (.int .i64 a0_3) := (blk_cell BK600.out 3).trans rfl
     have hcz13_4 : w5.cell? ⟨gb600, 4, none⟩ = some (.int .i64 a0_4) := (blk_cell BK600.out 4).trans rfl
     have hcz13_5 : w5.cell? ⟨gb600, 5, none⟩ = some (.int .i64 a0_5) := (blk_cell BK600.out 5).trans rfl
     have hcz13_6 : w5.cell? ⟨gb600, 6, none⟩ = some (.slice A0_6 l0_6.length c0_6) := (blk_cell BK600.out 6).trans rfl
     have hfz13_0 := blk_frozen BK600.out 0
     have hfz13_1 := blk_frozen BK600.out 1
     have hfz13_2 := blk_frozen BK600.out 2
     have hfz13_3 := blk_frozen BK600.out 3
     have hfz13_4 := blk_frozen BK600.out 4
     have hfz13_5 := blk_frozen BK600.out 5
     have hfz13_6 := blk_frozen BK600.out 6
     have hcz14_0 : w5.cell? ⟨gb601, 0, none⟩ = some (.int .u8 a1_0) := (blk_cell BK601.out 0).trans rfl
     have hcz14_1 : w5.cell? ⟨gb601, 1, none⟩ = some (.int .i64 a1_1) := (blk_cell BK601.out 1).trans rfl
     have hcz14_2 : w5.cell? ⟨gb601, 2, none⟩ = some (.int .i64 a1_2) := (blk_cell BK601.out 2).trans rfl
     have hcz14_3 : w5.cell? ⟨gb601, 3, none⟩ = some (.int .i64 a1_3) := (blk_cell BK601.out 3).trans rfl
     have hcz14_4 : w5.cell? ⟨gb601, 4, none⟩ = some (.int .i64 a1_4) := (blk_cell BK601.out 4).trans rfl
     have hcz14_5 : w5.cell? ⟨gb601, 5, none⟩ = some (.int .i64 a1_5) := (blk_cell BK601.out 5).trans rfl
     have hcz14_6 : w5.cell? ⟨gb601, 6, none⟩ = some (.slice A1_6 l1_6.length c1_6) := (blk_cell BK601.out 6).trans rfl
     have hfz14_0 := blk_frozen BK601.out 0
     have hfz14_1 := blk_frozen BK601.out 1
     have hfz14_2 := blk_frozen BK601.out 2
     have hfz14_3 := blk_frozen BK601.out 3
     have hfz14_4 := blk_frozen BK601.out 4
     have hfz14_5 := blk_frozen BK601.out 5
     have hfz14_6 := blk_frozen BK601.out 6
     go_wp2
     go_meet
     case rel => exact ⟨_, (((l0_6.length : Int) != (l1_6.length : Int))), (by rfl), H', ⟨by omega⟩, ⟨by exact BK600.out⟩, ⟨by exact BK601.out⟩, ⟨by repeat ((with_reducible exact HB.out))⟩⟩
    ·rw [if_neg c11] at H
     have c11b0 : (a0_5 == a1_5) = false := beq_eq_false_iff_ne.mpr c11
     have c11b1 : (a0_5 != a1_5) = true := bne_iff_ne.mpr c11
     have H' := Aside0.mk H
     clear H
     have hnb15 := NB600_601.out
     have hnc15 := NB601_600.out
     have hcz16_0 : w5.cell? ⟨gb600, 0, none⟩ = some (.int .u8 a0_0) := (blk_cell BK600.out 0).trans rfl
     have hcz16_1 : w5.cell? ⟨gb600, 1, none⟩ = some (.int .i64 a0_1) := (blk_cell BK600.out 1).trans rfl
     have hcz16_2 : w5.cell? ⟨gb600, 2, none⟩ = some (.int .i64 a0_2) := (blk_cell BK600.out 2).trans rfl
     have hcz16_3 : w5.cell? ⟨gb600, 3, none⟩ = some (.int .i64 a0_3) := (blk_cell BK600.out 3).trans rfl
     have hcz16_4 : w5.cell? ⟨gb600, 4, none⟩ = some (.int .i64 a0_4) := (blk_cell BK600.out 4).trans rfl
     have hcz16_5 : w5.cell? ⟨gb600, 5, none⟩ = some (.int .i64 a0_5) := (blk_cell BK600.out 5).trans rfl
     have hcz16_6 : w5.cell? ⟨gb600, 6, none⟩ = some (.slice A0_6 l0_6.length c0_6) := (blk_cell BK600.out 6).trans rfl
     have hfz16_0 := blk_frozen BK600.out 0
     have hfz16_1 := blk_frozen BK600.out 1
     have hfz16_2 := blk_frozen BK600.out 2
     have hfz16_3 := blk_frozen BK600.out 3
     have hfz16_4 := blk_frozen BK600.out 4
     have hfz16_5 := blk_frozen BK600.out 5
     have hfz16_6 := blk_frozen BK600.out 6
     have hcz17_0 : w5.cell? ⟨gb601, 0, none⟩ = some (.int .u8 a1_0) := (blk_cell BK601.out 0).trans rfl
     have hcz17_1 : w5.cell? ⟨gb601, 1, none⟩ = some (.int .i64 a1_1) := (blk_cell BK601.out 1).trans rfl
     have hcz17_2 : w5.cell? ⟨gb601, 2, none⟩ = some (.int .i64 a1_2) := (blk_cell BK601.out 2).trans rfl
     have hcz17_3 : w5.cell? ⟨gb601, 3, none⟩ = some (.int .i64 a1_3) := (blk_cell BK601.out 3).trans rfl
     have hcz17_4 : w5.cell? ⟨gb601, 4, none⟩ = some (.int .i64 a1_4) := (blk_cell BK601.out 4).trans rfl
     have hcz17_5 : w5.cell? ⟨gb601, 5, none⟩ = some (.int .i64 a1_5) := (blk_cell BK601.out 5).trans rfl
     have hcz17_6 : w5.cell? ⟨gb601, 6, none⟩ = some (.slice A1_6 l1_6.length c1_6) := (blk_cell BK601.out 6).trans rfl
     have hfz17_0 := blk_frozen BK601.out 0
     have hfz17_1 := blk_frozen BK601.out 1
     have hfz17_2 := blk_frozen BK601.out 2
     have hfz17_3 := blk_frozen BK601.out 3
     have hfz17_4 := blk_frozen BK601.out 4
     have hfz17_5 := blk_frozen BK601.out 5
     have hfz17_6 := blk_frozen BK601.out 6
     go_wp2
     go_meet
     case rel => exact ⟨_, (true), (by rfl), H', ⟨by omega⟩, ⟨by exact BK600.out⟩, ⟨by exact BK601.out⟩, ⟨by repeat ((with_reducible exact HB.out))⟩⟩
  ·rw [if_neg c6] at H
   have c6b0 : (a0_0 == a1_0) = false := beq_eq_false_iff_ne.mpr c6
   have c6b1 : (a0_0 != a1_0) = true := bne_iff_ne.mpr c6
   (skip)
   have H' := Aside0.mk H
   clear H
   have hnb18 := NB600_601.out
   have hnc18 := NB601_600.out
   have hcz19_0 : w5.cell? ⟨gb600, 0, none⟩ = some (.int .u8 a0_0) := (blk_cell BK600.out 0).trans rfl
   have hcz19_1 : w5.cell? ⟨gb600, 1, none⟩ = some (.int .i64 a0_1) := (blk_cell BK600.out 1).trans rfl
   have hcz19_2 : w5.cell? ⟨gb600, 2, none⟩ = some (.int .i64 a0_2) := (blk_cell BK600.out 2).trans rfl
   have hcz19_3 : w5.cell? ⟨gb600, 3, none⟩ = some (.int .i64 a0_3) := (blk_cell BK600.out 3).trans rfl
   have hcz19_4 : w5.cell? ⟨gb600, 4, none⟩ = some (.int .i64 a0_4) := (blk_cell BK600.out 4).trans rfl
   have hcz19_5 : w5.cell? ⟨gb600, 5, none⟩ = some (.int .i64 a0_5) := (blk_cell BK600.out 5).trans rfl
   have hcz19_6 : w5.cell? ⟨gb600, 6, none⟩ = some (.slice A0_6 l0_6.length c0_6) := (blk_cell BK600.out 6).trans rfl
   have hfz19_0 := blk_frozen BK600.out 0
   have hfz19_1 := blk_frozen BK600.out 1
   have hfz19_2 := blk_frozen BK600.out 2
   have hfz19_3 := blk_frozen BK600.out 3
   have hfz19_4 := blk_frozen BK600.out 4
   have hfz19_5 := blk_frozen BK600.out 5
   have hfz19_6 := blk_frozen BK600.out 6
   have hcz20_0 : w5.cell? ⟨gb601, 0, none⟩ = some (.int .u8 a1_0) := (blk_cell BK601.out 0).trans rfl
   have hcz20_1 : w5.cell? ⟨gb601, 1, none⟩ = some (.int .i64 a1_1) := (blk_cell BK601.out 1).trans rfl
   have hcz20_2 : w5.cell? ⟨gb601, 2, none⟩ = some (.int .i64 a1_2) := (blk_cell BK601.out 2).trans rfl
   have hcz20_3 : w5.cell? ⟨gb601, 3, none⟩ = some (.int .i64 a1_3) := (blk_cell BK601.out 3).trans rfl
   have hcz20_4 : w5.cell? ⟨gb601, 4, none⟩ = some (.int .i64 a1_4) := (blk_cell BK601.out 4).trans rfl
   have hcz20_5 : w5.cell? ⟨gb601, 5, none⟩ = some (.int .i64 a1_5) := (blk_cell BK601.out 5).trans rfl
   have hcz20_6 : w5.cell? ⟨gb601, 6, none⟩ = some (.slice A1_6 l1_6.length c1_6) := (blk_cell BK601.out 6).trans rfl
   have hfz20_0 := blk_frozen BK601.out 0
   have hfz20_1 := blk_frozen BK601.out 1
   have hfz20_2 := blk_frozen BK601.out 2
   have hfz20_3 := blk_frozen BK601.out 3
   have hfz20_4 := blk_frozen BK601.out 4
   have hfz20_5 := blk_frozen BK601.out 5
   have hfz20_6 := blk_frozen BK601.out 6
   go_wp2
   go_meet
   case rel => exact ⟨_, (true), (by rfl), H', ⟨by omega⟩, ⟨by exact BK600.out⟩, ⟨by exact BK601.out⟩, ⟨by repeat ((with_reducible exact HB.out))⟩⟩
 case rest =>
  clear HC3
  obtain ⟨kq, x33_2, rfl, HA, HJ2, BK600, BK601, HB⟩ := hcut
  cases kq with
  | zero => exact absurd HA.out (by simp [sashref05_Same.j0])
  | succ kj2 =>
   have H := HA.out
   clear HA
   simp only [sashref05_Same.j0] at H
   by_cases c21 : x33_2 = true
   ·subst c21
    have H1 : (some false) = some r := by rw [if_pos rfl] at H; exact H
    clear H
    have H := H1
    clear H1
    obtain rfl := Option.some.inj H
    go_wp2
    go_ret
    exact ⟨by rfl, by repeat ((with_reducible exact HB.out))⟩
   ·replace c21 := Bool.eq_false_iff.mpr c21
    subst c21
    have H1 : (sashref05_Same.l0 kj2 (l0_6.length : Int) 0 a0_0 a0_1 a0_2 a0_3 a0_4 a0_5 l0_6 a1_0 a1_1 a1_2 a1_3 a1_4 a1_5 l1_6) = some r := by rw [if_neg (show ¬ (false = true) by decide)] at H; exact H
    clear H
    have H := H1
    clear H1
    have H' := Aside0.mk H
    clear H
    have hnb22 := NB600_601.out
    have hnc22 := NB601_600.out
    have hcz23_0 : wc.cell? ⟨gb600, 0, none⟩ = some (.int .u8 a0_0) := (blk_cell BK600.out 0).trans rfl
    have hcz23_1 : wc.cell? ⟨gb600, 1, none⟩ = some (.int .i64 a0_1) := (blk_cell BK600.out 1).trans rfl
    have hcz23_2 : wc.cell? ⟨gb600, 2, none⟩ = some (.int .i64 a0_2) := (blk_cell BK600.out 2).trans rfl
    have hcz23_3 : wc.cell? ⟨gb600, 3, none⟩ = some (.int .i64 a0_3) := (blk_cell BK600.out 3).trans rfl
    have hcz23_4 : wc.cell? ⟨gb600, 4, none⟩ = some (.int .i64 a0_4) := (blk_cell BK600.out 4).trans rfl
    have hcz23_5 : wc.cell? ⟨gb600, 5, none⟩ = some (.int .i64 a0_5) := (blk_cell BK600.out 5).trans rfl
    have hcz23_6 : wc.cell? ⟨gb600, 6, none⟩ = some (.slice A0_6 l0_6.length c0_6) := (blk_cell BK600.out 6).trans rfl
    have hfz23_0 := blk_frozen BK600.out 0
    have hfz23_1 := blk_frozen BK600.out 1
    have hfz23_2 := blk_frozen BK600.out 2
    have hfz23_3 := blk_frozen BK600.out 3
    have hfz23_4 := blk_frozen BK600.out 4
    have hfz23_5 := blk_frozen BK600.out 5
    have hfz23_6 := blk_frozen BK600.out 6
    go_wp2
    go_loopg [37] kj2 (fun kq v37 w' => ∃ (x37_2 : Int), v37 = .int .i64 x37_2 ∧ Aside0 (sashref05_Same.l0 kq (l0_6.length : Int) x37_2 a0_0 a0_1 a0_2 a0_3 a0_4 a0_5 l0_6 a1_0 a1_1 a1_2 a1_3 a1_4 a1_5 l1_6 = some r) ∧ Aside0 (kq ≤ kj2) ∧ Aside0 (w'.heap[gb600]? = some (.cells #[.int .u8 a0_0, .int .i64 a0_1, .int .i64 a0_2, .int .i64 a0_3, .int .i64 a0_4, .int .i64 a0_5, (.slice A0_6 l0_6.length c0_6)] 26 (0, 0))) ∧ Aside0 (w'.heap[gb601]? = some (.cells #[.int .u8 a1_0, .int .i64 a1_1, .int .i64 a1_2, .int .i64 a1_3, .int .i64 a1_4, .int .i64 a1_5, (.slice A1_6 l1_6.length c1_6)] 26 (0, 0))) ∧ Aside0 (Below w.heap.size w w'))
    case atStart => exact ⟨(0), (by rfl), H', ⟨Nat.le_refl _⟩, ⟨by exact BK600.out⟩, ⟨by exact BK601.out⟩, ⟨by repeat ((with_reducible exact HB.out))⟩⟩
    case round =>
     clear H'
     clear hcz23_0 hcz23_1 hcz23_2 hcz23_3 hcz23_4 hcz23_5 hcz23_6 hfz23_0 hfz23_1 hfz23_2 hfz23_3 hfz23_4 hfz23_5 hfz23_6
     obtain ⟨x37_2, rfl, HA, HK2, BK600, BK601, HB⟩ := hrel
     cases gk with
     | zero => exact absurd HA.out (by simp [sashref05_Same.l0])
     | succ k2 =>
      have H := HA.out
      clear HA
      simp only [sashref05_Same.l0] at H
      by_cases c24 : x37_2 < (l0_6.length : Int)
      ·rw [if_pos c24] at H
       have c24b0 : decide (x37_2 < (l0_6.length : Int)) = true := decide_eq_true c24
       clear c24
       by_cases c25 : 0 ≤ x37_2
       ·rw [if_pos c25] at H
        have c25b0 : decide (0 ≤ x37_2) = true := decide_eq_true c25
        clear c25
        by_cases c26 : x37_2 < (l0_6.length : Int)
        ·rw [if_pos c26] at H
         have c26b0 : decide (x37_2 < (l0_6.length : Int)) = true := decide_eq_true c26
         clear c26
         by_cases c27 : x37_2 < (l1_6.length : Int)
         ·rw [if_pos c27] at H
          have c27b0 : decide (x37_2 < (l1_6.length : Int)) = true := decide_eq_true c27
          clear c27
          replace H := Option.bind_eq_some_iff.mp H
          obtain ⟨t604, A280, H⟩ := H
          replace H : (if t604 = true then (sashref05_Same.l0 k2 (l0_6.length : Int) (wrap64 (x37_2 + 1)) a0_0 a0_1 a0_2 a0_3 a0_4 a0_5 l0_6 a1_0 a1_1 a1_2 a1_3 a1_4 a1_5 l1_6) else (some false)) = some r := H
          have A28 := Aside0.mk A280
          clear A280
          by_cases c29 : t604 = true
          ·subst c29
           have H1 : (sashref05_Same.l0 k2 (l0_6.length : Int) (wrap64 (x37_2 + 1)) a0_0 a0_1 a0_2 a0_3 a0_4 a0_5 l0_6 a1_0 a1_1 a1_2 a1_3 a1_4 a1_5 l1_6) = some r := by rw [if_pos rfl] at H; exact H
           clear H
           have H := H1
           clear H1
           have H' := Aside0.mk H
           clear H
           try go_wp2
           replace BK600 := Aside0.mk (blk_drew BK600.out); replace BK601 := Aside0.mk (blk_drew BK601.out); replace HB := Aside0.mk (below_drew1 HB.out)
           have p602 : 0 ≤ (x37_2 : Int) := of_decide_eq_true (by (with_reducible assumption))
           have q602 : x37_2 < (l0_6.length : Int) := of_decide_eq_true (by (with_reducible assumption))
           obtain ⟨ad602, A602_6, c602_6, e602, hx602_0, hx602_1, hx602_2, hx602_3, hx602_4, hx602_5, hx602_6, hl602_6, hi602_6⟩ := at_T26 HR0_6.out x37_2 p602 q602
           have hw602_6 := hx602_6
           have hw602_5 := hx602_5
           have hw602_4 := hx602_4
           have hw602_3 := hx602_3
           have hw602_2 := hx602_2
           have hw602_1 := hx602_1
           have hw602_0 := hx602_0
           cases e602
           replace hx602_0 := (HB.out.cell (World.block_lt_of_cell? w _ hx602_0)).trans hx602_0
           replace hx602_1 := (HB.out.cell (World.block_lt_of_cell? w _ hx602_1)).trans hx602_1
           replace hx602_2 := (HB.out.cell (World.block_lt_of_cell? w _ hx602_2)).trans hx602_2
           replace hx602_3 := (HB.out.cell (World.block_lt_of_cell? w _ hx602_3)).trans hx602_3
           replace hx602_4 := (HB.out.cell (World.block_lt_of_cell? w _ hx602_4)).trans hx602_4
           replace hx602_5 := (HB.out.cell (World.block_lt_of_cell? w _ hx602_5)).trans hx602_5
           replace hx602_6 := (HB.out.cell (World.block_lt_of_cell? w _ hx602_6)).trans hx602_6
           have HR602_6 := Aside0.mk hi602_6
           have HC602_6 := Aside0.mk hl602_6
           clear hi602_6 hl602_6
           replace p602 := eq_true p602
           replace q602 := eq_true q602
           have p603 : 0 ≤ (x37_2 : Int) := of_decide_eq_true (by (with_reducible assumption))
           have q603 : x37_2 < (l1_6.length : Int) := of_decide_eq_true (by (with_reducible assumption))
           obtain ⟨ad603, A603_6, c603_6, e603, hx603_0, hx603_1, hx603_2, hx603_3, hx603_4, hx603_5, hx603_6, hl603_6, hi603_6⟩ := at_T26 HR1_6.out x37_2 p603 q603
           have hw603_6 := hx603_6
           have hw603_5 := hx603_5
           have hw603_4 := hx603_4
           have hw603_3 := hx603_3
           have hw603_2 := hx603_2
           have hw603_1 := hx603_1
           have hw603_0 := hx603_0
           cases e603
           replace hx603_0 := (HB.out.cell (World.block_lt_of_cell? w _ hx603_0)).trans hx603_0
           replace hx603_1 := (HB.out.cell (World.block_lt_of_cell? w _ hx603_1)).trans hx603_1
           replace hx603_2 := (HB.out.cell (World.block_lt_of_cell? w _ hx603_2)).trans hx603_2
           replace hx603_3 := (HB.out.cell (World.block_lt_of_cell? w _ hx603_3)).trans hx603_3
           replace hx603_4 := (HB.out.cell (World.block_lt_of_cell? w _ hx603_4)).trans hx603_4
           replace hx603_5 := (HB.out.cell (World.block_lt_of_cell? w _ hx603_5)).trans hx603_5
           replace hx603_6 := (HB.out.cell (World.block_lt_of_cell? w _ hx603_6)).trans hx603_6
           have HR603_6 := Aside0.mk hi603_6
           have HC603_6 := Aside0.mk hl603_6
           clear hi603_6 hl603_6
           replace p603 := eq_true p603
           replace q603 := eq_true q603
           refine start_ (n := 12) (S := fun w' => w'.cell? ⟨gb600, 0, none⟩ = some (.int .u8 a0_0) ∧ w'.cell? ⟨gb600, 1, none⟩ = some (.int .i64 a0_1) ∧ w'.cell? ⟨gb600, 2, none⟩ = some (.int .i64 a0_2) ∧ w'.cell? ⟨gb600, 3, none⟩ = some (.int .i64 a0_3) ∧ w'.cell? ⟨gb600, 4, none⟩ = some (.int .i64 a0_4) ∧ w'.cell? ⟨gb600, 5, none⟩ = some (.int .i64 a0_5) ∧ w'.cell? ⟨gb600, 6, none⟩ = some (.slice (some ad602) l0_6.length c0_6) ∧ w'.cell? ⟨gb601, 0, none⟩ = some (.int .u8 a1_0) ∧ w'.cell? ⟨gb601, 1, none⟩ = some (.int .i64 a1_1) ∧ w'.cell? ⟨gb601, 2, none⟩ = some (.int .i64 a1_2) ∧ w'.cell? ⟨gb601, 3, none⟩ = some (.int .i64 a1_3) ∧ w'.cell? ⟨gb601, 4, none⟩ = some (.int .i64 a1_4) ∧ w'.cell? ⟨gb601, 5, none⟩ = some (.int .i64 a1_5) ∧ w'.cell? ⟨gb601, 6, none⟩ = some (.slice (some ad603) l1_6.length c1_6) ∧ w'.cell? (ad602.add ((x37_2).toNat * 7)) = some (.int .u8 ((rd_T26 l0_6 x37_2).f0)) ∧ w'.cell? ⟨(ad602.add ((x37_2).toNat * 7)).block, (ad602.add ((x37_2).toNat * 7)).off + 1, none⟩ = some (.int .i64 ((rd_T26 l0_6 x37_2).f1.f0)) ∧ w'.cell? ⟨(ad602.add ((x37_2).toNat * 7)).block, (ad602.add ((x37_2).toNat * 7)).off + 2, none⟩ = some (.int .i64 ((rd_T26 l0_6 x37_2).f1.f1)) ∧ w'.cell? ⟨(ad602.add ((x37_2).toNat * 7)).block, (ad602.add ((x37_2).toNat * 7)).off + 3, none⟩ = some (.int .i64 ((rd_T26 l0_6 x37_2).f1.f2)) ∧ w'.cell? ⟨(ad602.add ((x37_2).toNat * 7)).block, (ad602.add ((x37_2).toNat * 7)).off + 4, none⟩ = some (.int .i64 ((rd_T26 l0_6 x37_2).f1.f3)) ∧ w'.cell? ⟨(ad602.add ((x37_2).toNat * 7)).block, (ad602.add ((x37_2).toNat * 7)).off + 5, none⟩ = some (.int .i64 ((rd_T26 l0_6 x37_2).f2)) ∧ w'.cell? ⟨(ad602.add ((x37_2).toNat * 7)).block, (ad602.add ((x37_2).toNat * 7)).off + 6, none⟩ = some (.slice A602_6 ((rd_T26 l0_6 x37_2).f3).length c602_6) ∧ w'.cell? (ad603.add ((x37_2).toNat * 7)) = some (.int .u8 ((rd_T26 l1_6 x37_2).f0)) ∧ w'.cell? ⟨(ad603.add ((x37_2).toNat * 7)).block, (ad603.add ((x37_2).toNat * 7)).off + 1, none⟩ = some (.int .i64 ((rd_T26 l1_6 x37_2).f1.f0)) ∧ w'.cell? ⟨(ad603.add ((x37_2).toNat * 7)).block, (ad603.add ((x37_2).toNat * 7)).off + 2, none⟩ = some (.int .i64 ((rd_T26 l1_6 x37_2).f1.f1)) ∧ w'.cell? ⟨(ad603.add ((x37_2).toNat * 7)).block, (ad603.add ((x37_2).toNat * 7)).off + 3, none⟩ = some (.int .i64 ((rd_T26 l1_6 x37_2).f1.f2)) ∧ w'.cell? ⟨(ad603.add ((x37_2).toNat * 7)).block, (ad603.add ((x37_2).toNat * 7)).off + 4, none⟩ = some (.int .i64 ((rd_T26 l1_6 x37_2).f1.f3)) ∧ w'.cell? ⟨(ad603.add ((x37_2).toNat * 7)).block, (ad603.add ((x37_2).toNat * 7)).off + 5, none⟩ = some (.int .i64 ((rd_T26 l1_6 x37_2).f2)) ∧ w'.cell? ⟨(ad603.add ((x37_2).toNat * 7)).block, (ad603.add ((x37_2).toNat * 7)).off + 6, none⟩ = some (.slice A603_6 ((rd_T26 l1_6 x37_2).f3).length c603_6)) (ds := []) #[false, false, false, false, false, false, false, false, false, false, false, false] (by kernel_rfl) rfl rfl ⟨(blk_cell BK600.out 0).trans rfl, (blk_cell BK600.out 1).trans rfl, (blk_cell BK600.out 2).trans rfl, (blk_cell BK600.out 3).trans rfl, (blk_cell BK600.out 4).trans rfl, (blk_cell BK600.out 5).trans rfl, (blk_cell BK600.out 6).trans rfl, (blk_cell BK601.out 0).trans rfl, (blk_cell BK601.out 1).trans rfl, (blk_cell BK601.out 2).trans rfl, (blk_cell BK601.out 3).trans rfl, (blk_cell BK601.out 4).trans rfl, (blk_cell BK601.out 5).trans rfl, (blk_cell BK601.out 6).trans rfl, ((HB.out.cell (World.block_lt_of_cell? w _ hw602_0)).trans hw602_0), ((HB.out.cell (World.block_lt_of_cell? w _ hw602_1)).trans hw602_1), ((HB.out.cell (World.block_lt_of_cell? w _ hw602_2)).trans hw602_2), ((HB.out.cell (World.block_lt_of_cell? w _ hw602_3)).trans hw602_3), ((HB.out.cell (World.block_lt_of_cell? w _ hw602_4)).trans hw602_4), ((HB.out.cell (World.block_lt_of_cell? w _ hw602_5)).trans hw602_5), ((HB.out.cell (World.block_lt_of_cell? w _ hw602_6)).trans hw602_6), ((HB.out.cell (World.block_lt_of_cell? w _ hw603_0)).trans hw603_0), ((HB.out.cell (World.block_lt_of_cell? w _ hw603_1)).trans hw603_1), ((HB.out.cell (World.block_lt_of_cell? w _ hw603_2)).trans hw603_2), ((HB.out.cell (World.block_lt_of_cell? w _ hw603_3)).trans hw603_3), ((HB.out.cell (World.block_lt_of_cell? w _ hw603_4)).trans hw603_4), ((HB.out.cell (World.block_lt_of_cell? w _ hw603_5)).trans hw603_5), ((HB.out.cell (World.block_lt_of_cell? w _ hw603_6)).trans hw603_6)⟩ (fun hHeld => ?_); refine with_tabW sashref05_Same.tab6 sashref05_Same.bits6 (fun HT_ HW_ => ?_)
           generalize wr.drew = w30 at BK600 BK601 HB HR602_6 HR603_6 hx602_0 hx602_1 hx602_2 hx602_3 hx602_4 hx602_5 hx602_6 hx603_0 hx603_1 hx603_2 hx603_3 hx603_4 hx603_5 hx603_6 hHeld ⊢
           refine pure_ (i := 0) (N := some 40) (v := ?_) (a' := ?_) #[true, false, false, false, false, false, false, false, false, false, false, false] rfl rfl (any_of HT_.out (by kernel_rfl)) (fun _ _ _ h => h) (Or.inl ⟨by rfl, ?_⟩) ?_ ?_
           rotate_left
           ·intro w'
            go_simp
            with_reducible rfl
           rotate_left
           ·simp only [Act.put, List.setIfInBounds_toArray, List.set_cons_zero, List.set_cons_succ, i64_w, i32_w]
            rfl
           refine pure_ (i := 2) (N := some 42) (v := ?_) (a' := ?_) #[true, false, true, false, false, false, false, false, false, false, false, false] rfl rfl (any_of HT_.out (by kernel_rfl)) (fun _ _ _ h => h) (Or.inl ⟨by rfl, ?_⟩) ?_ ?_
           rotate_left
           ·intro w'
            go_simp
            with_reducible rfl
           rotate_left
           ·simp only [Act.put, List.setIfInBounds_toArray, List.set_cons_zero, List.set_cons_succ, i64_w, i32_w]
            rfl
           refine pure_ (i := 5) (N := some 45) (v := ?_) (a' := ?_) #[true, false, true, false, false, true, false, false, false, false, false, false] rfl rfl (any_of HT_.out (by kernel_rfl)) (fun _ _ _ h => h) (Or.inl ⟨by rfl, ?_⟩) ?_ ?_
           rotate_left
           ·intro w'
            go_simp
            with_reducible rfl
           rotate_left
           ·simp only [Act.put, List.setIfInBounds_toArray, List.set_cons_zero, List.set_cons_succ, i64_w, i32_w]
            rfl
           refine pure_ (i := 7) (N := some 47) (v := ?_) (a' := ?_) #[true, false, true, false, false, true, false, true, false, false, false, false] rfl rfl (any_of HT_.out (by kernel_rfl)) (fun _ _ _ h => h) (Or.inl ⟨by rfl, ?_⟩) ?_ ?_
           rotate_left
           ·intro w'
            go_simp
            with_reducible rfl
           rotate_left
           ·simp only [Act.put, List.setIfInBounds_toArray, List.set_cons_zero, List.set_cons_succ, i64_w, i32_w]
            rfl
           refine take_ (i := 1) (N := some 41) (v := ?_) (a' := ?_) #[true, true, true, false, false, true, false, true, false, false, false, false] rfl rfl (take_ofW HT_.out HW_.out (by kernel_rfl)) (fun _ _ _ h => h) (Or.inl ⟨by rfl, ?_⟩) hHeld ?_ ?_
           rotate_left
           ·rintro w' ⟨s0, s1, s2, s3, s4, s5, s6, s7, s8, s9, s10, s11, s12, s13, s14, s15, s16, s17, s18, s19, s20, s21, s22, s23, s24, s25, s26, s27⟩
            go_simp
            with_reducible rfl
           rotate_left
           ·simp only [Act.put, List.setIfInBounds_toArray, List.set_cons_zero, List.set_cons_succ, i64_w, i32_w]
            rfl
           refine pure_ (i := 3) (N := some 43) (v := ?_) (a' := ?_) #[true, true, true, true, false, true, false, true, false, false, false, false] rfl rfl (any_of HT_.out (by kernel_rfl)) (fun _ _ _ h => h) (Or.inl ⟨by rfl, ?_⟩) ?_ ?_
           rotate_left
           ·intro w'
            go_simp
            with_reducible rfl
           rotate_left
           ·simp only [Act.put, List.setIfInBounds_toArray, List.set_cons_zero, List.set_cons_succ, i64_w, i32_w]
            rfl
           refine take_ (i := 4) (N := some 44) (v := ?_) (a' := ?_) #[true, true, true, true, true, true, false, true, false, false, false, false] rfl rfl (take_ofW HT_.out HW_.out (by kernel_rfl)) (fun _ _ _ h => h) (Or.inl ⟨by rfl, ?_⟩) hHeld ?_ ?_
           rotate_left
           ·rintro w' ⟨s0, s1, s2, s3, s4, s5, s6, s7, s8, s9, s10, s11, s12, s13, s14, s15, s16, s17, s18, s19, s20, s21, s22, s23, s24, s25, s26, s27⟩
            go_simp
            with_reducible rfl
           rotate_left
           ·simp only [Act.put, List.setIfInBounds_toArray, List.set_cons_zero, List.set_cons_succ, i64_w, i32_w]
            rfl
           refine take_ (i := 6) (N := some 46) (v := ?_) (a' := ?_) #[true, true, true, true, true, true, true, true, false, false, false, false] rfl rfl (take_ofW HT_.out HW_.out (by kernel_rfl)) (fun _ _ _ h => h) (Or.inl ⟨by rfl, ?_⟩) hHeld ?_ ?_
           rotate_left
           ·rintro w' ⟨s0, s1, s2, s3, s4, s5, s6, s7, s8, s9, s10, s11, s12, s13, s14, s15, s16, s17, s18, s19, s20, s21, s22, s23, s24, s25, s26, s27⟩
            go_simp
            with_reducible rfl
           rotate_left
           ·simp only [Act.put, List.setIfInBounds_toArray, List.set_cons_zero, List.set_cons_succ, i64_w, i32_w]
            rfl
           refine pure_ (i := 8) (N := some 48) (v := ?_) (a' := ?_) #[true, true, true, true, true, true, true, true, true, false, false, false] rfl rfl (any_of HT_.out (by kernel_rfl)) (fun _ _ _ h => h) (Or.inl ⟨by rfl, ?_⟩) ?_ ?_
           rotate_left
           ·intro w'
            go_simp
            with_reducible rfl
           rotate_left
           ·simp only [Act.put, List.setIfInBounds_toArray, List.set_cons_zero, List.set_cons_succ, i64_w, i32_w]
            rfl
           refine take_ (i := 9) (N := some 49) (v := ?_) (a' := ?_) #[true, true, true, true, true, true, true, true, true, true, false, false] rfl rfl (take_ofW HT_.out HW_.out (by kernel_rfl)) (fun _ _ _ h => h) (Or.inl ⟨by rfl, ?_⟩) hHeld ?_ ?_
           rotate_left
           ·rintro w' ⟨s0, s1, s2, s3, s4, s5, s6, s7, s8, s9, s10, s11, s12, s13, s14, s15, s16, s17, s18, s19, s20, s21, s22, s23, s24, s25, s26, s27⟩
            go_simp
            with_reducible rfl
           rotate_left
           ·simp only [Act.put, List.setIfInBounds_toArray, List.set_cons_zero, List.set_cons_succ, i64_w, i32_w]
            rfl
           refine one_ (i := 10) (N := some 50) #[true, true, true, true, true, true, true, true, true, true, true, false] rfl rfl (one_of HT_.out (by kernel_rfl)) (by decide) (fun K hK => ?_)
           refine goes_ Try.func64 (by kernel_rfl) rfl #[.agg #[.int .u8 ((rd_T26 l0_6 x37_2).f0), .int .i64 ((rd_T26 l0_6 x37_2).f1.f0), .int .i64 ((rd_T26 l0_6 x37_2).f1.f1), .int .i64 ((rd_T26 l0_6 x37_2).f1.f2), .int .i64 ((rd_T26 l0_6 x37_2).f1.f3), .int .i64 ((rd_T26 l0_6 x37_2).f2), .slice A602_6 ((rd_T26 l0_6 x37_2).f3).length c602_6], .agg #[.int .u8 ((rd_T26 l1_6 x37_2).f0), .int .i64 ((rd_T26 l1_6 x37_2).f1.f0), .int .i64 ((rd_T26 l1_6 x37_2).f1.f1), .int .i64 ((rd_T26 l1_6 x37_2).f1.f2), .int .i64 ((rd_T26 l1_6 x37_2).f1.f3), .int .i64 ((rd_T26 l1_6 x37_2).f2), .slice A603_6 ((rd_T26 l1_6 x37_2).f3).length c603_6]] (by rfl) rfl rfl (by (try simp only [List.map_toArray, List.map_cons, List.map_nil]); rfl) ?_
           with_reducible refine (ih k2 (by have := HJ2.out; have := HK2.out; omega) ((rd_T26 l0_6 x37_2).f0) ((rd_T26 l0_6 x37_2).f1.f0) ((rd_T26 l0_6 x37_2).f1.f1) ((rd_T26 l0_6 x37_2).f1.f2) ((rd_T26 l0_6 x37_2).f1.f3) ((rd_T26 l0_6 x37_2).f2) _ _ ((rd_T26 l0_6 x37_2).f3) ((rd_T26 l1_6 x37_2).f0) ((rd_T26 l1_6 x37_2).f1.f0) ((rd_T26 l1_6 x37_2).f1.f1) ((rd_T26 l1_6 x37_2).f1.f2) ((rd_T26 l1_6 x37_2).f1.f3) ((rd_T26 l1_6 x37_2).f2) _ _ ((rd_T26 l1_6 x37_2).f3) true _ ?side1 ?side2 ?side3 ?side4 A28.out).mono ?_
           (case side1 => repeat (exact (Kd.C_below HR602_6.out HB.out)))
           (case side2 => exact HC602_6.out)
           (case side3 => repeat (exact (Kd.C_below HR603_6.out HB.out)))
           (case side4 => exact HC603_6.out)
           rintro e w31 ⟨rfl, hb⟩
           refine ⟨_, rfl, ?_⟩
           replace BK600 := Aside0.mk (blk_below BK600.out hb); replace BK601 := Aside0.mk (blk_below BK601.out hb); replace HB := Aside0.mk (below_step (by repeat ((with_reducible exact HB.out))) hb)
           (try clear hb)
           (skip)
           (skip)
           (skip)
           refine hK.out _ _ ⟨(blk_cell BK600.out 0).trans rfl, (blk_cell BK600.out 1).trans rfl, (blk_cell BK600.out 2).trans rfl, (blk_cell BK600.out 3).trans rfl, (blk_cell BK600.out 4).trans rfl, (blk_cell BK600.out 5).trans rfl, (blk_cell BK600.out 6).trans rfl, (blk_cell BK601.out 0).trans rfl, (blk_cell BK601.out 1).trans rfl, (blk_cell BK601.out 2).trans rfl, (blk_cell BK601.out 3).trans rfl, (blk_cell BK601.out 4).trans rfl, (blk_cell BK601.out 5).trans rfl, (blk_cell BK601.out 6).trans rfl, ((HB.out.cell (World.block_lt_of_cell? w _ hw602_0)).trans hw602_0), ((HB.out.cell (World.block_lt_of_cell? w _ hw602_1)).trans hw602_1), ((HB.out.cell (World.block_lt_of_cell? w _ hw602_2)).trans hw602_2), ((HB.out.cell (World.block_lt_of_cell? w _ hw602_3)).trans hw602_3), ((HB.out.cell (World.block_lt_of_cell? w _ hw602_4)).trans hw602_4), ((HB.out.cell (World.block_lt_of_cell? w _ hw602_5)).trans hw602_5), ((HB.out.cell (World.block_lt_of_cell? w _ hw602_6)).trans hw602_6), ((HB.out.cell (World.block_lt_of_cell? w _ hw603_0)).trans hw603_0), ((HB.out.cell (World.block_lt_of_cell? w _ hw603_1)).trans hw603_1), ((HB.out.cell (World.block_lt_of_cell? w _ hw603_2)).trans hw603_2), ((HB.out.cell (World.block_lt_of_cell? w _ hw603_3)).trans hw603_3), ((HB.out.cell (World.block_lt_of_cell? w _ hw603_4)).trans hw603_4), ((HB.out.cell (World.block_lt_of_cell? w _ hw603_5)).trans hw603_5), ((HB.out.cell (World.block_lt_of_cell? w _ hw603_6)).trans hw603_6)⟩ (fun hHeld => ?_)
           clear hK K
           refine norm_ (a' := ?_) ?_ ?_
           rotate_left
           ·show Act.put _ (some 50) _ = _
            simp only [Act.put, List.setIfInBounds_toArray, List.set_cons_zero, List.set_cons_succ, i64_w, i32_w]
            rfl
           refine pure_ (i := 11) (N := some 51) (v := ?_) (a' := ?_) #[true, true, true, true, true, true, true, true, true, true, true, true] rfl rfl (any_of HT_.out (by kernel_rfl)) (fun _ _ _ h => h) (Or.inl ⟨by rfl, ?_⟩) ?_ ?_
           rotate_left
           ·intro w'
            go_simp
            with_reducible rfl
           rotate_left
           ·simp only [Act.put, List.setIfInBounds_toArray, List.set_cons_zero, List.set_cons_succ, i64_w, i32_w]
            rfl
           refine done_ (done_of HT_.out (by kernel_rfl)) ?_
           try go_wp2
           go_roundg k2
           case measure => have := HJ2.out; have := HK2.out; omega
           case rel => exact ⟨(wrap64 (x37_2 + 1)), (by rfl), H', ⟨by have := HJ2.out; have := HK2.out; omega⟩, ⟨by exact BK600.out⟩, ⟨by exact BK601.out⟩, ⟨by repeat ((with_reducible exact HB.out))⟩⟩
          ·replace c29 := Bool.eq_false_iff.mpr c29
           subst c29
           have H1 : (some false) = some r := by rw [if_neg (show ¬ (false = true) by decide)] at H; exact H
           clear H
           have H := H1
           clear H1
           obtain rfl := Option.some.inj H
           try go_wp2
           replace BK600 := Aside0.mk (blk_drew BK600.out); replace BK601 := Aside0.mk (blk_drew BK601.out); replace HB := Aside0.mk (below_drew1 HB.out)
           have p602 : 0 ≤ (x37_2 : Int) := of_decide_eq_true (by (with_reducible assumption))
           have q602 : x37_2 < (l0_6.length : Int) := of_decide_eq_true (by (with_reducible assumption))
           obtain ⟨ad602, A602_6, c602_6, e602, hx602_0, hx602_1, hx602_2, hx602_3, hx602_4, hx602_5, hx602_6, hl602_6, hi602_6⟩ := at_T26 HR0_6.out x37_2 p602 q602
           have hw602_6 := hx602_6
           have hw602_5 := hx602_5
           have hw602_4 := hx602_4
           have hw602_3 := hx602_3
           have hw602_2 := hx602_2
           have hw602_1 := hx602_1
           have hw602_0 := hx602_0
           cases e602
           replace hx602_0 := (HB.out.cell (World.block_lt_of_cell? w _ hx602_0)).trans hx602_0
           replace hx602_1 := (HB.out.cell (World.block_lt_of_cell? w _ hx602_1)).trans hx602_1
           replace hx602_2 := (HB.out.cell (World.block_lt_of_cell? w _ hx602_2)).trans hx602_2
           replace hx602_3 := (HB.out.cell (World.block_lt_of_cell? w _ hx602_3)).trans hx602_3
           replace hx602_4 := (HB.out.cell (World.block_lt_of_cell? w _ hx602_4)).trans hx602_4
           replace hx602_5 := (HB.out.cell (World.block_lt_of_cell? w _ hx602_5)).trans hx602_5
           replace hx602_6 := (HB.out.cell (World.block_lt_of_cell? w _ hx602_6)).trans hx602_6
           have HR602_6 := Aside0.mk hi602_6
           have HC602_6 := Aside0.mk hl602_6
           clear hi602_6 hl602_6
           replace p602 := eq_true p602
           replace q602 := eq_true q602
           have p603 : 0 ≤ (x37_2 : Int) := of_decide_eq_true (by (with_reducible assumption))
           have q603 : x37_2 < (l1_6.length : Int) := of_decide_eq_true (by (with_reducible assumption))
           obtain ⟨ad603, A603_6, c603_6, e603, hx603_0, hx603_1, hx603_2, hx603_3, hx603_4, hx603_5, hx603_6, hl603_6, hi603_6⟩ := at_T26 HR1_6.out x37_2 p603 q603
           have hw603_6 := hx603_6
           have hw603_5 := hx603_5
           have hw603_4 := hx603_4
           have hw603_3 := hx603_3
           have hw603_2 := hx603_2
           have hw603_1 := hx603_1
           have hw603_0 := hx603_0
           cases e603
           replace hx603_0 := (HB.out.cell (World.block_lt_of_cell? w _ hx603_0)).trans hx603_0
           replace hx603_1 := (HB.out.cell (World.block_lt_of_cell? w _ hx603_1)).trans hx603_1
           replace hx603_2 := (HB.out.cell (World.block_lt_of_cell? w _ hx603_2)).trans hx603_2
           replace hx603_3 := (HB.out.cell (World.block_lt_of_cell? w _ hx603_3)).trans hx603_3
           replace hx603_4 := (HB.out.cell (World.block_lt_of_cell? w _ hx603_4)).trans hx603_4
           replace hx603_5 := (HB.out.cell (World.block_lt_of_cell? w _ hx603_5)).trans hx603_5
           replace hx603_6 := (HB.out.cell (World.block_lt_of_cell? w _ hx603_6)).trans hx603_6
           have HR603_6 := Aside0.mk hi603_6
           have HC603_6 := Aside0.mk hl603_6
           clear hi603_6 hl603_6
           replace p603 := eq_true p603
           replace q603 := eq_true q603
           refine start_ (n := 12) (S := fun w' => w'.cell? ⟨gb600, 0, none⟩ = some (.int .u8 a0_0) ∧ w'.cell? ⟨gb600, 1, none⟩ = some (.int .i64 a0_1) ∧ w'.cell? ⟨gb600, 2, none⟩ = some (.int .i64 a0_2) ∧ w'.cell? ⟨gb600, 3, none⟩ = some (.int .i64 a0_3) ∧ w'.cell? ⟨gb600, 4, none⟩ = some (.int .i64 a0_4) ∧ w'.cell? ⟨gb600, 5, none⟩ = some (.int .i64 a0_5) ∧ w'.cell? ⟨gb600, 6, none⟩ = some (.slice (some ad602) l0_6.length c0_6) ∧ w'.cell? ⟨gb601, 0, none⟩ = some (.int .u8 a1_0) ∧ w'.cell? ⟨gb601, 1, none⟩ = some (.int .i64 a1_1) ∧ w'.cell? ⟨gb601, 2, none⟩ = some (.int .i64 a1_2) ∧ w'.cell? ⟨gb601, 3, none⟩ = some (.int .i64 a1_3) ∧ w'.cell? ⟨gb601, 4, none⟩ = some (.int .i64 a1_4) ∧ w'.cell? ⟨gb601, 5, none⟩ = some (.int .i64 a1_5) ∧ w'.cell? ⟨gb601, 6, none⟩ = some (.slice (some ad603) l1_6.length c1_6) ∧ w'.cell? (ad602.add ((x37_2).toNat * 7)) = some (.int .u8 ((rd_T26 l0_6 x37_2).f0)) ∧ w'.cell? ⟨(ad602.add ((x37_2).toNat * 7)).block, (ad602.add ((x37_2).toNat * 7)).off + 1, none⟩ = some (.int .i64 ((rd_T26 l0_6 x37_2).f1.f0)) ∧ w'.cell? ⟨(ad602.add ((x37_2).toNat * 7)).block, (ad602.add ((x37_2).toNat * 7)).off + 2, none⟩ = some (.int .i64 ((rd_T26 l0_6 x37_2).f1.f1)) ∧ w'.cell? ⟨(ad602.add ((x37_2).toNat * 7)).block, (ad602.add ((x37_2).toNat * 7)).off + 3, none⟩ = some (.int .i64 ((rd_T26 l0_6 x37_2).f1.f2)) ∧ w'.cell? ⟨(ad602.add ((x37_2).toNat * 7)).block, (ad602.add ((x37_2).toNat * 7)).off + 4, none⟩ = some (.int .i64 ((rd_T26 l0_6 x37_2).f1.f3)) ∧ w'.cell? ⟨(ad602.add ((x37_2).toNat * 7)).block, (ad602.add ((x37_2).toNat * 7)).off + 5, none⟩ = some (.int .i64 ((rd_T26 l0_6 x37_2).f2)) ∧ w'.cell? ⟨(ad602.add ((x37_2).toNat * 7)).block, (ad602.add ((x37_2).toNat * 7)).off + 6, none⟩ = some (.slice A602_6 ((rd_T26 l0_6 x37_2).f3).length c602_6) ∧ w'.cell? (ad603.add ((x37_2).toNat * 7)) = some (.int .u8 ((rd_T26 l1_6 x37_2).f0)) ∧ w'.cell? ⟨(ad603.add ((x37_2).toNat * 7)).block, (ad603.add ((x37_2).toNat * 7)).off + 1, none⟩ = some (.int .i64 ((rd_T26 l1_6 x37_2).f1.f0)) ∧ w'.cell? ⟨(ad603.add ((x37_2).toNat * 7)).block, (ad603.add ((x37_2).toNat * 7)).off + 2, none⟩ = some (.int .i64 ((rd_T26 l1_6 x37_2).f1.f1)) ∧ w'.cell? ⟨(ad603.add ((x37_2).toNat * 7)).block, (ad603.add ((x37_2).toNat * 7)).off + 3, none⟩ = some (.int .i64 ((rd_T26 l1_6 x37_2).f1.f2)) ∧ w'.cell? ⟨(ad603.add ((x37_2).toNat * 7)).block, (ad603.add ((x37_2).toNat * 7)).off + 4, none⟩ = some (.int .i64 ((rd_T26 l1_6 x37_2).f1.f3)) ∧ w'.cell? ⟨(ad603.add ((x37_2).toNat * 7)).block, (ad603.add ((x37_2).toNat * 7)).off + 5, none⟩ = some (.int .i64 ((rd_T26 l1_6 x37_2).f2)) ∧ w'.cell? ⟨(ad603.add ((x37_2).toNat * 7)).block, (ad603.add ((x37_2).toNat * 7)).off + 6, none⟩ = some (.slice A603_6 ((rd_T26 l1_6 x37_2).f3).length c603_6)) (ds := []) #[false, false, false, false, false, false, false, false, false, false, false, false] (by kernel_rfl) rfl rfl ⟨(blk_cell BK600.out 0).trans rfl, (blk_cell BK600.out 1).trans rfl, (blk_cell BK600.out 2).trans rfl, (blk_cell BK600.out 3).trans rfl, (blk_cell BK600.out 4).trans rfl, (blk_cell BK600.out 5).trans rfl, (blk_cell BK600.out 6).trans rfl, (blk_cell BK601.out 0).trans rfl, (blk_cell BK601.out 1).trans rfl, (blk_cell BK601.out 2).trans rfl, (blk_cell BK601.out 3).trans rfl, (blk_cell BK601.out 4).trans rfl, (blk_cell BK601.out 5).trans rfl, (blk_cell BK601.out 6).trans rfl, ((HB.out.cell (World.block_lt_of_cell? w _ hw602_0)).trans hw602_0), ((HB.out.cell (World.block_lt_of_cell? w _ hw602_1)).trans hw602_1), ((HB.out.cell (World.block_lt_of_cell? w _ hw602_2)).trans hw602_2), ((HB.out.cell (World.block_lt_of_cell? w _ hw602_3)).trans hw602_3), ((HB.out.cell (World.block_lt_of_cell? w _ hw602_4)).trans hw602_4), ((HB.out.cell (World.block_lt_of_cell? w _ hw602_5)).trans hw602_5), ((HB.out.cell (World.block_lt_of_cell? w _ hw602_6)).trans hw602_6), ((HB.out.cell (World.block_lt_of_cell? w _ hw603_0)).trans hw603_0), ((HB.out.cell (World.block_lt_of_cell? w _ hw603_1)).trans hw603_1), ((HB.out.cell (World.block_lt_of_cell? w _ hw603_2)).trans hw603_2), ((HB.out.cell (World.block_lt_of_cell? w _ hw603_3)).trans hw603_3), ((HB.out.cell (World.block_lt_of_cell? w _ hw603_4)).trans hw603_4), ((HB.out.cell (World.block_lt_of_cell? w _ hw603_5)).trans hw603_5), ((HB.out.cell (World.block_lt_of_cell? w _ hw603_6)).trans hw603_6)⟩ (fun hHeld => ?_); refine with_tabW sashref05_Same.tab6 sashref05_Same.bits6 (fun HT_ HW_ => ?_)
           generalize wr.drew = w32 at BK600 BK601 HB HR602_6 HR603_6 hx602_0 hx602_1 hx602_2 hx602_3 hx602_4 hx602_5 hx602_6 hx603_0 hx603_1 hx603_2 hx603_3 hx603_4 hx603_5 hx603_6 hHeld ⊢
           refine pure_ (i := 0) (N := some 40) (v := ?_) (a' := ?_) #[true, false, false, false, false, false, false, false, false, false, false, false] rfl rfl (any_of HT_.out (by kernel_rfl)) (fun _ _ _ h => h) (Or.inl ⟨by rfl, ?_⟩) ?_ ?_
           rotate_left
           ·intro w'
            go_simp
            with_reducible rfl
           rotate_left
           ·simp only [Act.put, List.setIfInBounds_toArray, List.set_cons_zero, List.set_cons_succ, i64_w, i32_w]
            rfl
           refine pure_ (i := 2) (N := some 42) (v := ?_) (a' := ?_) #[true, false, true, false, false, false, false, false, false, false, false, false] rfl rfl (any_of HT_.out (by kernel_rfl)) (fun _ _ _ h => h) (Or.inl ⟨by rfl, ?_⟩) ?_ ?_
           rotate_left
           ·intro w'
            go_simp
            with_reducible rfl
           rotate_left
           ·simp only [Act.put, List.setIfInBounds_toArray, List.set_cons_zero, List.set_cons_succ, i64_w, i32_w]
            rfl
           refine pure_ (i := 5) (N := some 45) (v := ?_) (a' := ?_) #[true, false, true, false, false, true, false, false, false, false, false, false] rfl rfl (any_of HT_.out (by kernel_rfl)) (fun _ _ _ h => h) (Or.inl ⟨by rfl, ?_⟩) ?_ ?_
           rotate_left
           ·intro w'
            go_simp
            with_reducible rfl
           rotate_left
           ·simp only [Act.put, List.setIfInBounds_toArray, List.set_cons_zero, List.set_cons_succ, i64_w, i32_w]
            rfl
           refine pure_ (i := 7) (N := some 47) (v := ?_) (a' := ?_) #[true, false, true, false, false, true, false, true, false, false, false, false] rfl rfl (any_of HT_.out (by kernel_rfl)) (fun _ _ _ h => h) (Or.inl ⟨by rfl, ?_⟩) ?_ ?_
           rotate_left
           ·intro w'
            go_simp
            with_reducible rfl
           rotate_left
           ·simp only [Act.put, List.setIfInBounds_toArray, List.set_cons_zero, List.set_cons_succ, i64_w, i32_w]
            rfl
           refine take_ (i := 1) (N := some 41) (v := ?_) (a' := ?_) #[true, true, true, false, false, true, false, true, false, false, false, false] rfl rfl (take_ofW HT_.out HW_.out (by kernel_rfl)) (fun _ _ _ h => h) (Or.inl ⟨by rfl, ?_⟩) hHeld ?_ ?_
           rotate_left
           ·rintro w' ⟨s0, s1, s2, s3, s4, s5, s6, s7, s8, s9, s10, s11, s12, s13, s14, s15, s16, s17, s18, s19, s20, s21, s22, s23, s24, s25, s26, s27⟩
            go_simp
            with_reducible rfl
           rotate_left
           ·simp only [Act.put, List.setIfInBounds_toArray, List.set_cons_zero, List.set_cons_succ, i64_w, i32_w]
            rfl
           refine pure_ (i := 3) (N := some 43) (v := ?_) (a' := ?_) #[true, true, true, true, false, true, false, true, false, false, false, false] rfl rfl (any_of HT_.out (by kernel_rfl)) (fun _ _ _ h => h) (Or.inl ⟨by rfl, ?_⟩) ?_ ?_
           rotate_left
           ·intro w'
            go_simp
            with_reducible rfl
           rotate_left
           ·simp only [Act.put, List.setIfInBounds_toArray, List.set_cons_zero, List.set_cons_succ, i64_w, i32_w]
            rfl
           refine take_ (i := 4) (N := some 44) (v := ?_) (a' := ?_) #[true, true, true, true, true, true, false, true, false, false, false, false] rfl rfl (take_ofW HT_.out HW_.out (by kernel_rfl)) (fun _ _ _ h => h) (Or.inl ⟨by rfl, ?_⟩) hHeld ?_ ?_
           rotate_left
           ·rintro w' ⟨s0, s1, s2, s3, s4, s5, s6, s7, s8, s9, s10, s11, s12, s13, s14, s15, s16, s17, s18, s19, s20, s21, s22, s23, s24, s25, s26, s27⟩
            go_simp
            with_reducible rfl
           rotate_left
           ·simp only [Act.put, List.setIfInBounds_toArray, List.set_cons_zero, List.set_cons_succ, i64_w, i32_w]
            rfl
           refine take_ (i := 6) (N := some 46) (v := ?_) (a' := ?_) #[true, true, true, true, true, true, true, true, false, false, false, false] rfl rfl (take_ofW HT_.out HW_.out (by kernel_rfl)) (fun _ _ _ h => h) (Or.inl ⟨by rfl, ?_⟩) hHeld ?_ ?_
           rotate_left
           ·rintro w' ⟨s0, s1, s2, s3, s4, s5, s6, s7, s8, s9, s10, s11, s12, s13, s14, s15, s16, s17, s18, s19, s20, s21, s22, s23, s24, s25, s26, s27⟩
            go_simp
            with_reducible rfl
           rotate_left
           ·simp only [Act.put, List.setIfInBounds_toArray, List.set_cons_zero, List.set_cons_succ, i64_w, i32_w]
            rfl
           refine pure_ (i := 8) (N := some 48) (v := ?_) (a' := ?_) #[true, true, true, true, true, true, true, true, true, false, false, false] rfl rfl (any_of HT_.out (by kernel_rfl)) (fun _ _ _ h => h) (Or.inl ⟨by rfl, ?_⟩) ?_ ?_
           rotate_left
           ·intro w'
            go_simp
            with_reducible rfl
           rotate_left
           ·simp only [Act.put, List.setIfInBounds_toArray, List.set_cons_zero, List.set_cons_succ, i64_w, i32_w]
            rfl
           refine take_ (i := 9) (N := some 49) (v := ?_) (a' := ?_) #[true, true, true, true, true, true, true, true, true, true, false, false] rfl rfl (take_ofW HT_.out HW_.out (by kernel_rfl)) (fun _ _ _ h => h) (Or.inl ⟨by rfl, ?_⟩) hHeld ?_ ?_
           rotate_left
           ·rintro w' ⟨s0, s1, s2, s3, s4, s5, s6, s7, s8, s9, s10, s11, s12, s13, s14, s15, s16, s17, s18, s19, s20, s21, s22, s23, s24, s25, s26, s27⟩
            go_simp
            with_reducible rfl
           rotate_left
           ·simp only [Act.put, List.setIfInBounds_toArray, List.set_cons_zero, List.set_cons_succ, i64_w, i32_w]
            rfl
           refine one_ (i := 10) (N := some 50) #[true, true, true, true, true, true, true, true, true, true, true, false] rfl rfl (one_of HT_.out (by kernel_rfl)) (by decide) (fun K hK => ?_)
           refine goes_ Try.func64 (by kernel_rfl) rfl #[.agg #[.int .u8 ((rd_T26 l0_6 x37_2).f0), .int .i64 ((rd_T26 l0_6 x37_2).f1.f0), .int .i64 ((rd_T26 l0_6 x37_2).f1.f1), .int .i64 ((rd_T26 l0_6 x37_2).f1.f2), .int .i64 ((rd_T26 l0_6 x37_2).f1.f3), .int .i64 ((rd_T26 l0_6 x37_2).f2), .slice A602_6 ((rd_T26 l0_6 x37_2).f3).length c602_6], .agg #[.int .u8 ((rd_T26 l1_6 x37_2).f0), .int .i64 ((rd_T26 l1_6 x37_2).f1.f0), .int .i64 ((rd_T26 l1_6 x37_2).f1.f1), .int .i64 ((rd_T26 l1_6 x37_2).f1.f2), .int .i64 ((rd_T26 l1_6 x37_2).f1.f3), .int .i64 ((rd_T26 l1_6 x37_2).f2), .slice A603_6 ((rd_T26 l1_6 x37_2).f3).length c603_6]] (by rfl) rfl rfl (by (try simp only [List.map_toArray, List.map_cons, List.map_nil]); rfl) ?_
           with_reducible refine (ih k2 (by have := HJ2.out; have := HK2.out; omega) ((rd_T26 l0_6 x37_2).f0) ((rd_T26 l0_6 x37_2).f1.f0) ((rd_T26 l0_6 x37_2).f1.f1) ((rd_T26 l0_6 x37_2).f1.f2) ((rd_T26 l0_6 x37_2).f1.f3) ((rd_T26 l0_6 x37_2).f2) _ _ ((rd_T26 l0_6 x37_2).f3) ((rd_T26 l1_6 x37_2).f0) ((rd_T26 l1_6 x37_2).f1.f0) ((rd_T26 l1_6 x37_2).f1.f1) ((rd_T26 l1_6 x37_2).f1.f2) ((rd_T26 l1_6 x37_2).f1.f3) ((rd_T26 l1_6 x37_2).f2) _ _ ((rd_T26 l1_6 x37_2).f3) false _ ?side1 ?side2 ?side3 ?side4 A28.out).mono ?_
           (case side1 => repeat (exact (Kd.C_below HR602_6.out HB.out)))
           (case side2 => exact HC602_6.out)
           (case side3 => repeat (exact (Kd.C_below HR603_6.out HB.out)))
           (case side4 => exact HC603_6.out)
           rintro e w33 ⟨rfl, hb⟩
           refine ⟨_, rfl, ?_⟩
           replace BK600 := Aside0.mk (blk_below BK600.out hb); replace BK601 := Aside0.mk (blk_below BK601.out hb); replace HB := Aside0.mk (below_step (by repeat ((with_reducible exact HB.out))) hb)
           (try clear hb)
           (skip)
           (skip)
           (skip)
           refine hK.out _ _ ⟨(blk_cell BK600.out 0).trans rfl, (blk_cell BK600.out 1).trans rfl, (blk_cell BK600.out 2).trans rfl, (blk_cell BK600.out 3).trans rfl, (blk_cell BK600.out 4).trans rfl, (blk_cell BK600.out 5).trans rfl, (blk_cell BK600.out 6).trans rfl, (blk_cell BK601.out 0).trans rfl, (blk_cell BK601.out 1).trans rfl, (blk_cell BK601.out 2).trans rfl, (blk_cell BK601.out 3).trans rfl, (blk_cell BK601.out 4).trans rfl, (blk_cell BK601.out 5).trans rfl, (blk_cell BK601.out 6).trans rfl, ((HB.out.cell (World.block_lt_of_cell? w _ hw602_0)).trans hw602_0), ((HB.out.cell (World.block_lt_of_cell? w _ hw602_1)).trans hw602_1), ((HB.out.cell (World.block_lt_of_cell? w _ hw602_2)).trans hw602_2), ((HB.out.cell (World.block_lt_of_cell? w _ hw602_3)).trans hw602_3), ((HB.out.cell (World.block_lt_of_cell? w _ hw602_4)).trans hw602_4), ((HB.out.cell (World.block_lt_of_cell? w _ hw602_5)).trans hw602_5), ((HB.out.cell (World.block_lt_of_cell? w _ hw602_6)).trans hw602_6), ((HB.out.cell (World.block_lt_of_cell? w _ hw603_0)).trans hw603_0), ((HB.out.cell (World.block_lt_of_cell? w _ hw603_1)).trans hw603_1), ((HB.out.cell (World.block_lt_of_cell? w _ hw603_2)).trans hw603_2), ((HB.out.cell (World.block_lt_of_cell? w _ hw603_3)).trans hw603_3), ((HB.out.cell (World.block_lt_of_cell? w _ hw603_4)).trans hw603_4), ((HB.out.cell (World.block_lt_of_cell? w _ hw603_5)).trans hw603_5), ((HB.out.cell (World.block_lt_of_cell? w _ hw603_6)).trans hw603_6)⟩ (fun hHeld => ?_)
           clear hK K
           refine norm_ (a' := ?_) ?_ ?_
           rotate_left
           ·show Act.put _ (some 50) _ = _
            simp only [Act.put, List.setIfInBounds_toArray, List.set_cons_zero, List.set_cons_succ, i64_w, i32_w]
            rfl
           refine pure_ (i := 11) (N := some 51) (v := ?_) (a' := ?_) #[true, true, true, true, true, true, true, true, true, true, true, true] rfl rfl (any_of HT_.out (by kernel_rfl)) (fun _ _ _ h => h) (Or.inl ⟨by rfl, ?_⟩) ?_ ?_
           rotate_left
           ·intro w'
            go_simp
            with_reducible rfl
           rotate_left
           ·simp only [Act.put, List.setIfInBounds_toArray, List.set_cons_zero, List.set_cons_succ, i64_w, i32_w]
            rfl
           refine done_ (done_of HT_.out (by kernel_rfl)) ?_
           try go_wp2
           go_ret
           exact ⟨by rfl, by repeat ((with_reducible exact HB.out))⟩
         ·rw [if_neg c27] at H
          exact absurd H (by simp)
        ·rw [if_neg c26] at H
         exact absurd H (by simp)
       ·rw [if_neg c25] at H
        exact absurd H (by simp)
      ·rw [if_neg c24] at H
       have c24b0 : decide (x37_2 < (l0_6.length : Int)) = false := decide_eq_false c24
       clear c24
       obtain rfl := Option.some.inj H
       go_wp2
       go_ret
       exact ⟨by rfl, by repeat ((with_reducible exact HB.out))⟩

end Go.Proofs.Ytfdmfgaiblfbhaa.P
/- The reference's sameness of trees: plain data. -/
namespace Go.Proofs.Ytfdmfgaiblfbhaa.P
open Go.RowKit Go.Proofs.YtfdmfgaiblfbhaaW.PrintWords Go.Proofs.YtfdmfgaiblfbhaaW.PrintLast Go.Proofs.YtfdmfgaiblfbhaaW.PrintMore

def rectB (a b : S23) : Bool := a.f0 == b.f0 && (a.f1 == b.f1 && (a.f2 == b.f2 && a.f3 == b.f3))
mutual
def sameC : S26 → S26 → Bool
  | ⟨a, r, d, l⟩, ⟨a', r', d', l'⟩ => a == a' && (rectB r r' && (d == d' && (l.length == l'.length && sameL l l')))
def sameL : List S26 → List S26 → Bool
  | [], _ => true
  | _ :: _, [] => true
  | c :: cs, e :: es => sameC c e && sameL cs es
end
theorem sameC_eq (a b : S26) : sameC a b = (a.f0 == b.f0 && (rectB a.f1 b.f1 && (a.f2 == b.f2 && (a.f3.length == b.f3.length && sameL a.f3 b.f3)))) := by cases a; cases b; simp [sameC]
theorem sameL_nil (b : List S26) : sameL [] b = true := by cases b <;> simp [sameL]
theorem sameL_cons (c e : S26) (cs es : List S26) : sameL (c :: cs) (e :: es) = (sameC c e && sameL cs es) := by simp [sameL]
theorem same_ev : ∀ (N : Nat) (a : S26), sz a ≤ N → N ≤ 1048576 → ∀ b : S26, Ev (fun k => sashref05_Same.f k a.f0 a.f1.f0 a.f1.f1 a.f1.f2 a.f1.f3 a.f2 a.f3 b.f0 b.f1.f0 b.f1.f1 b.f1.f2 b.f1.f3 b.f2 b.f3) (sameC a b) := by
  intro N
  induction N with
  | zero => intro a h _; rw [sz_eq] at h; omega
  | succ N ih =>
    intro a ha hN b
    have hs := sz_eq a
    have hlen := szL_len a.f3
    have jt : Ev (fun k => sashref05_Same.j0 k true a.f0 a.f1.f0 a.f1.f1 a.f1.f2 a.f1.f3 a.f2 a.f3 b.f0 b.f1.f0 b.f1.f1 b.f1.f2 b.f1.f3 b.f2 b.f3) false := by
      refine Ev.step (f := fun _ => some false) (fun k => ?_) (Ev.now _)
      simp only [sashref05_Same.j0]
      rw [if_pos trivial]
    have key : a.f3.length = b.f3.length → ∀ (rest pre rb pb : List S26), pre ++ rest = a.f3 → pb ++ rb = b.f3 → pre.length = pb.length → Ev (fun k => sashref05_Same.l0 k (a.f3.length : Int) (pre.length : Int) a.f0 a.f1.f0 a.f1.f1 a.f1.f2 a.f1.f3 a.f2 a.f3 b.f0 b.f1.f0 b.f1.f1 b.f1.f2 b.f1.f3 b.f2 b.f3) (sameL rest rb) := by
      intro hl rest
      induction rest with
      | nil =>
        intro pre rb pb hp hb he
        rw [List.append_nil] at hp
        rw [sameL_nil]
        refine Ev.step (f := fun _ => some true) (fun k => ?_) (Ev.now _)
        simp only [sashref05_Same.l0]
        rw [if_neg (by rw [hp]; omega)]
      | cons x xs ihr =>
        intro pre rb pb hp hb he
        have h1 : a.f3.length = pre.length + (xs.length + 1) := by rw [← hp, List.length_append, List.length_cons]
        cases rb with
        | nil => rw [List.append_nil] at hb; rw [← hb] at hl; omega
        | cons y ys =>
          have h2 : b.f3.length = pb.length + (ys.length + 1) := by rw [← hb, List.length_append, List.length_cons]
          have hsum : szL a.f3 = szL pre + (sz x + szL xs) := by rw [← hp, szL_app, szL_cons]
          have e2 := ihr (pre ++ [x]) ys (pb ++ [y]) (by rw [List.append_assoc]; exact hp) (by rw [List.append_assoc]; exact hb) (by rw [List.length_append, List.length_append, he]; rfl)
          have hr : rd_T26 a.f3 (pre.length : Int) = x := by rw [← hp]; exact rd26_in pre x xs
          have hr2 : rd_T26 b.f3 (pre.length : Int) = y := by rw [he, ← hb]; exact rd26_in pb y ys
          have hu : wrap64 ((pre.length : Int) + 1) = ((pre ++ [x]).length : Int) := up_in pre x xs (by rw [hp]; omega)
          rw [sameL_cons]
          refine Ev.step (f := fun k => (sashref05_Same.f k x.f0 x.f1.f0 x.f1.f1 x.f1.f2 x.f1.f3 x.f2 x.f3 y.f0 y.f1.f0 y.f1.f1 y.f1.f2 y.f1.f3 y.f2 y.f3).bind fun t => (if t = true then (sashref05_Same.l0 k (a.f3.length : Int) (wrap64 ((pre.length : Int) + 1)) a.f0 a.f1.f0 a.f1.f1 a.f1.f2 a.f1.f3 a.f2 a.f3 b.f0 b.f1.f0 b.f1.f1 b.f1.f2 b.f1.f3 b.f2 b.f3) else (some false))) (fun k => ?_) (Ev.bind (ih x (by omega) (by omega) y) ?_)
          · simp only [sashref05_Same.l0]
            rw [if_pos (by omega), if_pos (by omega), if_pos (by omega), if_pos (by omega), hr, hr2]
          · cases hxy : sameC x y with
            | false => exact ev_neg (by simp) (Ev.now _)
            | true => rw [hu, Bool.true_and]; exact ev_pos rfl e2
    have jl : Ev (fun k => sashref05_Same.j0 k ((a.f3.length : Int) != (b.f3.length : Int)) a.f0 a.f1.f0 a.f1.f1 a.f1.f2 a.f1.f3 a.f2 a.f3 b.f0 b.f1.f0 b.f1.f1 b.f1.f2 b.f1.f3 b.f2 b.f3) (a.f3.length == b.f3.length && sameL a.f3 b.f3) := by
      by_cases hl : a.f3.length = b.f3.length
      · have e1 : ((a.f3.length : Int) != (b.f3.length : Int)) = false := by simp [hl]
        have e2 : (a.f3.length == b.f3.length) = true := by simp [hl]
        rw [e1, e2, Bool.true_and]
        refine Ev.step (fun k => ?_) (key hl a.f3 [] b.f3 [] rfl rfl rfl)
        simp only [sashref05_Same.j0]
        rw [if_neg (by simp)]
        rfl
      · have e1 : ((a.f3.length : Int) != (b.f3.length : Int)) = true := by simp; omega
        have e2 : (a.f3.length == b.f3.length) = false := by simp [hl]
        rw [e1, e2, Bool.false_and]
        exact jt
    rw [sameC_eq]
    by_cases h0 : a.f0 = b.f0
    · rw [show (a.f0 == b.f0) = true from by simp [h0], Bool.true_and]
      have hr : (!(a.f1.f0 == b.f1.f0) || (!(a.f1.f1 == b.f1.f1) || (!(a.f1.f2 == b.f1.f2) || (!(a.f1.f3 == b.f1.f3))))) = !(rectB a.f1 b.f1) := by simp [rectB, Bool.not_and]
      cases h1 : rectB a.f1 b.f1 with
      | false =>
        rw [Bool.false_and]
        refine Ev.step (fun k => ?_) jt
        simp only [sashref05_Same.f]
        rw [if_pos h0, hr, h1, Bool.not_false, if_pos rfl]
      | true =>
        rw [Bool.true_and]
        by_cases h2 : a.f2 = b.f2
        · rw [show (a.f2 == b.f2) = true from by simp [h2], Bool.true_and]
          refine Ev.step (fun k => ?_) jl
          simp only [sashref05_Same.f]
          rw [if_pos h0, hr, h1, if_neg (by simp), if_pos h2]
        · rw [show (a.f2 == b.f2) = false from by simp [h2], Bool.false_and]
          refine Ev.step (fun k => ?_) jt
          simp only [sashref05_Same.f]
          rw [if_pos h0, hr, h1, if_neg (by simp), if_neg h2]
    · rw [show (a.f0 == b.f0) = false from by simp [h0], Bool.false_and]
      refine Ev.step (fun k => ?_) jt
      simp only [sashref05_Same.f]
      rw [if_neg h0]
theorem sameC_refl : ∀ (N : Nat), (∀ c : S26, sz c ≤ N → sameC c c = true) ∧ (∀ l : List S26, szL l ≤ N → sameL l l = true) := by
  intro N
  induction N with
  | zero =>
    refine ⟨fun c h => ?_, fun l h => ?_⟩
    · rw [sz_eq] at h; omega
    · cases l with
      | nil => exact sameL_nil _
      | cons x xs => rw [szL_cons, sz_eq] at h; omega
  | succ N ih =>
    have hC : ∀ c : S26, sz c ≤ N + 1 → sameC c c = true := by
      intro c h
      rw [sz_eq] at h
      rw [sameC_eq, ih.2 c.f3 (by omega)]
      simp [rectB]
    refine ⟨hC, fun l => ?_⟩
    induction l with
    | nil => intro _; exact sameL_nil _
    | cons x xs ihl =>
      intro h
      rw [szL_cons] at h
      rw [sameL_cons, hC x (by omega), ihl (by omega)]
      rfl
theorem same_self (c : S26) (h : sz c ≤ 1048576) : Ev (fun k => sashref05_Same.f k c.f0 c.f1.f0 c.f1.f1 c.f1.f2 c.f1.f3 c.f2 c.f3 c.f0 c.f1.f0 c.f1.f1 c.f1.f2 c.f1.f3 c.f2 c.f3) true := by
  have e := same_ev (sz c) c (Nat.le_refl _) h c
  rwa [(sameC_refl (sz c)).1 c (Nat.le_refl _)] at e
end Go.Proofs.Ytfdmfgaiblfbhaa.P
namespace Go.Proofs.Ytfdmfgaiblfbhaa.P
open Go.RowKit Go.Proofs.YtfdmfgaiblfbhaaW.PrintWords Go.Proofs.YtfdmfgaiblfbhaaW.PrintLast Go.Proofs.YtfdmfgaiblfbhaaW.PrintMore
attribute [local go_sem] max2_int min2_int max_two min_two max_three min_three max_four min_four   -- for this text's walks alone
set_option linter.unusedVariables false
set_option linter.unusedSimpArgs false

/-! ### sashref05_Find: function 90 -/
mutual
def sashref05_Find.j0 : Nat → Int → Bool → Int → Int → Int → Int → Int → Int → List (S26) → Option (List Int × Bool)
 | 0, _, _, _, _, _, _, _, _, _ => none
 | k + 1, x1, x17, x1003000, x1003001, x1003002, x1003003, x1003004, x1003005, x1003006 => if x17 = true then (some ((([] : List Int)), true)) else (sashref05_Find.l0 k x1 (x1003006.length : Int) 0 x1003000 x1003001 x1003002 x1003003 x1003004 x1003005 x1003006)
def sashref05_Find.l0 : Nat → Int → Int → Int → Int → Int → Int → Int → Int → Int → List (S26) → Option (List Int × Bool)
 | 0, _, _, _, _, _, _, _, _, _, _ => none
 | k + 1, x1, x21, x22, x1003000, x1003001, x1003002, x1003003, x1003004, x1003005, x1003006 => if x22 < x21 then (if 0 ≤ x22 then (if x22 < (x1003006.length : Int) then ((sashref05_Find.f k ((rd_T26 x1003006 x22).f0) ((rd_T26 x1003006 x22).f1.f0) ((rd_T26 x1003006 x22).f1.f1) ((rd_T26 x1003006 x22).f1.f2) ((rd_T26 x1003006 x22).f1.f3) ((rd_T26 x1003006 x22).f2) ((rd_T26 x1003006 x22).f3) x1).bind fun bt1007 => (if bt1007.2 = true then ((some (([x22] : List Int) : List Int)).bind fun y1011 => (if y1011.length + bt1007.1.length < 17592186044416 then (some ((y1011 ++ bt1007.1), true)) else (none))) else (sashref05_Find.l0 k x1 x21 (wrap64 (x22 + 1)) x1003000 x1003001 x1003002 x1003003 x1003004 x1003005 x1003006))) else (none)) else (none)) else (some ((([] : List Int)), false))
def sashref05_Find.f : Nat → Int → Int → Int → Int → Int → Int → List (S26) → Int → Option (List Int × Bool)
 | 0, _, _, _, _, _, _, _, _ => none
 | k + 1, a0_0, a0_1, a0_2, a0_3, a0_4, a0_5, l0_6, a1 => if a0_0 = 1 then (sashref05_Find.j0 k a1 (a0_5 == a1) a0_0 a0_1 a0_2 a0_3 a0_4 a0_5 l0_6) else (sashref05_Find.j0 k a1 false a0_0 a0_1 a0_2 a0_3 a0_4 a0_5 l0_6)
end
end Go.Proofs.Ytfdmfgaiblfbhaa.P
/- The contract of slices.Clone at api.Cell: the same cells, in a row of the call's own; what they lead to is shared. -/
namespace Go.Proofs.Ytfdmfgaiblfbhaa.P
open Go.RowKit Go.Proofs.YtfdmfgaiblfbhaaW.PrintWords Go.Proofs.YtfdmfgaiblfbhaaW.PrintLast Go.Proofs.YtfdmfgaiblfbhaaW.PrintMore

def api_Cell_137.f (l0 : List (S26)) : Option (List S26) := if l0.length ≤ 1000000 then some l0 else none
set_option maxHeartbeats 2000000 in
set_option maxRecDepth 100000 in
theorem api_Cell_137.calls (P0_ : Nat → Prop) (A0 : Option Addr) (c0 : Nat) (l0 : List (S26)) (r : List S26) (w : World) (hs0 : Kd.V k26 26 w w.heap.size (fun k_ => P0_ k_) (.slice A0 l0.length c0) l0) (h : api_Cell_137.f l0 = some r) :
    Calls Try.prog 137 #[.slice A0 l0.length c0] w fun e w' => ∃ v0_ : Value, e = .returned (v0_) ∧ Kd.N k26 26 w' w.heap.size (fun k_ => (P0_ k_ ∨ w.heap.size ≤ k_)) v0_ r ∧ Below w.heap.size w w' := by
  unfold api_Cell_137.f at h
  split at h
  · rename_i hl
    injection h with h
    subst h
    have HR := Aside0.mk (Kd.V_F hs0)
    have HL := Aside0.mk hl
    clear hl
    cases A0 with
    | none =>
      have heq : ∀ W : World, (binOp .eql 24 (.slice none l0.length c0) (.slice none 0 0)).run Try.prog W = .ok (.bool true) W := fun W => Lib.run_eql_slice_nil W 24 26 none l0.length c0 0 0 Try.underlying24
      have e0 : l0 = [] := by
        cases l0 with
        | nil => rfl
        | cons x xs =>
          obtain ⟨ad, h1, _⟩ := (Kd.F_now HR.out).2.2 (by simp)
          cases h1
      have E0 := Aside0.mk e0
      clear hs0 e0
      go_enter Try.func137, Try.ntmps137
      go_wp2
      go_ret
      exact ⟨_, rfl, by rw [E0.out]; exact Kd.N_nil _ _ _ _ _, Below.refl _ _⟩
    | some ad =>
      have heq : ∀ W : World, (binOp .eql 24 (.slice (some ad) l0.length c0) (.slice none 0 0)).run Try.prog W = .ok (.bool false) W := fun W => Lib.run_eql_slice_nil W 24 26 (some ad) l0.length c0 0 0 Try.underlying24
      clear hs0
      go_enter Try.func137, Try.ntmps137
      go_wp2_with (first | ((with_reducible refine gate_dst (N := 5) rfl ?_); refine Kd.N_lit k26 w.heap.size 26 ?hg (N' := 5) ?hd (xs := ([] : List S26)) (inner := []) (ok := fun k_ => (P0_ k_ ∨ w.heap.size ≤ k_)) (okp := fun _ => False) ?hr ?hp (fun _ hk => hk.elim) (.inr (Nat.le_refl _)) (Below.refl _ _) (Nat.le_refl _) (by simp) ?_; (case hd => rfl); (case hg => rfl); (case hr => first | (go_simp; done) | (go_simp; rfl)); (case hp => exact Reps.none _ _); intro v5 w5 ho hb hg_ hnew_; clear hg_; have HO := Aside0.mk ho; have HB := Aside0.mk hb; have HF := Aside0.mk (Kd.F_mono (Kd.F_elder' (v := v5) HR.out (fun k hk => by obtain ⟨b, h1, h2⟩ := hnew_; rw [h1] at hk; cases hk; exact h2) hb) (fun k hk => hk)); clear ho hb hnew_; obtain ⟨Ao, co, eo⟩ := Kd.N_slice HO.out; subst eo) | ((with_reducible refine gate_builtin (b := .append) (xs := #[.tmp 5, .tmp 6]) rfl ?_); at_builtin; refine Kd.N_append_rows k26 (w0 := w) w.heap.size rfl (.tmp 5) (.tmp 6) 24 26 (.agg #[(.int .u8 0), (.int .i64 0), (.int .i64 0), (.int .i64 0), (.int .i64 0), (.int .i64 0), (.slice none 0 0)]) 72 rfl Try.underlying24 info26 rfl (by decide) (by omega) (.slice Ao ([] : List S26).length co) [] l0 _ _ _ (fun k_ => (P0_ k_ ∨ w.heap.size ≤ k_)) (fun k_ => P0_ k_ ∧ some k_ ≠ (Value.slice Ao ([] : List S26).length co).ownBlock) rfl rfl ?aO ?aR (fun _ h => ⟨.inl h.1, h.2⟩) (fun k hk => .inr (Nat.le_trans (below_size HB.out) hk)) ?aB ?aS ?aL ?_; (case aO => exact HO.out); (case aR => exact HF.out); (case aB => exact HB.out); (case aS => exact below_size HB.out); (case aL => (have := HL.out; simp only [List.length_nil]; omega)); intro v7 w7 h1 h2 h3_ h4_; clear h3_ h4_; have HO7 := Aside0.mk h1; have HB7 := Aside0.mk h2; clear h1 h2 HO HB HF))
      go_wp2
      go_ret
      exact ⟨_, rfl, HO7.out, HB7.out⟩
  · exact absurd h (by simp)
end Go.Proofs.Ytfdmfgaiblfbhaa.P
/- The contract of cell.clone: the same tree, in rows of the call's own. Condition: at most 1000000 cells. -/
namespace Go.Proofs.Ytfdmfgaiblfbhaa.P
open Go.RowKit Go.Proofs.YtfdmfgaiblfbhaaW.PrintWords Go.Proofs.YtfdmfgaiblfbhaaW.PrintLast Go.Proofs.YtfdmfgaiblfbhaaW.PrintMore
set_option linter.unusedVariables false
set_option linter.unusedSimpArgs false
def cell_clone.T5 : Bool × List (List Nat × List Nat) := (true, [([], []), ([0], [0]), ([], []), ([], []), ([3], [3]), ([1, 2, 0, 1, 2, 3, 4], [1, 2]), ([5, 4, 4, 0, 1, 2, 3, 4], [4, 5])])
def cell_clone.B5 : List Nat := [0, 1, 0, 0, 8, 31, 63]
theorem cell_clone.tab5 : rtab .any (opsOf Try.f151 5) = cell_clone.T5 := by kernel_rfl
theorem cell_clone.bits5 : waitsOk cell_clone.T5.2 cell_clone.B5 = true := by kernel_rfl
set_option maxHeartbeats 4000000 in
set_option maxRecDepth 100000 in
theorem clone151 : ∀ (N : Nat) (c : S26), sz c ≤ N → N ≤ 1000000 → ∀ (P : Nat → Prop) (A : Option Addr) (cc : Nat) (w : World), Kd.V k26 26 w w.heap.size P (.slice A c.f3.length cc) c.f3 →
    Calls Try.prog 151 #[.agg #[.int .u8 c.f0, .int .i64 c.f1.f0, .int .i64 c.f1.f1, .int .i64 c.f1.f2, .int .i64 c.f1.f3, .int .i64 c.f2, .slice A c.f3.length cc]] w
      fun e w' => ∃ v : Value, e = .returned (.agg #[.int .u8 c.f0, .int .i64 c.f1.f0, .int .i64 c.f1.f1, .int .i64 c.f1.f2, .int .i64 c.f1.f3, .int .i64 c.f2, v]) ∧ Kd.N k26 26 w' w.heap.size (fun k => P k ∨ w.heap.size ≤ k) v c.f3 ∧ Below w.heap.size w w' := by
  intro N
  induction N with
  | zero => intro c h; rw [sz_eq] at h; omega
  | succ N ih =>
    intro c hc hN P A cc w hs
    have hsz := sz_eq c
    have hlen := szL_len c.f3
    have IH := Aside0.mk fun (k : S26) (hk : k ∈ c.f3) => ih k (by
      have : sz k ≤ szL c.f3 := by
        obtain ⟨p, q, e⟩ := List.append_of_mem hk
        rw [e, szL_app, szL_cons]; omega
      omega) (by omega)
    have H137 := Aside0.mk fun (W : World) (P' : Nat → Prop) (hV : Kd.V k26 26 W w.heap.size P' (.slice A c.f3.length cc) c.f3) => api_Cell_137.calls P' A cc c.f3 c.f3 W hV (if_pos (by omega))
    have HO := Aside0.mk hs
    have HL := Aside0.mk (show c.f3.length ≤ 1000000 by omega)
    have HB := Aside0.mk (Below.refl w.heap.size w)
    clear ih hs hc hN hsz hlen
    obtain ⟨ck, ⟨cx, cy, cw, ch⟩, cid, l⟩ := c
    simp only [] at HO HL IH H137 ⊢
    go_enter Try.func151, Try.ntmps151
    go_upto_region 1 with (first
      | ((with_reducible refine gate_dst (N := 1) rfl ?_); refine box_event ?hg (N := 1) ?hd (cs := #[.int .u8 ck, .int .i64 cx, .int .i64 cy, .int .i64 cw, .int .i64 ch, .int .i64 cid, .slice A l.length cc]) (t := 26) ?hr ?_; (case hd => rfl); (case hg => rfl); (case hr => first | (go_simp; done) | (go_simp; rfl)); intro b3 hg wb3 hbox hb; have Gb3 := Aside0.mk (show w.heap.size ≤ b3 by rw [hg]; exact HB.out.size); have qHB_ := Aside0.mk (below_step HB.out hb); have qHO_ := Aside0.mk (Kd.V_below (Kd.V_elderB HO.out b3 (by rw [hg]; exact Nat.le_refl _)) hb); clear HB HO; have HB := qHB_; have HO := qHO_; clear qHB_ qHO_; have Kb3 := Aside0.mk hbox; clear hb hbox hg)
      | ((with_reducible refine gate_dst (N := 2) rfl ?_); refine box_event ?hg (N := 2) ?hd (cs := #[.int .u8 0, .int .i64 0, .int .i64 0, .int .i64 0, .int .i64 0, .int .i64 0, .slice none 0 0]) (t := 26) ?hr ?_; (case hd => rfl); (case hg => rfl); (case hr => first | (go_simp; done) | (go_simp; rfl)); intro b6 hg wb6 hbox hb; have Gb6 := Aside0.mk (show w.heap.size ≤ b6 by rw [hg]; exact HB.out.size); have NE_b3_b6 := Aside0.mk (show b3 ≠ b6 by rw [hg]; exact Nat.ne_of_lt (blk_lt Kb3.out)); have qHB_ := Aside0.mk (below_step HB.out hb); have qHO_ := Aside0.mk (Kd.V_below (Kd.V_elderB HO.out b6 (by rw [hg]; exact Nat.le_refl _)) hb); have qKb3_ := Aside0.mk (blk_below Kb3.out hb); clear HB HO Kb3; have HB := qHB_; have HO := qHO_; have Kb3 := qKb3_; clear qHB_ qHO_ qKb3_; have Kb6 := Aside0.mk hbox; clear hb hbox hg)
      | fail)
    have c36 : _ = some (Value.slice A l.length cc) := (blk_cell Kb3.out 6).trans rfl
    go_upto_region 2 with (first
      | ((with_reducible refine gate_callee (f := 137) rfl ?_); refine goesL_ (some 7) rfl rfl Try.func137 (by kernel_rfl) rfl #[.slice A l.length cc] rfl (by (try simp only [List.map_toArray, List.map_cons, List.map_nil]); first | done | rfl) ?_; refine (H137.out _ _ HO.out).mono ?_; rintro e wc1 ⟨v1, rfl, ho, hb⟩; refine ⟨_, rfl, ?_⟩; have HN := Aside0.mk (N_fresh2 ho (blk_lt Kb3.out) (blk_lt Kb6.out) HB.out.size); clear ho HO; obtain ⟨A1, c1, e1⟩ := Kd.N_slice HN.out; subst e1; have qHB_ := Aside0.mk (below_step HB.out hb); have qKb3_ := Aside0.mk (blk_below Kb3.out hb); have qKb6_ := Aside0.mk (blk_below Kb6.out hb); clear HB Kb3 Kb6; have HB := qHB_; have Kb3 := qKb3_; have Kb6 := qKb6_; clear qHB_ qKb3_ qKb6_; clear hb)
      | ((with_reducible refine gate_ (.store 24 (.tmp 8) (.tmp 7)) rfl ?_); go_loud (refine box_store (w0 := w) rfl rfl 24 (.tmp 8) (.tmp 7) rfl (g := b3) (j := 6) (base := w.heap.size) #[.int .u8 ck, .int .i64 cx, .int .i64 cy, .int .i64 cw, .int .i64 ch, .int .i64 cid, .slice A1 l.length c1] (u := .slice A1 l.length c1) (seg := [.slice A1 l.length c1]) ?sA ?sX rfl ?sT ?s1 Kb3.out ?sJ rfl HB.out HB.out.size Gb3.out ?_; (case sA => rfl); (case sX => rfl); (case sT => rfl); (case s1 => (simp [Value.oneCell'])); (case sJ => (first | decide | simp)); intro ws1 hbk hbb hgg; have qKb6_ := Aside0.mk (blk_grown Kb6.out hgg (fun e_ => absurd (Option.some.inj e_) (by first | exact NE_b6_b3.out | exact (fun e2_ => NE_b3_b6.out e2_.symm)))); have qHN_ := Aside0.mk (Kd.N_grown HN.out hgg (fun k_ hk e_ => absurd (Option.some.inj e_) (by first | exact hk.2 | exact hk.1.2 | exact hk.1.1.2 | exact hk.1.1.1.2 | exact hk.2.2 | exact hk.2.1 | exact hk.2.2.1 | exact hk.2.2.2))); clear Kb6 HN; have Kb6 := qKb6_; have HN := qHN_; clear qKb6_ qHN_; clear Kb3 HB; have Kb3 := Aside0.mk hbk; have HB := Aside0.mk hbb; clear hbk hbb hgg))
      | fail)
    clear c36
    have c36 : _ = some (Value.slice A1 l.length c1) := (blk_cell Kb3.out 6).trans rfl
    go_wp2
    clear c36
    go_loopg [12] l.length (fun gg v22 wr => ∃ (pre rest : List S26), v22 = .int .i64 (pre.length : Int) ∧ Aside0 (pre ++ rest = l) ∧ rest.length ≤ gg ∧ Aside0 (Kd.N k26 26 wr w.heap.size (fun q => ((P q ∨ w.heap.size ≤ q) ∧ q ≠ b3) ∧ q ≠ b6) (.slice A1 l.length c1) l) ∧ Aside0 (wr.heap[b3]? = some (.cells #[.int .u8 ck, .int .i64 cx, .int .i64 cy, .int .i64 cw, .int .i64 ch, .int .i64 cid, .slice A1 l.length c1] 26 (0, 0))) ∧ Aside0 (wr.heap[b6]? = some (.cells #[.int .u8 0, .int .i64 0, .int .i64 0, .int .i64 0, .int .i64 0, .int .i64 0, .slice none 0 0] 26 (0, 0))) ∧ Aside0 (Below w.heap.size w wr))
    case atStart => exact ⟨[], l, rfl, ⟨rfl⟩, Nat.le_refl _, HN, Kb3, Kb6, HB⟩
    case round =>
      clear HN Kb3 Kb6 HB
      obtain ⟨pre, rest, rfl, HE, hgg, HN, Kb3, Kb6, HB⟩ := hrel
      cases rest with
      | nil =>
        have hpl : pre = l := by have := HE.out; rwa [List.append_nil] at this
        have hlt : ¬ ((pre.length : Int) < (l.length : Int)) := by rw [hpl]; omega
        clear hpl hgg
        have c30 := (blk_cell Kb3.out 0).trans rfl
        have c31 := (blk_cell Kb3.out 1).trans rfl
        have c32 := (blk_cell Kb3.out 2).trans rfl
        have c33 := (blk_cell Kb3.out 3).trans rfl
        have c34 := (blk_cell Kb3.out 4).trans rfl
        have c35 := (blk_cell Kb3.out 5).trans rfl
        have c36 := (blk_cell Kb3.out 6).trans rfl
        go_wp2_with (first
      | ((with_reducible refine gate_ (.store 26 (.tmp 2) (.tmp 24)) rfl ?_); go_loud (refine box_store (w0 := w) rfl rfl 26 (.tmp 2) (.tmp 24) rfl (g := b6) (j := 0) (base := w.heap.size) #[.int .u8 ck, .int .i64 cx, .int .i64 cy, .int .i64 cw, .int .i64 ch, .int .i64 cid, .slice A1 l.length c1] (u := .agg #[.int .u8 ck, .int .i64 cx, .int .i64 cy, .int .i64 cw, .int .i64 ch, .int .i64 cid, .slice A1 l.length c1]) (seg := [.int .u8 ck, .int .i64 cx, .int .i64 cy, .int .i64 cw, .int .i64 ch, .int .i64 cid, .slice A1 l.length c1]) ?sA ?sX rfl ?sT ?s1 Kb6.out ?sJ rfl HB.out HB.out.size Gb6.out ?_; (case sA => rfl); (case sX => rfl); (case sT => rfl); (case s1 => (simp [Value.oneCell'])); (case sJ => (first | decide | simp)); intro ws21 hbk hbb hgg; have qHN_ := Aside0.mk (Kd.N_grown HN.out hgg (fun k_ hk e_ => absurd (Option.some.inj e_) (by first | exact hk.2 | exact hk.1.2 | exact hk.1.1.2 | exact hk.1.1.1.2 | exact hk.2.2 | exact hk.2.1 | exact hk.2.2.1 | exact hk.2.2.2))); have qKb3_ := Aside0.mk (blk_grown Kb3.out hgg (fun e_ => absurd (Option.some.inj e_) (by first | exact NE_b3_b6.out | exact (fun e2_ => NE_b6_b3.out e2_.symm)))); clear HN Kb3; have HN := qHN_; have Kb3 := qKb3_; clear qHN_ qKb3_; clear Kb6 HB; have Kb6 := Aside0.mk hbk; have HB := Aside0.mk hbb; clear hbk hbb hgg))
      | fail)
        refine bodyPost_ret (results_cell_row rfl _ _ b6 26 #[.int .u8 ck, .int .i64 cx, .int .i64 cy, .int .i64 cw, .int .i64 ch, .int .i64 cid, .slice A1 l.length c1] (0, 0) _ rfl Kb6.out Try.underlying26 rfl (by kernel_rfl)) rfl ?_
        exact ⟨_, rfl, Kd.N_mono HN.out (fun q hq => hq.1.1), HB.out⟩
      | cons k rest =>
        have hk : k ∈ l := by rw [← HE.out]; simp
        have hlt : (pre.length : Int) < (l.length : Int) := by rw [← HE.out, List.length_append, List.length_cons]; omega
        have hw : wrap64 ((pre.length : Int) + 1) = ((pre ++ [k]).length : Int) := by rw [List.length_append, List.length_singleton]; unfold wrap64; have := HL.out; omega
        obtain ⟨g, cap, he, hgb, hglt, _⟩ := Kd.N_form HN.out (by omega)
        injection he with ea en ec
        subst ea
        subst ec
        clear en
        have HGB := Aside0.mk hgb
        obtain ⟨ce, hcl, hM, hcc, hfr⟩ := Kd.N_elem HN.out z26 (pre.length : Int) (Int.natCast_nonneg _) hlt
        have hrd : l.getD (pre.length : Int).toNat z26 = k := by rw [← HE.out, Int.toNat_natCast]; simp [List.getD_eq_getElem?_getD]
        rw [hrd] at hM
        obtain ⟨ua, uc, rfl, ul, ge⟩ := k26_openF hM
        have HV := Aside0.mk (show Kd.V k26 26 wr w.heap.size _ (.slice ua k.f3.length uc) k.f3 from Kd.V_mk ul ge)
        have HRD := Aside0.mk hrd
        have x0 : wr.cell? ⟨g, pre.length * 7, none⟩ = some (.int .u8 k.f0) := hcc 0 _ rfl
        have x1 : wr.cell? ⟨g, pre.length * 7 + 1, none⟩ = some (.int .i64 k.f1.f0) := hcc 1 _ rfl
        have x2 : wr.cell? ⟨g, pre.length * 7 + 2, none⟩ = some (.int .i64 k.f1.f1) := hcc 2 _ rfl
        have x3 : wr.cell? ⟨g, pre.length * 7 + 3, none⟩ = some (.int .i64 k.f1.f2) := hcc 3 _ rfl
        have x4 : wr.cell? ⟨g, pre.length * 7 + 4, none⟩ = some (.int .i64 k.f1.f3) := hcc 4 _ rfl
        have x5 : wr.cell? ⟨g, pre.length * 7 + 5, none⟩ = some (.int .i64 k.f2) := hcc 5 _ rfl
        have x6 : wr.cell? ⟨g, pre.length * 7 + 6, none⟩ = some (.slice ua k.f3.length uc) := hcc 6 _ rfl
        have HW1 := Aside0.mk hw
        have HK := Aside0.mk hk
        have HGG := Aside0.mk hgg
        clear hcl hM hcc hfr hrd ul ge hgb hglt hw hk hgg
        go_upto_region 5 with (first
      | ((with_reducible refine gate_dst (N := 4) rfl ?_); refine box_event ?hg (N := 4) ?hd (cs := #[.int .u8 0, .int .i64 0, .int .i64 0, .int .i64 0, .int .i64 0, .int .i64 0, .slice none 0 0]) (t := 26) ?hr ?_; (case hd => rfl); (case hg => rfl); (case hr => first | (go_simp; done) | (go_simp; rfl)); intro b8 hg wb8 hbox hb; have Gb8 := Aside0.mk (show w.heap.size ≤ b8 by rw [hg]; exact HB.out.size); have NE_b3_b8 := Aside0.mk (show b3 ≠ b8 by rw [hg]; exact Nat.ne_of_lt (blk_lt Kb3.out)); have NE_b6_b8 := Aside0.mk (show b6 ≠ b8 by rw [hg]; exact Nat.ne_of_lt (blk_lt Kb6.out)); have qHB_ := Aside0.mk (below_step HB.out hb); have qHN_ := Aside0.mk (Kd.N_below (Kd.N_elderB HN.out b8 (by rw [hg]; exact Nat.le_refl _)) hb); have qHV_ := Aside0.mk (Kd.V_below (Kd.V_elderB HV.out b8 (by rw [hg]; exact Nat.le_refl _)) hb); have qKb3_ := Aside0.mk (blk_below Kb3.out hb); have qKb6_ := Aside0.mk (blk_below Kb6.out hb); clear HB HN HV Kb3 Kb6; have HB := qHB_; have HN := qHN_; have HV := qHV_; have Kb3 := qKb3_; have Kb6 := qKb6_; clear qHB_ qHN_ qHV_ qKb3_ qKb6_; have Kb8 := Aside0.mk hbox; clear hb hbox hg)
      | ((with_reducible refine gate_ (.store 26 (.tmp 4) (.tmp 16)) rfl ?_); go_loud (refine box_store (w0 := w) rfl rfl 26 (.tmp 4) (.tmp 16) rfl (g := b8) (j := 0) (base := w.heap.size) #[.int .u8 k.f0, .int .i64 k.f1.f0, .int .i64 k.f1.f1, .int .i64 k.f1.f2, .int .i64 k.f1.f3, .int .i64 k.f2, .slice ua k.f3.length uc] (u := .agg #[.int .u8 k.f0, .int .i64 k.f1.f0, .int .i64 k.f1.f1, .int .i64 k.f1.f2, .int .i64 k.f1.f3, .int .i64 k.f2, .slice ua k.f3.length uc]) (seg := [.int .u8 k.f0, .int .i64 k.f1.f0, .int .i64 k.f1.f1, .int .i64 k.f1.f2, .int .i64 k.f1.f3, .int .i64 k.f2, .slice ua k.f3.length uc]) ?sA ?sX rfl ?sT ?s1 Kb8.out ?sJ rfl HB.out HB.out.size Gb8.out ?_; (case sA => rfl); (case sX => rfl); (case sT => rfl); (case s1 => (simp [Value.oneCell'])); (case sJ => (first | decide | simp)); intro ws31 hbk hbb hgg; have qHN_ := Aside0.mk (Kd.N_grown HN.out hgg (fun k_ hk e_ => absurd (Option.some.inj e_) (by first | exact hk.2 | exact hk.1.2 | exact hk.1.1.2 | exact hk.1.1.1.2 | exact hk.2.2 | exact hk.2.1 | exact hk.2.2.1 | exact hk.2.2.2))); have qHV_ := Aside0.mk (Kd.V_grown HV.out hgg (fun k_ hk e_ => absurd (Option.some.inj e_) (by first | exact hk.2 | exact hk.1.2 | exact hk.1.1.2 | exact hk.1.1.1.2 | exact hk.2.2 | exact hk.2.1 | exact hk.2.2.1 | exact hk.2.2.2))); have qKb3_ := Aside0.mk (blk_grown Kb3.out hgg (fun e_ => absurd (Option.some.inj e_) (by first | exact NE_b3_b8.out | exact (fun e2_ => NE_b8_b3.out e2_.symm)))); have qKb6_ := Aside0.mk (blk_grown Kb6.out hgg (fun e_ => absurd (Option.some.inj e_) (by first | exact NE_b6_b8.out | exact (fun e2_ => NE_b8_b6.out e2_.symm)))); clear HN HV Kb3 Kb6; have HN := qHN_; have HV := qHV_; have Kb3 := qKb3_; have Kb6 := qKb6_; clear qHN_ qHV_ qKb3_ qKb6_; clear Kb8 HB; have Kb8 := Aside0.mk hbk; have HB := Aside0.mk hbb; clear hbk hbb hgg))
      | fail)
        clear x0 x1 x2 x3 x4 x5 x6
        have q_ := Aside0.mk (below_drew1 HB.out)
        clear HB
        have HB := q_
        clear q_
        have q_ := Aside0.mk (Kd.N_drew HN.out)
        clear HN
        have HN := q_
        clear q_
        have q_ := Aside0.mk (Kd.V_drew HV.out)
        clear HV
        have HV := q_
        clear q_
        have q_ := Aside0.mk (blk_drew Kb3.out)
        clear Kb3
        have Kb3 := q_
        clear q_
        have q_ := Aside0.mk (blk_drew Kb6.out)
        clear Kb6
        have Kb6 := q_
        clear q_
        have q_ := Aside0.mk (blk_drew Kb8.out)
        clear Kb8
        have Kb8 := q_
        clear q_
        refine start_ (n := 7) (S := fun w' => w'.heap[b3]? = some (.cells #[.int .u8 ck, .int .i64 cx, .int .i64 cy, .int .i64 cw, .int .i64 ch, .int .i64 cid, .slice (some ⟨g, 0, none⟩) l.length c1] 26 (0, 0)) ∧ w'.heap[b8]? = some (.cells #[.int .u8 k.f0, .int .i64 k.f1.f0, .int .i64 k.f1.f1, .int .i64 k.f1.f2, .int .i64 k.f1.f3, .int .i64 k.f2, .slice ua k.f3.length uc] 26 (0, 0))) (ds := [6]) #[false, false, false, false, false, false, false] (by kernel_rfl) rfl rfl ⟨Kb3.out, Kb8.out⟩ (fun hHeld => ?_); refine with_tabW cell_clone.tab5 cell_clone.bits5 (fun HT_ HW_ => ?_)
        generalize ws31.drew = wd at HB HN HV Kb3 Kb6 Kb8 hHeld ⊢
        refine pure_ (i := 0) (N := some 17) (v := ?_) (a' := ?_) #[true, false, false, false, false, false, false] rfl rfl (any_of HT_.out (by kernel_rfl)) (fun _ _ _ h => h) (Or.inl ⟨by rfl, ?_⟩) ?_ ?_
        rotate_left
        · intro w'; go_simp; with_reducible rfl
        rotate_left
        · simp only [Act.put, List.setIfInBounds_toArray, List.set_cons_zero, List.set_cons_succ, i64_w, i32_w]
          rfl
        refine take_ (i := 1) (N := some 18) (v := ?_) (a' := ?_) #[true, true, false, false, false, false, false] rfl rfl (take_ofW HT_.out HW_.out (by kernel_rfl)) (fun _ _ _ h => h) (Or.inl ⟨by rfl, ?_⟩) hHeld ?_ ?_
        rotate_left
        · intro w' hs_
          have c := (blk_cell hs_.1 6).trans rfl
          go_simp; with_reducible rfl
        rotate_left
        · simp only [Act.put, List.setIfInBounds_toArray, List.set_cons_zero, List.set_cons_succ, i64_w, i32_w]
          rfl
        refine pure_ (i := 2) (N := some 19) (v := ?_) (a' := ?_) #[true, true, true, false, false, false, false] rfl rfl (any_of HT_.out (by kernel_rfl)) (fun _ _ _ h => h) (Or.inl ⟨by rfl, ?_⟩) ?_ ?_
        rotate_left
        · intro w'; go_simp; with_reducible rfl
        rotate_left
        · simp only [Act.put, List.setIfInBounds_toArray, List.set_cons_zero, List.set_cons_succ, i64_w, i32_w]
          rfl
        refine take_ (i := 3) (N := some 20) (v := ?_) (a' := ?_) #[true, true, true, true, false, false, false] rfl rfl (take_ofW HT_.out HW_.out (by kernel_rfl)) (fun _ _ _ h => h) (Or.inl ⟨by rfl, ?_⟩) hHeld ?_ ?_
        rotate_left
        · intro w' hs_
          have c0 := (blk_cell hs_.2 0).trans rfl
          have c1 := (blk_cell hs_.2 1).trans rfl
          have c2 := (blk_cell hs_.2 2).trans rfl
          have c3 := (blk_cell hs_.2 3).trans rfl
          have c4 := (blk_cell hs_.2 4).trans rfl
          have c5 := (blk_cell hs_.2 5).trans rfl
          have c6 := (blk_cell hs_.2 6).trans rfl
          go_simp; with_reducible rfl
        rotate_left
        · simp only [Act.put, List.setIfInBounds_toArray, List.set_cons_zero, List.set_cons_succ, i64_w, i32_w]
          rfl
        refine one_ (i := 4) (N := some 21) #[true, true, true, true, true, false, false] rfl rfl (one_of HT_.out (by kernel_rfl)) (by decide) (fun K hK => ?_)
        refine goes_ Try.func151 (by kernel_rfl) rfl #[.agg #[.int .u8 k.f0, .int .i64 k.f1.f0, .int .i64 k.f1.f1, .int .i64 k.f1.f2, .int .i64 k.f1.f3, .int .i64 k.f2, .slice ua k.f3.length uc]] (by rfl) rfl rfl (by (try simp only [List.map_toArray, List.map_cons, List.map_nil]); first | done | rfl) ?_
        refine (IH.out k HK.out _ ua uc wd HV.out).mono ?_
        rintro e wk ⟨v, rfl, ho, hb⟩
        refine ⟨_, rfl, ?_⟩
        have HE3 := Aside0.mk (blk_lt Kb3.out)
        have HE6 := Aside0.mk (blk_lt Kb6.out)
        have HE8 := Aside0.mk (blk_lt Kb8.out)
        have HEG := Aside0.mk (Kd.N_lt HN.out g rfl)
        have HS := Aside0.mk HB.out.size
        have qHB_ := Aside0.mk (below_step HB.out hb); have qHN_ := Aside0.mk (Kd.N_below HN.out hb); have qHV_ := Aside0.mk (Kd.V_below HV.out hb); have qKb3_ := Aside0.mk (blk_below Kb3.out hb); have qKb6_ := Aside0.mk (blk_below Kb6.out hb); have qKb8_ := Aside0.mk (blk_below Kb8.out hb); clear HB HN HV Kb3 Kb6 Kb8; have HB := qHB_; have HN := qHN_; have HV := qHV_; have Kb3 := qKb3_; have Kb6 := qKb6_; have Kb8 := qKb8_; clear qHB_ qHN_ qHV_ qKb3_ qKb6_ qKb8_
        clear HV hb
        obtain ⟨Av, cv, ev⟩ := Kd.N_slice ho
        subst ev
        have HO2 := Aside0.mk ho
        clear ho
        refine hK.out _ _ ⟨Kb3.out, Kb8.out⟩ (fun hHeld => ?_)
        clear hK K
        refine norm_ (a' := ?_) ?_ ?_
        rotate_left
        · show Act.put _ (some 21) _ = _
          simp only [Act.put, List.setIfInBounds_toArray, List.set_cons_zero, List.set_cons_succ, i64_w, i32_w]
          rfl
        refine pure_ (i := 5) (N := some 22) (v := ?_) (a' := ?_) #[true, true, true, true, true, true, false] rfl rfl (any_of HT_.out (by kernel_rfl)) (fun _ _ _ h => h) (Or.inl ⟨by rfl, ?_⟩) ?_ ?_
        rotate_left
        · intro w'; go_simp; with_reducible rfl
        rotate_left
        · simp only [Act.put, List.setIfInBounds_toArray, List.set_cons_zero, List.set_cons_succ, i64_w, i32_w]
          rfl
        refine last_ (i := 6) (N := none) #[true, true, true, true, true, true, true] rfl rfl (one_of HT_.out (by kernel_rfl)) (by decide) (fun K hK => ?_)
        obtain ⟨ce, hcl, hM, hcc, hfr⟩ := Kd.N_elem HN.out z26 (pre.length : Int) (Int.natCast_nonneg _) hlt
        rw [HRD.out] at hM
        obtain ⟨ub, ud, rfl, _, _⟩ := k26_openF hM
        have x0 : wk.cell? ⟨g, pre.length * 7, none⟩ = some (.int .u8 k.f0) := hcc 0 _ rfl
        have f0 : wk.frozen? ⟨g, pre.length * 7, none⟩ = false := hfr 0
        have x1 : wk.cell? ⟨g, pre.length * 7 + 1, none⟩ = some (.int .i64 k.f1.f0) := hcc 1 _ rfl
        have f1 : wk.frozen? ⟨g, pre.length * 7 + 1, none⟩ = false := hfr 1
        have x2 : wk.cell? ⟨g, pre.length * 7 + 2, none⟩ = some (.int .i64 k.f1.f1) := hcc 2 _ rfl
        have f2 : wk.frozen? ⟨g, pre.length * 7 + 2, none⟩ = false := hfr 2
        have x3 : wk.cell? ⟨g, pre.length * 7 + 3, none⟩ = some (.int .i64 k.f1.f2) := hcc 3 _ rfl
        have f3 : wk.frozen? ⟨g, pre.length * 7 + 3, none⟩ = false := hfr 3
        have x4 : wk.cell? ⟨g, pre.length * 7 + 4, none⟩ = some (.int .i64 k.f1.f3) := hcc 4 _ rfl
        have f4 : wk.frozen? ⟨g, pre.length * 7 + 4, none⟩ = false := hfr 4
        have x5 : wk.cell? ⟨g, pre.length * 7 + 5, none⟩ = some (.int .i64 k.f2) := hcc 5 _ rfl
        have f5 : wk.frozen? ⟨g, pre.length * 7 + 5, none⟩ = false := hfr 5
        have x6 : wk.cell? ⟨g, pre.length * 7 + 6, none⟩ = some (.slice ub k.f3.length ud) := hcc 6 _ rfl
        have f6 : wk.frozen? ⟨g, pre.length * 7 + 6, none⟩ = false := hfr 6
        have hokp : ∀ q, (((fun q => ((P q ∨ w.heap.size ≤ q) ∧ q ≠ b3) ∧ q ≠ b6) q ∧ q ≠ g) ∧ q ≠ b8) ∨ wd.heap.size ≤ q → ((fun q => ((P q ∨ w.heap.size ≤ q) ∧ q ≠ b3) ∧ q ≠ b6) q ∧ q ≠ b8) ∧ q ≠ g := fun q hq => hq.elim (fun h => ⟨⟨h.1.1, h.2⟩, h.1.2⟩) (fun hn => ⟨⟨⟨⟨.inr (Nat.le_trans HS.out hn), Nat.ne_of_gt (Nat.lt_of_lt_of_le HE3.out hn)⟩, Nat.ne_of_gt (Nat.lt_of_lt_of_le HE6.out hn)⟩, Nat.ne_of_gt (Nat.lt_of_lt_of_le HE8.out hn)⟩, Nat.ne_of_gt (Nat.lt_of_lt_of_le HEG.out hn)⟩)
        have hMk := k26_mkF wk _ k (A6 := Av) (c6 := cv) (Kd.N_reads' HO2.out).2.1 (Kd.N_F HO2.out)
        have hseg := Kd.N_seg HN.out (pre.length : Int) (Int.natCast_nonneg _) hlt (seg := [.int .u8 k.f0, .int .i64 k.f1.f0, .int .i64 k.f1.f1, .int .i64 k.f1.f2, .int .i64 k.f1.f3, .int .i64 k.f2, .slice Av k.f3.length cv]) (j := 0) hcl hcc (show 0 + 7 ≤ 7 from by decide) (x' := k) hMk hokp
        rw [show l.set (pre.length : Int).toNat k = l from by rw [← HE.out, Int.toNat_natCast]; simp] at hseg
        obtain ⟨w9, hw9⟩ : ∃ w9, w9 = wk.setCells g ((pre.length : Int).toNat * 7 + 0) [.int .u8 k.f0, .int .i64 k.f1.f0, .int .i64 k.f1.f1, .int .i64 k.f1.f2, .int .i64 k.f1.f3, .int .i64 k.f2, .slice Av k.f3.length cv] := ⟨_, rfl⟩
        replace hseg : Kd.N k26 26 w9 w.heap.size (fun q => (fun q => ((P q ∨ w.heap.size ≤ q) ∧ q ≠ b3) ∧ q ≠ b6) q ∧ q ≠ b8) (.slice (some ⟨g, 0, none⟩) l.length c1) l ∧ wk.grownBy w9 (some g) := by rw [hw9]; exact hseg
        have HN9 := Aside0.mk (Kd.N_drop hseg.1)
        have HB9 := Aside0.mk (grown_below HB.out hseg.2 HGB.out HB.out.size)
        have Kb39 := Aside0.mk (blk_grown Kb3.out hseg.2 (fun e_ => (HN.out.1 g rfl).1.1.2 (Option.some.inj e_).symm))
        have Kb69 := Aside0.mk (blk_grown Kb6.out hseg.2 (fun e_ => (HN.out.1 g rfl).1.2 (Option.some.inj e_).symm))
        clear hseg hMk hokp hcl hcc hfr hM HN HB Kb3 Kb6 Kb8 hHeld HO2
        refine skip_ (w1 := w9) (by rfl) rfl ?_ ?_
        · rw [hw9]; go_simp; rfl
        refine hK.out _ _ ?_
        clear hK K x0 x1 x2 x3 x4 x5 x6 f0 f1 f2 f3 f4 f5 f6 hw9
        refine done_ (done_of HT_.out (by kernel_rfl)) ?_
        have hw := HW1.out
        go_wp2
        go_roundg rest.length
        case measure => exact Nat.lt_of_lt_of_le (Nat.lt_succ_self _) HGG.out
        case rel => exact ⟨pre ++ [k], rest, (by rw [hw]), ⟨by rw [List.append_assoc]; exact HE.out⟩, Nat.le_refl _, HN9, Kb39, Kb69, HB9⟩
def cell_clone.f (a0 a1 a2 a3 a4 a5 : Int) (l : List S26) : Option (Int × Int × Int × Int × Int × Int × List S26) := if sz ⟨a0, ⟨a1, a2, a3, a4⟩, a5, l⟩ ≤ 1000000 then some (a0, a1, a2, a3, a4, a5, l) else none
theorem cell_clone.calls (a0_0 a0_1 a0_2 a0_3 a0_4 a0_5 : Int) (P0_6_ : Nat → Prop) (A0_6 : Option Addr) (c0_6 : Nat) (l0_6 : List S26) (r1 r2 r3 r4 r5 r6 : Int) (r7 : List S26) (w : World) (hs0_6 : Kd.V k26 26 w w.heap.size (fun k_ => P0_6_ k_) (.slice A0_6 l0_6.length c0_6) l0_6) (h : cell_clone.f a0_0 a0_1 a0_2 a0_3 a0_4 a0_5 l0_6 = some (r1, r2, r3, r4, r5, r6, r7)) :
    Calls Try.prog 151 #[.agg #[.int .u8 a0_0, .int .i64 a0_1, .int .i64 a0_2, .int .i64 a0_3, .int .i64 a0_4, .int .i64 a0_5, .slice A0_6 l0_6.length c0_6]] w fun e w' => ∃ v6_ : Value, e = .returned (.agg #[.int .u8 r1, .int .i64 r2, .int .i64 r3, .int .i64 r4, .int .i64 r5, .int .i64 r6, v6_]) ∧ Kd.N k26 26 w' w.heap.size (fun k_ => (P0_6_ k_ ∨ w.heap.size ≤ k_)) v6_ r7 ∧ Below w.heap.size w w' := by
  unfold cell_clone.f at h
  split at h
  · rename_i hz
    simp only [Option.some.injEq, Prod.mk.injEq] at h
    obtain ⟨rfl, rfl, rfl, rfl, rfl, rfl, rfl⟩ := h
    exact clone151 1000000 ⟨a0_0, ⟨a0_1, a0_2, a0_3, a0_4⟩, a0_5, l0_6⟩ hz (Nat.le_refl _) P0_6_ A0_6 c0_6 w hs0_6
  · exact absurd h (by simp)
end Go.Proofs.Ytfdmfgaiblfbhaa.P
namespace Go.Proofs.Ytfdmfgaiblfbhaa.P
open Go.RowKit Go.Proofs.YtfdmfgaiblfbhaaW.PrintWords Go.Proofs.YtfdmfgaiblfbhaaW.PrintLast Go.Proofs.YtfdmfgaiblfbhaaW.PrintMore
attribute [local go_sem] max2_int min2_int max_two min_two max_three min_three max_four min_four   -- for this text's walks alone
set_option linter.unusedVariables false
set_option linter.unusedSimpArgs false

/-! ### cell_At: function 91 -/
def cell_At.l0 : Nat → List Int → Int → Int → Int → Int → Int → Int → Int → Int → List (S26) → Option (Int × Int × Int × Int × Int × Int × (List (S26)) × Bool)
 | 0, _, _, _, _, _, _, _, _, _, _ => none
 | k + 1, x8, x9, x10, x1021000, x1021001, x1021002, x1021003, x1021004, x1021005, x1021006 => if x10 < x9 then (if 0 ≤ x10 then (if x10 < (x8.length : Int) then (if (rd x8 x10) < 0 then (some (0, 0, 0, 0, 0, 0, ([] : List (S26)), false)) else (if (rd x8 x10) ≥ (x1021006.length : Int) then (some (0, 0, 0, 0, 0, 0, ([] : List (S26)), false)) else (if 0 ≤ (rd x8 x10) then (if (rd x8 x10) < (x1021006.length : Int) then (cell_At.l0 k x8 x9 (wrap64 (x10 + 1)) ((rd_T26 x1021006 (rd x8 x10)).f0) ((rd_T26 x1021006 (rd x8 x10)).f1.f0) ((rd_T26 x1021006 (rd x8 x10)).f1.f1) ((rd_T26 x1021006 (rd x8 x10)).f1.f2) ((rd_T26 x1021006 (rd x8 x10)).f1.f3) ((rd_T26 x1021006 (rd x8 x10)).f2) ((rd_T26 x1021006 (rd x8 x10)).f3)) else (none)) else (none)))) else (none)) else (none)) else ((cell_clone.f x1021000 x1021001 x1021002 x1021003 x1021004 x1021005 x1021006).bind fun bt1024 => (some (bt1024.1, bt1024.2.1, bt1024.2.2.1, bt1024.2.2.2.1, bt1024.2.2.2.2.1, bt1024.2.2.2.2.2.1, bt1024.2.2.2.2.2.2, true)))
def cell_At.f (k : Nat) (a0_0 : Int) (a0_1 : Int) (a0_2 : Int) (a0_3 : Int) (a0_4 : Int) (a0_5 : Int) (l0_6 : List (S26)) (l1 : List Int) : Option (Int × Int × Int × Int × Int × Int × (List (S26)) × Bool) := cell_At.l0 k l1 (l1.length : Int) 0 a0_0 a0_1 a0_2 a0_3 a0_4 a0_5 l0_6
set_option maxHeartbeats 8000000 in
set_option maxRecDepth 100000 in
theorem cell_At.calls (k : Nat) (a0_0 : Int) (a0_1 : Int) (a0_2 : Int) (a0_3 : Int) (a0_4 : Int) (a0_5 : Int) (P0_6_ : Nat → Prop) (A0_6 : Option Addr) (c0_6 : Nat) (l0_6 : List (S26)) (A1 : Option Addr) (c1 : Nat) (l1 : List Int) (r1 : Int) (r2 : Int) (r3 : Int) (r4 : Int) (r5 : Int) (r6 : Int) (r7 : List (S26)) (r8 : Bool) (w : World) (hs0_6 : Kd.V k26 26 w w.heap.size (fun k_ => P0_6_ k_) (.slice A0_6 l0_6.length c0_6) l0_6) (hr1 : Kd.C (Kd.int .i64) w A1 l1.length l1) (hc1 : l1.length ≤ c1) (h : cell_At.f k a0_0 a0_1 a0_2 a0_3 a0_4 a0_5 l0_6 l1 = some (r1, r2, r3, r4, r5, r6, r7, r8)) :
  Calls Try.prog 91 #[.agg #[.int .u8 a0_0, .int .i64 a0_1, .int .i64 a0_2, .int .i64 a0_3, .int .i64 a0_4, .int .i64 a0_5, .slice A0_6 l0_6.length c0_6], .slice A1 l1.length c1] w fun e w' => ∃ v6_ : Value, e = .returned (.tuple #[.agg #[.int .u8 r1, .int .i64 r2, .int .i64 r3, .int .i64 r4, .int .i64 r5, .int .i64 r6, v6_], .bool r8]) ∧ Kd.N k26 26 w' w.heap.size (fun k_ => (P0_6_ k_ ∨ w.heap.size ≤ k_)) v6_ r7 ∧ Below w.heap.size w w' := by
 have hu26 := Try.underlying26
 have HO0_6 := Aside0.mk (show Kd.V k26 26 w w.heap.size (fun k_ => (P0_6_ k_ ∨ w.heap.size ≤ k_)) (.slice A0_6 l0_6.length c0_6) l0_6 from Kd.V_mono hs0_6 (fun k_ hk => .inl hk))
 have HR1 := Aside0.mk hr1
 have HC1 := Aside0.mk hc1
 clear hr1 hc1
 have HB := Aside0.mk (Below.refl w.heap.size w)
 have H : (cell_At.l0 k l1 (l1.length : Int) 0 a0_0 a0_1 a0_2 a0_3 a0_4 a0_5 l0_6) = some (r1, r2, r3, r4, r5, r6, r7, r8) := h
 clear h
 have H' := Aside0.mk H
 clear H
 go_enter Try.func91, Try.ntmps91
 go_wp2_with (first | ((with_reducible refine gate_dst (N := 2) rfl ?_); (try (refine gate_guard (by rfl) ?_; dsimp only)); refine box_event ?hg (N := 2) ?hd (cs := #[.int .u8 a0_0, .int .i64 a0_1, .int .i64 a0_2, .int .i64 a0_3, .int .i64 a0_4, .int .i64 a0_5, .slice A0_6 l0_6.length c0_6]) (t := 26) ?hr ?_; (case hd => rfl); (case hg => rfl); (case hr => first | (go_simp; done) | (go_simp; rfl)); intro gb1020 hg w3 hbox hb; have n0_ := Aside0.mk (Kd.V_below (Kd.V_elderB (by (with_reducible repeat (first | apply Kd.V_alloc | apply Kd.V_drewN | apply Kd.V_drew)); exact HO0_6.out) gb1020 (Nat.le_of_eq hg.symm)) hb); have n1_ := Aside0.mk (below_step (by repeat (first | (with_reducible first | exact HB.out | apply below_alloc | apply pw_below_drewN | apply below_drew1) | exact HB.out)) hb); have n2_ := Aside0.mk (hbox); have n3_ := Aside0.mk ((by rw [hg]; exact (below_size (by repeat (first | (with_reducible first | exact HB.out | apply below_alloc | apply pw_below_drewN | apply below_drew1) | exact HB.out))) : w.heap.size ≤ gb1020)); have n4_ := Aside0.mk ((by rw [hg]; exact (below_size (by repeat (first | (with_reducible first | exact HB.out | apply below_alloc | apply pw_below_drewN | apply below_drew1) | exact HB.out))) : w.heap.size ≤ gb1020)); clear HO0_6; clear HB; have HO0_6 := n0_; have HB := n1_; have BK1020 := n2_; have GW1020 := n3_; have GE1020 := n4_; clear n0_ n1_ n2_ n3_ n4_; clear hb hbox hg) | ((with_reducible refine gate_dst (N := 4) rfl ?_); (try (refine gate_guard (by rfl) ?_; dsimp only)); refine box_event ?hg (N := 4) ?hd (cs := #[.int .u8 0, .int .i64 0, .int .i64 0, .int .i64 0, .int .i64 0, .int .i64 0, .slice none 0 0]) (t := 26) ?hr ?_; (case hd => rfl); (case hg => rfl); (case hr => first | (go_simp; done) | (go_simp; rfl)); intro gb1021 hg w4 hbox hb; have n0_ := Aside0.mk (Kd.V_below (Kd.V_elderB (by (with_reducible repeat (first | apply Kd.V_alloc | apply Kd.V_drewN | apply Kd.V_drew)); exact HO0_6.out) gb1021 (Nat.le_of_eq hg.symm)) hb); have n1_ := Aside0.mk (blk_below (g := gb1020) (o := .cells #[.int .u8 a0_0, .int .i64 a0_1, .int .i64 a0_2, .int .i64 a0_3, .int .i64 a0_4, .int .i64 a0_5, .slice A0_6 l0_6.length c0_6] 26 (0, 0)) (by (with_reducible repeat (first | refine blk_drewN ?_ _ | refine blk_drew ?_ | refine blk_alloc ?_ _)); exact BK1020.out) hb); have n2_ := Aside0.mk (below_step (by repeat (first | (with_reducible first | exact HB.out | apply below_alloc | apply pw_below_drewN | apply below_drew1 | refine below_set ?_ GE1020.out) | exact HB.out)) hb); have n3_ := Aside0.mk (hbox); have n4_ := Aside0.mk ((by rw [hg]; exact (below_size (by repeat (first | (with_reducible first | exact HB.out | apply below_alloc | apply pw_below_drewN | apply below_drew1 | refine below_set ?_ GE1020.out) | exact HB.out))) : w.heap.size ≤ gb1021)); have n5_ := Aside0.mk ((by rw [hg]; exact (below_size (by repeat (first | (with_reducible first | exact HB.out | apply below_alloc | apply pw_below_drewN | apply below_drew1 | refine below_set ?_ GE1020.out) | exact HB.out))) : w.heap.size ≤ gb1021)); have n6_ := Aside0.mk ((by rw [hg]; exact Nat.ne_of_lt (blk_lt (g := gb1020) (o := .cells #[.int .u8 a0_0, .int .i64 a0_1, .int .i64 a0_2, .int .i64 a0_3, .int .i64 a0_4, .int .i64 a0_5, .slice A0_6 l0_6.length c0_6] 26 (0, 0)) (by (with_reducible repeat (first | refine blk_drewN ?_ _ | refine blk_drew ?_ | refine blk_alloc ?_ _)); exact BK1020.out)) : gb1020 ≠ gb1021)); have n7_ := Aside0.mk ((by rw [hg]; exact Nat.ne_of_gt (blk_lt (g := gb1020) (o := .cells #[.int .u8 a0_0, .int .i64 a0_1, .int .i64 a0_2, .int .i64 a0_3, .int .i64 a0_4, .int .i64 a0_5, .slice A0_6 l0_6.length c0_6] 26 (0, 0)) (by (with_reducible repeat (first | refine blk_drewN ?_ _ | refine blk_drew ?_ | refine blk_alloc ?_ _)); exact BK1020.out)) : gb1021 ≠ gb1020)); clear HO0_6; clear BK1020; clear HB; have HO0_6 := n0_; have BK1020 := n1_; have HB := n2_; have BK1021 := n3_; have GW1021 := n4_; have GE1021 := n5_; have NB1020_1021 := n6_; have NB1021_1020 := n7_; clear n0_ n1_ n2_ n3_ n4_ n5_ n6_ n7_; clear hb hbox hg))
 go_loopg [10] k (fun kq v10 w' => ∃ (x10_1 : Int) (x1021000_1 : Int) (x1021001_1 : Int) (x1021002_1 : Int) (x1021003_1 : Int) (x1021004_1 : Int) (x1021005_1 : Int) (x1021006_1 : List (S26)) (x1022000_1 : Int) (x1022001_1 : Int) (x1022002_1 : Int) (x1022003_1 : Int) (x1022004_1 : Int) (x1022005_1 : Int) (u1021006 : Value), v10 = .int .i64 x10_1 ∧ Aside0 (cell_At.l0 kq l1 (l1.length : Int) x10_1 x1021000_1 x1021001_1 x1021002_1 x1021003_1 x1021004_1 x1021005_1 x1021006_1 = some (r1, r2, r3, r4, r5, r6, r7, r8)) ∧ Aside0 (kq ≤ k) ∧ Aside0 (Kd.V k26 26 w' w.heap.size (fun k_ => (P0_6_ k_ ∨ w.heap.size ≤ k_) ∧ k_ ≠ gb1020 ∧ k_ ≠ gb1021) u1021006 x1021006_1) ∧ Aside0 (w'.heap[gb1020]? = some (.cells #[.int .u8 x1021000_1, .int .i64 x1021001_1, .int .i64 x1021002_1, .int .i64 x1021003_1, .int .i64 x1021004_1, .int .i64 x1021005_1, u1021006] 26 (0, 0))) ∧ Aside0 (w'.heap[gb1021]? = some (.cells #[.int .u8 x1022000_1, .int .i64 x1022001_1, .int .i64 x1022002_1, .int .i64 x1022003_1, .int .i64 x1022004_1, .int .i64 x1022005_1, (.slice none 0 0)] 26 (0, 0))) ∧ Aside0 (Below w.heap.size w w'))
 case atStart => exact ⟨(0), (a0_0), (a0_1), (a0_2), (a0_3), (a0_4), (a0_5), (l0_6), (0), (0), (0), (0), (0), (0), (.slice A0_6 l0_6.length c0_6), (by first | rfl | (simp; done) | (simp [*]; done)), H', ⟨Nat.le_refl _⟩, ⟨by (with_reducible repeat (first | apply Kd.V_alloc | apply Kd.V_drewN | apply Kd.V_drew)); exact Kd.V_mono HO0_6.out (fun _ hk => ⟨hk.1.1, ⟨hk.1.2, hk.2⟩⟩)⟩, ⟨by (with_reducible repeat (first | refine blk_drewN ?_ _ | refine blk_drew ?_ | refine blk_alloc ?_ _)); exact BK1020.out⟩, ⟨by (with_reducible repeat (first | refine blk_drewN ?_ _ | refine blk_drew ?_ | refine blk_alloc ?_ _)); exact BK1021.out⟩, ⟨by repeat (first | (with_reducible first | exact HB.out | apply below_alloc | apply pw_below_drewN | apply below_drew1 | refine below_set ?_ GE1020.out | refine below_set ?_ GE1021.out) | exact HB.out)⟩⟩
 case round =>
  clear H'
  try clear c1
  try clear p2
  obtain ⟨x10_1, x1021000_1, x1021001_1, x1021002_1, x1021003_1, x1021004_1, x1021005_1, x1021006_1, x1022000_1, x1022001_1, x1022002_1, x1022003_1, x1022004_1, x1022005_1, u1021006, rfl, HA, HK1, HO_1021006, BK1020, BK1021, HB⟩ := hrel
  cases gk with
  | zero => exact absurd HA.out (by simp [cell_At.l0])
  | succ k1 =>
   have H := HA.out
   clear HA
   simp only [cell_At.l0] at H
   by_cases c5 : x10_1 < (l1.length : Int)
   ·rw [if_pos c5] at H
    have c5b0 : decide (x10_1 < (l1.length : Int)) = true := decide_eq_true c5
    clear c5
    by_cases c6 : 0 ≤ x10_1
    ·rw [if_pos c6] at H
     have c6b0 : decide (0 ≤ x10_1) = true := decide_eq_true c6
     clear c6
     by_cases c7 : x10_1 < (l1.length : Int)
     ·rw [if_pos c7] at H
      have c7b0 : decide (x10_1 < (l1.length : Int)) = true := decide_eq_true c7
      clear c7
      by_cases c8 : (rd l1 x10_1) < 0
      ·rw [if_pos c8] at H
       have c8b0 : decide ((rd l1 x10_1) < 0) = true := decide_eq_true c8
       clear c8
       simp only [Option.some.injEq, Prod.mk.injEq] at H
       obtain ⟨rfl, rfl, rfl, rfl, rfl, rfl, rfl, rfl⟩ := H
       have p1022 : 0 ≤ (x10_1 : Int) := of_decide_eq_true (by first | (with_reducible assumption) | assumption)
       have q1022 : x10_1 < (l1.length : Int) := of_decide_eq_true (by first | (with_reducible assumption) | assumption)
       obtain ⟨ad1022, e1022, hx1022_0⟩ := Kd.at_int HR1.out x10_1 p1022 q1022
       cases e1022
       replace hx1022_0 := (HB.out.cell (World.block_lt_of_cell? w _ hx1022_0)).trans hx1022_0
       replace p1022 := eq_true p1022
       replace q1022 := eq_true q1022
       have hnb9 := NB1021_1020.out
       have hnc9 := NB1020_1021.out
       have hcz10_0 : wr.cell? ⟨gb1021, 0, none⟩ = some (.int .u8 x1022000_1) := (blk_cell BK1021.out 0).trans rfl
       have hcz10_1 : wr.cell? ⟨gb1021, 1, none⟩ = some (.int .i64 x1022001_1) := (blk_cell BK1021.out 1).trans rfl
       have hcz10_2 : wr.cell? ⟨gb1021, 2, none⟩ = some (.int .i64 x1022002_1) := (blk_cell BK1021.out 2).trans rfl
       have hcz10_3 : wr.cell? ⟨gb1021, 3, none⟩ = some (.int .i64 x1022003_1) := (blk_cell BK1021.out 3).trans rfl
       have hcz10_4 : wr.cell? ⟨gb1021, 4, none⟩ = some (.int .i64 x1022004_1) := (blk_cell BK1021.out 4).trans rfl
       have hcz10_5 : wr.cell? ⟨gb1021, 5, none⟩ = some (.int .i64 x1022005_1) := (blk_cell BK1021.out 5).trans rfl
       have hcz10_6 : wr.cell? ⟨gb1021, 6, none⟩ = some (.slice none 0 0) := (blk_cell BK1021.out 6).trans rfl
       have hfz10_0 := blk_frozen BK1021.out 0
       have hfz10_1 := blk_frozen BK1021.out 1
       have hfz10_2 := blk_frozen BK1021.out 2
       have hfz10_3 := blk_frozen BK1021.out 3
       have hfz10_4 := blk_frozen BK1021.out 4
       have hfz10_5 := blk_frozen BK1021.out 5
       have hfz10_6 := blk_frozen BK1021.out 6
       go_wp2
       refine bodyPost_ret (results_ct rfl _ _ gb1021 26 #[.int .u8 0, .int .i64 0, .int .i64 0, .int .i64 0, .int .i64 0, .int .i64 0, .slice none 0 0] (0, 0) _ rfl (by (with_reducible repeat (first | refine blk_drewN ?_ _ | refine blk_drew ?_ | refine blk_alloc ?_ _)); refine blk_put (cs := #[.int .u8 0, .int .i64 0, .int .i64 0, .int .i64 0, .int .i64 0, .int .i64 0, .slice none 0 0]) ?_ 6 _ rfl; (with_reducible repeat (first | refine blk_drewN ?_ _ | refine blk_drew ?_ | refine blk_alloc ?_ _)); refine blk_put (cs := #[.int .u8 0, .int .i64 0, .int .i64 0, .int .i64 0, .int .i64 0, .int .i64 x1022005_1, .slice none 0 0]) ?_ 5 _ rfl; (with_reducible repeat (first | refine blk_drewN ?_ _ | refine blk_drew ?_ | refine blk_alloc ?_ _)); refine blk_put (cs := #[.int .u8 0, .int .i64 0, .int .i64 0, .int .i64 0, .int .i64 x1022004_1, .int .i64 x1022005_1, .slice none 0 0]) ?_ 4 _ rfl; (with_reducible repeat (first | refine blk_drewN ?_ _ | refine blk_drew ?_ | refine blk_alloc ?_ _)); refine blk_put (cs := #[.int .u8 0, .int .i64 0, .int .i64 0, .int .i64 x1022003_1, .int .i64 x1022004_1, .int .i64 x1022005_1, .slice none 0 0]) ?_ 3 _ rfl; (with_reducible repeat (first | refine blk_drewN ?_ _ | refine blk_drew ?_ | refine blk_alloc ?_ _)); refine blk_put (cs := #[.int .u8 0, .int .i64 0, .int .i64 x1022002_1, .int .i64 x1022003_1, .int .i64 x1022004_1, .int .i64 x1022005_1, .slice none 0 0]) ?_ 2 _ rfl; (with_reducible repeat (first | refine blk_drewN ?_ _ | refine blk_drew ?_ | refine blk_alloc ?_ _)); refine blk_put (cs := #[.int .u8 0, .int .i64 x1022001_1, .int .i64 x1022002_1, .int .i64 x1022003_1, .int .i64 x1022004_1, .int .i64 x1022005_1, .slice none 0 0]) ?_ 1 _ rfl; (with_reducible repeat (first | refine blk_drewN ?_ _ | refine blk_drew ?_ | refine blk_alloc ?_ _)); refine blk_put (cs := #[.int .u8 x1022000_1, .int .i64 x1022001_1, .int .i64 x1022002_1, .int .i64 x1022003_1, .int .i64 x1022004_1, .int .i64 x1022005_1, .slice none 0 0]) ?_ 0 _ rfl; (with_reducible repeat (first | refine blk_drewN ?_ _ | refine blk_drew ?_ | refine blk_alloc ?_ _)); exact BK1021.out) Try.underlying26 rfl (by kernel_rfl)) rfl ?_
       exact ⟨_, by first | rfl | (simp [errW_none, errW_some] <;> rfl) | (simp [*, errW_none, errW_some] <;> rfl), by first | exact Kd.R_nil _ _ _ _ _ | exact Kd.N_nil _ _ _ _ _ | exact Kd.V_nil _ _ _ _ _ | exact Kd.Q_nil _ _ _ _ _ | exact Kd.S_nil _ _ _ _ _, by repeat (first | (with_reducible first | exact HB.out | apply below_alloc | apply pw_below_drewN | apply below_drew1 | refine below_set ?_ GE1020.out | refine below_set ?_ GE1021.out) | exact HB.out)⟩
      ·rw [if_neg c8] at H
       have c8b0 : decide ((rd l1 x10_1) < 0) = false := decide_eq_false c8
       clear c8
       by_cases c11 : (rd l1 x10_1) ≥ (x1021006_1.length : Int)
       ·rw [if_pos c11] at H
        have c11b0 : decide ((x1021006_1.length : Int) ≤ (rd l1 x10_1)) = true := decide_eq_true c11
        clear c11
        simp only [Option.some.injEq, Prod.mk.injEq] at H
        obtain ⟨rfl, rfl, rfl, rfl, rfl, rfl, rfl, rfl⟩ := H
        have p1022 : 0 ≤ (x10_1 : Int) := of_decide_eq_true (by first | (with_reducible assumption) | assumption)
        have q1022 : x10_1 < (l1.length : Int) := of_decide_eq_true (by first | (with_reducible assumption) | assumption)
        obtain ⟨ad1022, e1022, hx1022_0⟩ := Kd.at_int HR1.out x10_1 p1022 q1022
        cases e1022
        replace hx1022_0 := (HB.out.cell (World.block_lt_of_cell? w _ hx1022_0)).trans hx1022_0
        replace p1022 := eq_true p1022
        replace q1022 := eq_true q1022
        have hnb12 := NB1020_1021.out
        have hnc12 := NB1021_1020.out
        have hcz13_0 : wr.cell? ⟨gb1020, 0, none⟩ = some (.int .u8 x1021000_1) := (blk_cell BK1020.out 0).trans rfl
        have hcz13_1 : wr.cell? ⟨gb1020, 1, none⟩ = some (.int .i64 x1021001_1) := (blk_cell BK1020.out 1).trans rfl
        have hcz13_2 : wr.cell? ⟨gb1020, 2, none⟩ = some (.int .i64 x1021002_1) := (blk_cell BK1020.out 2).trans rfl
        have hcz13_3 : wr.cell? ⟨gb1020, 3, none⟩ = some (.int .i64 x1021003_1) := (blk_cell BK1020.out 3).trans rfl
        have hcz13_4 : wr.cell? ⟨gb1020, 4, none⟩ = some (.int .i64 x1021004_1) := (blk_cell BK1020.out 4).trans rfl
        have hcz13_5 : wr.cell? ⟨gb1020, 5, none⟩ = some (.int .i64 x1021005_1) := (blk_cell BK1020.out 5).trans rfl
        have hcz13_6 : wr.cell? ⟨gb1020, 6, none⟩ = some (u1021006) := (blk_cell BK1020.out 6).trans rfl
        have hfz13_0 := blk_frozen BK1020.out 0
        have hfz13_1 := blk_frozen BK1020.out 1
        have hfz13_2 := blk_frozen BK1020.out 2
        have hfz13_3 := blk_frozen BK1020.out 3
        have hfz13_4 := blk_frozen BK1020.out 4
        have hfz13_5 := blk_frozen BK1020.out 5
        have hfz13_6 := blk_frozen BK1020.out 6
        obtain ⟨Ao14, co14, eo14⟩ := Kd.V_slice HO_1021006.out
        subst eo14
        have hcz15_0 : wr.cell? ⟨gb1021, 0, none⟩ = some (.int .u8 x1022000_1) := (blk_cell BK1021.out 0).trans rfl
        have hcz15_1 : wr.cell? ⟨gb1021, 1, none⟩ = some (.int .i64 x1022001_1) := (blk_cell BK1021.out 1).trans rfl
        have hcz15_2 : wr.cell? ⟨gb1021, 2, none⟩ = some (.int .i64 x1022002_1) := (blk_cell BK1021.out 2).trans rfl
        have hcz15_3 : wr.cell? ⟨gb1021, 3, none⟩ = some (.int .i64 x1022003_1) := (blk_cell BK1021.out 3).trans rfl
        have hcz15_4 : wr.cell? ⟨gb1021, 4, none⟩ = some (.int .i64 x1022004_1) := (blk_cell BK1021.out 4).trans rfl
        have hcz15_5 : wr.cell? ⟨gb1021, 5, none⟩ = some (.int .i64 x1022005_1) := (blk_cell BK1021.out 5).trans rfl
        have hcz15_6 : wr.cell? ⟨gb1021, 6, none⟩ = some (.slice none 0 0) := (blk_cell BK1021.out 6).trans rfl
        have hfz15_0 := blk_frozen BK1021.out 0
        have hfz15_1 := blk_frozen BK1021.out 1
        have hfz15_2 := blk_frozen BK1021.out 2
        have hfz15_3 := blk_frozen BK1021.out 3
        have hfz15_4 := blk_frozen BK1021.out 4
        have hfz15_5 := blk_frozen BK1021.out 5
        have hfz15_6 := blk_frozen BK1021.out 6
        go_wp2
        refine bodyPost_ret (results_ct rfl _ _ gb1021 26 #[.int .u8 0, .int .i64 0, .int .i64 0, .int .i64 0, .int .i64 0, .int .i64 0, .slice none 0 0] (0, 0) _ rfl (by (with_reducible repeat (first | refine blk_drewN ?_ _ | refine blk_drew ?_ | refine blk_alloc ?_ _)); refine blk_put (cs := #[.int .u8 0, .int .i64 0, .int .i64 0, .int .i64 0, .int .i64 0, .int .i64 0, .slice none 0 0]) ?_ 6 _ rfl; (with_reducible repeat (first | refine blk_drewN ?_ _ | refine blk_drew ?_ | refine blk_alloc ?_ _)); refine blk_put (cs := #[.int .u8 0, .int .i64 0, .int .i64 0, .int .i64 0, .int .i64 0, .int .i64 x1022005_1, .slice none 0 0]) ?_ 5 _ rfl; (with_reducible repeat (first | refine blk_drewN ?_ _ | refine blk_drew ?_ | refine blk_alloc ?_ _)); refine blk_put (cs := #[.int .u8 0, .int .i64 0, .int .i64 0, .int .i64 0, .int .i64 x1022004_1, .int .i64 x1022005_1, .slice none 0 0]) ?_ 4 _ rfl; (with_reducible repeat (first | refine blk_drewN ?_ _ | refine blk_drew ?_ | refine blk_alloc ?_ _)); refine blk_put (cs := #[.int .u8 0, .int .i64 0, .int .i64 0, .int .i64 x1022003_1, .int .i64 x1022004_1, .int .i64 x1022005_1, .slice none 0 0]) ?_ 3 _ rfl; (with_reducible repeat (first | refine blk_drewN ?_ _ | refine blk_drew ?_ | refine blk_alloc ?_ _)); refine blk_put (cs := #[.int .u8 0, .int .i64 0, .int .i64 x1022002_1, .int .i64 x1022003_1, .int .i64 x1022004_1, .int .i64 x1022005_1, .slice none 0 0]) ?_ 2 _ rfl; (with_reducible repeat (first | refine blk_drewN ?_ _ | refine blk_drew ?_ | refine blk_alloc ?_ _)); refine blk_put (cs := #[.int .u8 0, .int .i64 x1022001_1, .int .i64 x1022002_1, .int .i64 x1022003_1, .int .i64 x1022004_1, .int .i64 x1022005_1, .slice none 0 0]) ?_ 1 _ rfl; (with_reducible repeat (first | refine blk_drewN ?_ _ | refine blk_drew ?_ | refine blk_alloc ?_ _)); refine blk_put (cs := #[.int .u8 x1022000_1, .int .i64 x1022001_1, .int .i64 x1022002_1, .int .i64 x1022003_1, .int .i64 x1022004_1, .int .i64 x1022005_1, .slice none 0 0]) ?_ 0 _ rfl; (with_reducible repeat (first | refine blk_drewN ?_ _ | refine blk_drew ?_ | refine blk_alloc ?_ _)); exact BK1021.out) Try.underlying26 rfl (by kernel_rfl)) rfl ?_
        exact ⟨_, by first | rfl | (simp [errW_none, errW_some] <;> rfl) | (simp [*, errW_none, errW_some] <;> rfl), by first | exact Kd.R_nil _ _ _ _ _ | exact Kd.N_nil _ _ _ _ _ | exact Kd.V_nil _ _ _ _ _ | exact Kd.Q_nil _ _ _ _ _ | exact Kd.S_nil _ _ _ _ _, by repeat (first | (with_reducible first | exact HB.out | apply below_alloc | apply pw_below_drewN | apply below_drew1 | refine below_set ?_ GE1020.out | refine below_set ?_ GE1021.out) | exact HB.out)⟩
       ·rw [if_neg c11] at H
        have c11b0 : decide ((x1021006_1.length : Int) ≤ (rd l1 x10_1)) = false := decide_eq_false c11
        clear c11
        by_cases c16 : 0 ≤ (rd l1 x10_1)
        ·rw [if_pos c16] at H
         have c16b0 : decide (0 ≤ (rd l1 x10_1)) = true := decide_eq_true c16
         clear c16
         by_cases c17 : (rd l1 x10_1) < (x1021006_1.length : Int)
         ·rw [if_pos c17] at H
          have c17b0 : decide ((rd l1 x10_1) < (x1021006_1.length : Int)) = true := decide_eq_true c17
          clear c17
          have H' := Aside0.mk H
          clear H
          have p1022 : 0 ≤ (x10_1 : Int) := of_decide_eq_true (by first | (with_reducible assumption) | assumption)
          have q1022 : x10_1 < (l1.length : Int) := of_decide_eq_true (by first | (with_reducible assumption) | assumption)
          obtain ⟨ad1022, e1022, hx1022_0⟩ := Kd.at_int HR1.out x10_1 p1022 q1022
          cases e1022
          replace hx1022_0 := (HB.out.cell (World.block_lt_of_cell? w _ hx1022_0)).trans hx1022_0
          replace p1022 := eq_true p1022
          replace q1022 := eq_true q1022
          have hnb18 := NB1020_1021.out
          have hnc18 := NB1021_1020.out
          have hcz19_0 : wr.cell? ⟨gb1020, 0, none⟩ = some (.int .u8 x1021000_1) := (blk_cell BK1020.out 0).trans rfl
          have hcz19_1 : wr.cell? ⟨gb1020, 1, none⟩ = some (.int .i64 x1021001_1) := (blk_cell BK1020.out 1).trans rfl
          have hcz19_2 : wr.cell? ⟨gb1020, 2, none⟩ = some (.int .i64 x1021002_1) := (blk_cell BK1020.out 2).trans rfl
          have hcz19_3 : wr.cell? ⟨gb1020, 3, none⟩ = some (.int .i64 x1021003_1) := (blk_cell BK1020.out 3).trans rfl
          have hcz19_4 : wr.cell? ⟨gb1020, 4, none⟩ = some (.int .i64 x1021004_1) := (blk_cell BK1020.out 4).trans rfl
          have hcz19_5 : wr.cell? ⟨gb1020, 5, none⟩ = some (.int .i64 x1021005_1) := (blk_cell BK1020.out 5).trans rfl
          have hcz19_6 : wr.cell? ⟨gb1020, 6, none⟩ = some (u1021006) := (blk_cell BK1020.out 6).trans rfl
          have hfz19_0 := blk_frozen BK1020.out 0
          have hfz19_1 := blk_frozen BK1020.out 1
          have hfz19_2 := blk_frozen BK1020.out 2
          have hfz19_3 := blk_frozen BK1020.out 3
          have hfz19_4 := blk_frozen BK1020.out 4
          have hfz19_5 := blk_frozen BK1020.out 5
          have hfz19_6 := blk_frozen BK1020.out 6
          obtain ⟨Ao20, co20, eo20⟩ := Kd.V_slice HO_1021006.out
          subst eo20
          have p1023 : 0 ≤ ((rd l1 x10_1) : Int) := of_decide_eq_true (by first | (with_reducible assumption) | assumption)
          have q1023 : (rd l1 x10_1) < (x1021006_1.length : Int) := of_decide_eq_true (by first | (with_reducible assumption) | assumption)
          obtain ⟨ad1023, A1023_6, c1023_6, e1023, hx1023_0, hx1023_1, hx1023_2, hx1023_3, hx1023_4, hx1023_5, hx1023_6, hl1023_6, hi1023_6⟩ := at_T26 (Kd.V_reads' HO_1021006.out).2.2 (rd l1 x10_1) p1023 q1023
          cases e1023
          obtain ⟨ce1023, hce1023, hMe1023, hcc1023⟩ := Kd.V_get HO_1021006.out z26 (rd l1 x10_1) p1023 (by first | exact q1023 | exact of_decide_eq_true (by first | (with_reducible assumption) | assumption) | (have e_ := (Kd.V_reads' HO_1021006.out).1; omega))
          obtain ⟨ua1023_6, uc1023_6, rfl, ul1023_6, ge1023_6⟩ := k26_openF hMe1023
          have hv1023_6 := hcc1023 6 _ rfl
          rw [add_field _ _ 6 (by omega)] at hv1023_6
          replace hv1023_6 := Option.some.inj (hv1023_6.symm.trans hx1023_6)
          injection hv1023_6 with hva_ hvn_ hvc_
          rw [hva_] at ge1023_6
          rw [hvc_] at ul1023_6
          have HL1023_6 := Aside0.mk (show Kd.V k26 26 _ w.heap.size _ _ ((rd_T26 x1021006_1 (rd l1 x10_1)).f3) from Kd.V_mk ul1023_6 ge1023_6)
          clear hva_ hvn_ hvc_ ge1023_6 ul1023_6
          clear hcc1023 hce1023
          have HR1023_6 := Aside0.mk hi1023_6
          have HC1023_6 := Aside0.mk hl1023_6
          clear hi1023_6 hl1023_6
          replace p1023 := eq_true p1023
          replace q1023 := eq_true q1023
          go_wp2
          go_roundg k1
          case measure => have := HK1.out; omega
          case rel => exact ⟨(wrap64 (x10_1 + 1)), ((rd_T26 x1021006_1 (rd l1 x10_1)).f0), ((rd_T26 x1021006_1 (rd l1 x10_1)).f1.f0), ((rd_T26 x1021006_1 (rd l1 x10_1)).f1.f1), ((rd_T26 x1021006_1 (rd l1 x10_1)).f1.f2), ((rd_T26 x1021006_1 (rd l1 x10_1)).f1.f3), ((rd_T26 x1021006_1 (rd l1 x10_1)).f2), ((rd_T26 x1021006_1 (rd l1 x10_1)).f3), (x1022000_1), (x1022001_1), (x1022002_1), (x1022003_1), (x1022004_1), (x1022005_1), (.slice A1023_6 ((rd_T26 x1021006_1 (rd l1 x10_1)).f3).length c1023_6), (by first | rfl | (simp; done) | (simp [*]; done)), H', ⟨by have := HK1.out; omega⟩, ⟨by (with_reducible repeat (first | apply Kd.V_alloc | apply Kd.V_drewN | apply Kd.V_drew)); exact Kd.V_mono (Kd.V_far (p := ⟨gb1020, 6, none⟩) (Kd.V_far (p := ⟨gb1020, 5, none⟩) (Kd.V_far (p := ⟨gb1020, 4, none⟩) (Kd.V_far (p := ⟨gb1020, 3, none⟩) (Kd.V_far (p := ⟨gb1020, 2, none⟩) (Kd.V_far (p := ⟨gb1020, 1, none⟩) (Kd.V_far (p := ⟨gb1020, 0, none⟩) (Kd.V_mono HL1023_6.out (fun k_ hk => (⟨hk, hk.2.1⟩ : _ ∧ k_ ≠ gb1020))) (fun _ hk => hk.2) (.int .u8 ((rd_T26 x1021006_1 (rd l1 x10_1)).f0))) (fun _ hk => hk.2) (.int .i64 ((rd_T26 x1021006_1 (rd l1 x10_1)).f1.f0))) (fun _ hk => hk.2) (.int .i64 ((rd_T26 x1021006_1 (rd l1 x10_1)).f1.f1))) (fun _ hk => hk.2) (.int .i64 ((rd_T26 x1021006_1 (rd l1 x10_1)).f1.f2))) (fun _ hk => hk.2) (.int .i64 ((rd_T26 x1021006_1 (rd l1 x10_1)).f1.f3))) (fun _ hk => hk.2) (.int .i64 ((rd_T26 x1021006_1 (rd l1 x10_1)).f2))) (fun _ hk => hk.2) (.slice A1023_6 ((rd_T26 x1021006_1 (rd l1 x10_1)).f3).length c1023_6)) (fun _ hk => ⟨hk.1.1, ⟨hk.1.2.1, hk.1.2.2⟩⟩)⟩, ⟨by (with_reducible repeat (first | refine blk_drewN ?_ _ | refine blk_drew ?_ | refine blk_alloc ?_ _)); refine blk_put (cs := #[.int .u8 ((rd_T26 x1021006_1 (rd l1 x10_1)).f0), .int .i64 ((rd_T26 x1021006_1 (rd l1 x10_1)).f1.f0), .int .i64 ((rd_T26 x1021006_1 (rd l1 x10_1)).f1.f1), .int .i64 ((rd_T26 x1021006_1 (rd l1 x10_1)).f1.f2), .int .i64 ((rd_T26 x1021006_1 (rd l1 x10_1)).f1.f3), .int .i64 ((rd_T26 x1021006_1 (rd l1 x10_1)).f2), .slice (some ad1023) x1021006_1.length co20]) ?_ 6 _ rfl; (with_reducible repeat (first | refine blk_drewN ?_ _ | refine blk_drew ?_ | refine blk_alloc ?_ _)); refine blk_put (cs := #[.int .u8 ((rd_T26 x1021006_1 (rd l1 x10_1)).f0), .int .i64 ((rd_T26 x1021006_1 (rd l1 x10_1)).f1.f0), .int .i64 ((rd_T26 x1021006_1 (rd l1 x10_1)).f1.f1), .int .i64 ((rd_T26 x1021006_1 (rd l1 x10_1)).f1.f2), .int .i64 ((rd_T26 x1021006_1 (rd l1 x10_1)).f1.f3), .int .i64 x1021005_1, .slice (some ad1023) x1021006_1.length co20]) ?_ 5 _ rfl; (with_reducible repeat (first | refine blk_drewN ?_ _ | refine blk_drew ?_ | refine blk_alloc ?_ _)); refine blk_put (cs := #[.int .u8 ((rd_T26 x1021006_1 (rd l1 x10_1)).f0), .int .i64 ((rd_T26 x1021006_1 (rd l1 x10_1)).f1.f0), .int .i64 ((rd_T26 x1021006_1 (rd l1 x10_1)).f1.f1), .int .i64 ((rd_T26 x1021006_1 (rd l1 x10_1)).f1.f2), .int .i64 x1021004_1, .int .i64 x1021005_1, .slice (some ad1023) x1021006_1.length co20]) ?_ 4 _ rfl; (with_reducible repeat (first | refine blk_drewN ?_ _ | refine blk_drew ?_ | refine blk_alloc ?_ _)); refine blk_put (cs := #[.int .u8 ((rd_T26 x1021006_1 (rd l1 x10_1)).f0), .int .i64 ((rd_T26 x1021006_1 (rd l1 x10_1)).f1.f0), .int .i64 ((rd_T26 x1021006_1 (rd l1 x10_1)).f1.f1), .int .i64 x1021003_1, .int .i64 x1021004_1, .int .i64 x1021005_1, .slice (some ad1023) x1021006_1.length co20]) ?_ 3 _ rfl; (with_reducible repeat (first | refine blk_drewN ?_ _ | refine blk_drew ?_ | refine blk_alloc ?_ _)); refine blk_put (cs := #[.int .u8 ((rd_T26 x1021006_1 (rd l1 x10_1)).f0), .int .i64 ((rd_T26 x1021006_1 (rd l1 x10_1)).f1.f0), .int .i64 x1021002_1, .int .i64 x1021003_1, .int .i64 x1021004_1, .int .i64 x1021005_1, .slice (some ad1023) x1021006_1.length co20]) ?_ 2 _ rfl; (with_reducible repeat (first | refine blk_drewN ?_ _ | refine blk_drew ?_ | refine blk_alloc ?_ _)); refine blk_put (cs := #[.int .u8 ((rd_T26 x1021006_1 (rd l1 x10_1)).f0), .int .i64 x1021001_1, .int .i64 x1021002_1, .int .i64 x1021003_1, .int .i64 x1021004_1, .int .i64 x1021005_1, .slice (some ad1023) x1021006_1.length co20]) ?_ 1 _ rfl; (with_reducible repeat (first | refine blk_drewN ?_ _ | refine blk_drew ?_ | refine blk_alloc ?_ _)); refine blk_put (cs := #[.int .u8 x1021000_1, .int .i64 x1021001_1, .int .i64 x1021002_1, .int .i64 x1021003_1, .int .i64 x1021004_1, .int .i64 x1021005_1, .slice (some ad1023) x1021006_1.length co20]) ?_ 0 _ rfl; (with_reducible repeat (first | refine blk_drewN ?_ _ | refine blk_drew ?_ | refine blk_alloc ?_ _)); exact BK1020.out⟩, ⟨by (with_reducible repeat (first | refine blk_drewN ?_ _ | refine blk_drew ?_ | refine blk_alloc ?_ _)); refine blk_far ?_ NB1021_1020.out _; (with_reducible repeat (first | refine blk_drewN ?_ _ | refine blk_drew ?_ | refine blk_alloc ?_ _)); refine blk_far ?_ NB1021_1020.out _; (with_reducible repeat (first | refine blk_drewN ?_ _ | refine blk_drew ?_ | refine blk_alloc ?_ _)); refine blk_far ?_ NB1021_1020.out _; (with_reducible repeat (first | refine blk_drewN ?_ _ | refine blk_drew ?_ | refine blk_alloc ?_ _)); refine blk_far ?_ NB1021_1020.out _; (with_reducible repeat (first | refine blk_drewN ?_ _ | refine blk_drew ?_ | refine blk_alloc ?_ _)); refine blk_far ?_ NB1021_1020.out _; (with_reducible repeat (first | refine blk_drewN ?_ _ | refine blk_drew ?_ | refine blk_alloc ?_ _)); refine blk_far ?_ NB1021_1020.out _; (with_reducible repeat (first | refine blk_drewN ?_ _ | refine blk_drew ?_ | refine blk_alloc ?_ _)); refine blk_far ?_ NB1021_1020.out _; (with_reducible repeat (first | refine blk_drewN ?_ _ | refine blk_drew ?_ | refine blk_alloc ?_ _)); exact BK1021.out⟩, ⟨by repeat (first | (with_reducible first | exact HB.out | apply below_alloc | apply pw_below_drewN | apply below_drew1 | refine below_set ?_ GE1020.out | refine below_set ?_ GE1021.out) | exact HB.out)⟩⟩
         ·rw [if_neg c17] at H
          exact absurd H (by simp)
        ·rw [if_neg c16] at H
         exact absurd H (by simp)
     ·rw [if_neg c7] at H
      exact absurd H (by simp)
    ·rw [if_neg c6] at H
     exact absurd H (by simp)
   ·rw [if_neg c5] at H
    have c5b0 : decide (x10_1 < (l1.length : Int)) = false := decide_eq_false c5
    clear c5
    replace H := Option.bind_eq_some_iff.mp H
    obtain ⟨⟨t1024, t1025, t1026, t1027, t1028, t1029, t1030⟩, A210, H⟩ := H
    replace H : (some (t1024, t1025, t1026, t1027, t1028, t1029, t1030, true)) = some (r1, r2, r3, r4, r5, r6, r7, r8) := H
    have A21 := Aside0.mk A210
    clear A210
    simp only [Option.some.injEq, Prod.mk.injEq] at H
    obtain ⟨rfl, rfl, rfl, rfl, rfl, rfl, rfl, rfl⟩ := H
    have hnb22 := NB1020_1021.out
    have hnc22 := NB1021_1020.out
    have hcz23_0 : wr.cell? ⟨gb1020, 0, none⟩ = some (.int .u8 x1021000_1) := (blk_cell BK1020.out 0).trans rfl
    have hcz23_1 : wr.cell? ⟨gb1020, 1, none⟩ = some (.int .i64 x1021001_1) := (blk_cell BK1020.out 1).trans rfl
    have hcz23_2 : wr.cell? ⟨gb1020, 2, none⟩ = some (.int .i64 x1021002_1) := (blk_cell BK1020.out 2).trans rfl
    have hcz23_3 : wr.cell? ⟨gb1020, 3, none⟩ = some (.int .i64 x1021003_1) := (blk_cell BK1020.out 3).trans rfl
    have hcz23_4 : wr.cell? ⟨gb1020, 4, none⟩ = some (.int .i64 x1021004_1) := (blk_cell BK1020.out 4).trans rfl
    have hcz23_5 : wr.cell? ⟨gb1020, 5, none⟩ = some (.int .i64 x1021005_1) := (blk_cell BK1020.out 5).trans rfl
    have hcz23_6 : wr.cell? ⟨gb1020, 6, none⟩ = some (u1021006) := (blk_cell BK1020.out 6).trans rfl
    have hfz23_0 := blk_frozen BK1020.out 0
    have hfz23_1 := blk_frozen BK1020.out 1
    have hfz23_2 := blk_frozen BK1020.out 2
    have hfz23_3 := blk_frozen BK1020.out 3
    have hfz23_4 := blk_frozen BK1020.out 4
    have hfz23_5 := blk_frozen BK1020.out 5
    have hfz23_6 := blk_frozen BK1020.out 6
    obtain ⟨Ao24, co24, eo24⟩ := Kd.V_slice HO_1021006.out
    subst eo24
    go_wp2_with (first | ((with_reducible refine gate_callee (f := 151) rfl ?_); refine goesL_ (some 31) rfl rfl Try.func151 (by kernel_rfl) rfl #[.agg #[.int .u8 x1021000_1, .int .i64 x1021001_1, .int .i64 x1021002_1, .int .i64 x1021003_1, .int .i64 x1021004_1, .int .i64 x1021005_1, .slice Ao24 x1021006_1.length co24]] rfl (by (try simp only [List.map_toArray, List.map_cons, List.map_nil]); first | done | rfl | (simp only [List.length_drop, List.length_take]; rfl)) ?_; (with_reducible refine (cell_clone.calls x1021000_1 x1021001_1 x1021002_1 x1021003_1 x1021004_1 x1021005_1 (fun k_ => ((P0_6_ k_ ∨ w.heap.size ≤ k_) ∧ (k_ ≠ gb1020 ∧ k_ ≠ gb1021))) _ _ x1021006_1 t1024 t1025 t1026 t1027 t1028 t1029 t1030 _ ?side1 A21.out).mono ?_); (case side1 => exact HO_1021006.out); rintro e w25 ⟨v1031, rfl, ho0, hb⟩; refine ⟨_, rfl, ?_⟩; have n0_ := Aside0.mk (Kd.V_elder' (by (with_reducible repeat (first | apply Kd.V_alloc | apply Kd.V_drewN | apply Kd.V_drew)); exact HO_1021006.out) (Kd.N_base ho0) hb); have n1_ := Aside0.mk (Kd.N_lower (Kd.N_mono (ok' := fun k_ => (P0_6_ k_ ∨ w.heap.size ≤ k_) ∧ k_ ≠ gb1020 ∧ k_ ≠ gb1021) ho0 (fun k_ hk_ => ⟨Or.elim hk_ (fun hs_ => hs_.1) (fun hn_ => (.inr (Nat.le_trans (below_size (by repeat (first | (with_reducible first | exact HB.out | apply below_alloc | apply pw_below_drewN | apply below_drew1 | refine below_set ?_ GE1020.out | refine below_set ?_ GE1021.out) | exact HB.out))) hn_))), Or.elim hk_ (fun hs_ => hs_.2.1) (fun hn_ => (Kd.freshB (g := gb1020) (o := .cells #[.int .u8 x1021000_1, .int .i64 x1021001_1, .int .i64 x1021002_1, .int .i64 x1021003_1, .int .i64 x1021004_1, .int .i64 x1021005_1, .slice Ao24 x1021006_1.length co24] 26 (0, 0)) (by (with_reducible repeat (first | refine blk_drewN ?_ _ | refine blk_drew ?_ | refine blk_alloc ?_ _)); exact BK1020.out) k_ hn_)), Or.elim hk_ (fun hs_ => hs_.2.2) (fun hn_ => (Kd.freshB (g := gb1021) (o := .cells #[.int .u8 x1022000_1, .int .i64 x1022001_1, .int .i64 x1022002_1, .int .i64 x1022003_1, .int .i64 x1022004_1, .int .i64 x1022005_1, .slice none 0 0] 26 (0, 0)) (by (with_reducible repeat (first | refine blk_drewN ?_ _ | refine blk_drew ?_ | refine blk_alloc ?_ _)); exact BK1021.out) k_ hn_))⟩)) (below_size (by repeat (first | (with_reducible first | exact HB.out | apply below_alloc | apply pw_below_drewN | apply below_drew1 | refine below_set ?_ GE1020.out | refine below_set ?_ GE1021.out) | exact HB.out)))); have n2_ := Aside0.mk (blk_below (g := gb1020) (o := .cells #[.int .u8 x1021000_1, .int .i64 x1021001_1, .int .i64 x1021002_1, .int .i64 x1021003_1, .int .i64 x1021004_1, .int .i64 x1021005_1, .slice Ao24 x1021006_1.length co24] 26 (0, 0)) (by (with_reducible repeat (first | refine blk_drewN ?_ _ | refine blk_drew ?_ | refine blk_alloc ?_ _)); exact BK1020.out) hb); have n3_ := Aside0.mk (blk_below (g := gb1021) (o := .cells #[.int .u8 x1022000_1, .int .i64 x1022001_1, .int .i64 x1022002_1, .int .i64 x1022003_1, .int .i64 x1022004_1, .int .i64 x1022005_1, .slice none 0 0] 26 (0, 0)) (by (with_reducible repeat (first | refine blk_drewN ?_ _ | refine blk_drew ?_ | refine blk_alloc ?_ _)); exact BK1021.out) hb); have n4_ := Aside0.mk (below_step (by repeat (first | (with_reducible first | exact HB.out | apply below_alloc | apply pw_below_drewN | apply below_drew1 | refine below_set ?_ GE1020.out | refine below_set ?_ GE1021.out) | exact HB.out)) hb); clear HO_1021006; clear BK1020; clear BK1021; clear HB; have HO_1021006 := n0_; have HO1032 := n1_; have BK1020 := n2_; have BK1021 := n3_; have HB := n4_; clear n0_ n1_ n2_ n3_ n4_; (try clear hb); (try clear hb2); (try clear hk); (try clear hi); (try clear ho0); have hcz26_0 : w25.cell? ⟨gb1021, 0, none⟩ = some (.int .u8 x1022000_1) := (blk_cell BK1021.out 0).trans rfl; have hcz26_1 : w25.cell? ⟨gb1021, 1, none⟩ = some (.int .i64 x1022001_1) := (blk_cell BK1021.out 1).trans rfl; have hcz26_2 : w25.cell? ⟨gb1021, 2, none⟩ = some (.int .i64 x1022002_1) := (blk_cell BK1021.out 2).trans rfl; have hcz26_3 : w25.cell? ⟨gb1021, 3, none⟩ = some (.int .i64 x1022003_1) := (blk_cell BK1021.out 3).trans rfl; have hcz26_4 : w25.cell? ⟨gb1021, 4, none⟩ = some (.int .i64 x1022004_1) := (blk_cell BK1021.out 4).trans rfl; have hcz26_5 : w25.cell? ⟨gb1021, 5, none⟩ = some (.int .i64 x1022005_1) := (blk_cell BK1021.out 5).trans rfl; have hcz26_6 : w25.cell? ⟨gb1021, 6, none⟩ = some (.slice none 0 0) := (blk_cell BK1021.out 6).trans rfl; have hfz26_0 := blk_frozen BK1021.out 0; have hfz26_1 := blk_frozen BK1021.out 1; have hfz26_2 := blk_frozen BK1021.out 2; have hfz26_3 := blk_frozen BK1021.out 3; have hfz26_4 := blk_frozen BK1021.out 4; have hfz26_5 := blk_frozen BK1021.out 5; have hfz26_6 := blk_frozen BK1021.out 6; obtain ⟨Ao27, co27, eo27⟩ := Kd.N_slice HO1032.out; subst eo27))
    refine bodyPost_ret (results_ct rfl _ _ gb1021 26 #[.int .u8 t1024, .int .i64 t1025, .int .i64 t1026, .int .i64 t1027, .int .i64 t1028, .int .i64 t1029, .slice Ao27 t1030.length co27] (0, 0) _ rfl (by (with_reducible repeat (first | refine blk_drewN ?_ _ | refine blk_drew ?_ | refine blk_alloc ?_ _)); refine blk_put (cs := #[.int .u8 t1024, .int .i64 t1025, .int .i64 t1026, .int .i64 t1027, .int .i64 t1028, .int .i64 t1029, .slice none 0 0]) ?_ 6 _ rfl; (with_reducible repeat (first | refine blk_drewN ?_ _ | refine blk_drew ?_ | refine blk_alloc ?_ _)); refine blk_put (cs := #[.int .u8 t1024, .int .i64 t1025, .int .i64 t1026, .int .i64 t1027, .int .i64 t1028, .int .i64 x1022005_1, .slice none 0 0]) ?_ 5 _ rfl; (with_reducible repeat (first | refine blk_drewN ?_ _ | refine blk_drew ?_ | refine blk_alloc ?_ _)); refine blk_put (cs := #[.int .u8 t1024, .int .i64 t1025, .int .i64 t1026, .int .i64 t1027, .int .i64 x1022004_1, .int .i64 x1022005_1, .slice none 0 0]) ?_ 4 _ rfl; (with_reducible repeat (first | refine blk_drewN ?_ _ | refine blk_drew ?_ | refine blk_alloc ?_ _)); refine blk_put (cs := #[.int .u8 t1024, .int .i64 t1025, .int .i64 t1026, .int .i64 x1022003_1, .int .i64 x1022004_1, .int .i64 x1022005_1, .slice none 0 0]) ?_ 3 _ rfl; (with_reducible repeat (first | refine blk_drewN ?_ _ | refine blk_drew ?_ | refine blk_alloc ?_ _)); refine blk_put (cs := #[.int .u8 t1024, .int .i64 t1025, .int .i64 x1022002_1, .int .i64 x1022003_1, .int .i64 x1022004_1, .int .i64 x1022005_1, .slice none 0 0]) ?_ 2 _ rfl; (with_reducible repeat (first | refine blk_drewN ?_ _ | refine blk_drew ?_ | refine blk_alloc ?_ _)); refine blk_put (cs := #[.int .u8 t1024, .int .i64 x1022001_1, .int .i64 x1022002_1, .int .i64 x1022003_1, .int .i64 x1022004_1, .int .i64 x1022005_1, .slice none 0 0]) ?_ 1 _ rfl; (with_reducible repeat (first | refine blk_drewN ?_ _ | refine blk_drew ?_ | refine blk_alloc ?_ _)); refine blk_put (cs := #[.int .u8 x1022000_1, .int .i64 x1022001_1, .int .i64 x1022002_1, .int .i64 x1022003_1, .int .i64 x1022004_1, .int .i64 x1022005_1, .slice none 0 0]) ?_ 0 _ rfl; (with_reducible repeat (first | refine blk_drewN ?_ _ | refine blk_drew ?_ | refine blk_alloc ?_ _)); exact BK1021.out) Try.underlying26 rfl (by kernel_rfl)) rfl ?_
    exact ⟨_, by first | rfl | (simp [errW_none, errW_some] <;> rfl) | (simp [*, errW_none, errW_some] <;> rfl), by (with_reducible repeat (first | apply Kd.N_alloc | apply Kd.N_drewN | apply Kd.N_drew)); exact Kd.N_mono (Kd.N_far (p := ⟨gb1021, 6, none⟩) (Kd.N_far (p := ⟨gb1021, 5, none⟩) (Kd.N_far (p := ⟨gb1021, 4, none⟩) (Kd.N_far (p := ⟨gb1021, 3, none⟩) (Kd.N_far (p := ⟨gb1021, 2, none⟩) (Kd.N_far (p := ⟨gb1021, 1, none⟩) (Kd.N_far (p := ⟨gb1021, 0, none⟩) (Kd.N_mono HO1032.out (fun k_ hk => (⟨hk, hk.2.2⟩ : _ ∧ k_ ≠ gb1021))) (fun _ hk => hk.2) (.int .u8 t1024)) (fun _ hk => hk.2) (.int .i64 t1025)) (fun _ hk => hk.2) (.int .i64 t1026)) (fun _ hk => hk.2) (.int .i64 t1027)) (fun _ hk => hk.2) (.int .i64 t1028)) (fun _ hk => hk.2) (.int .i64 t1029)) (fun _ hk => hk.2) (.slice Ao27 t1030.length co27)) (fun _ hk => hk.1.1), by repeat (first | (with_reducible first | exact HB.out | apply below_alloc | apply pw_below_drewN | apply below_drew1 | refine below_set ?_ GE1020.out | refine below_set ?_ GE1021.out) | exact HB.out)⟩

end Go.Proofs.Ytfdmfgaiblfbhaa.P
/- The contract of sashref05.At: the cell at a path. -/
namespace Go.Proofs.Ytfdmfgaiblfbhaa.P
open Go.RowKit Go.Proofs.YtfdmfgaiblfbhaaW.PrintWords Go.Proofs.YtfdmfgaiblfbhaaW.PrintLast Go.Proofs.YtfdmfgaiblfbhaaW.PrintMore
set_option linter.unusedVariables false
set_option linter.unusedSimpArgs false
def atC (c : S26) : List Int → Option S26
  | [] => some c
  | i :: is => if i < 0 ∨ i ≥ (c.f3.length : Int) then none else atC (rd_T26 c.f3 i) is
def AtP (w : World) (P : Nat → Prop) (r : Option S26) (e : Ending) (w' : World) : Prop := ∃ v : Value, e = .returned (.tuple #[.agg #[.int .u8 (r.getD z26).f0, .int .i64 (r.getD z26).f1.f0, .int .i64 (r.getD z26).f1.f1, .int .i64 (r.getD z26).f1.f2, .int .i64 (r.getD z26).f1.f3, .int .i64 (r.getD z26).f2, v], .bool r.isSome]) ∧ Kd.V k26 26 w' w.heap.size (fun k => P k ∨ w.heap.size ≤ k) v (r.getD z26).f3 ∧ Below w.heap.size w w'
def ref_at.T5 : Bool × List (List Nat × List Nat) := (true, [([], []), ([0], [0]), ([], []), ([2], [2]), ([3], [3]), ([1, 4], [1, 4]), ([5], [5]), ([], []), ([7], [7]), ([6, 8], [6, 8]), ([9], [9]), ([9], [9]), ([10, 9, 0, 1, 2, 3, 4, 5, 6, 7, 8, 9, 10, 11], [10]), ([11, 12, 0, 1, 2, 3, 4, 5, 6, 7, 8, 9, 10, 11, 12], [11])])
def ref_at.B5 : List Nat := [0, 1, 0, 4, 12, 31, 63, 0, 128, 511, 1023, 1023, 4095, 8191]
def atT (r : Option S26) : Int × Int × Int × Int × Int × Int × List S26 × Bool := ((r.getD z26).f0, (r.getD z26).f1.f0, (r.getD z26).f1.f1, (r.getD z26).f1.f2, (r.getD z26).f1.f3, (r.getD z26).f2, (r.getD z26).f3, r.isSome)
def sashref05_At.f (a0 a1 a2 a3 a4 a5 : Int) (l : List S26) (l1 : List Int) : Option (Int × Int × Int × Int × Int × Int × (List (S26)) × Bool) := some (atT (atC ⟨a0, ⟨a1, a2, a3, a4⟩, a5, l⟩ l1))
end Go.Proofs.Ytfdmfgaiblfbhaa.P
/- The path to a leaf, and the cell at a path, by the code and by the reference: plain data. -/
namespace Go.Proofs.Ytfdmfgaiblfbhaa.P
open Go.RowKit Go.Proofs.YtfdmfgaiblfbhaaW.PrintWords Go.Proofs.YtfdmfgaiblfbhaaW.PrintLast Go.Proofs.YtfdmfgaiblfbhaaW.PrintMore

theorem rd_mem (l : List S26) (i : Int) (h0 : 0 ≤ i) (h1 : i < (l.length : Int)) : rd_T26 l i ∈ l := by
  unfold rd_T26
  rw [List.getD_eq_getElem?_getD, List.getElem?_eq_getElem (by omega), Option.getD_some]
  exact List.getElem_mem _
theorem sz_mem {l : List S26} {k : S26} (h : k ∈ l) : sz k ≤ szL l := by
  obtain ⟨p, q, e⟩ := List.append_of_mem h
  rw [e, szL_app, szL_cons]
  omega
theorem rd_at_in (pre : List Int) (p : Int) (rest : List Int) : rd (pre ++ p :: rest) (pre.length : Int) = p := by
  simp [rd, List.getD_eq_getElem?_getD]
theorem cell_at_ev (path : List Int) (hp : path.length ≤ 1048576) : ∀ (rest pre : List Int), pre ++ rest = path → ∀ c : S26, sz c ≤ 1000000 → Ev (fun k => cell_At.l0 k path (path.length : Int) (pre.length : Int) c.f0 c.f1.f0 c.f1.f1 c.f1.f2 c.f1.f3 c.f2 c.f3) (atT (atC c rest)) := by
  intro rest
  induction rest with
  | nil =>
    intro pre hpp c hc
    rw [List.append_nil] at hpp
    refine Ev.step (f := fun _ => some (atT (some c))) (fun k => ?_) (Ev.now _)
    simp only [cell_At.l0]
    rw [if_neg (by rw [hpp]; omega)]
    unfold cell_clone.f
    rw [eta26, if_pos hc]
    rfl
  | cons i is ih =>
    intro pre hpp c hc
    have hlt : (pre.length : Int) < (path.length : Int) := by rw [← hpp, List.length_append, List.length_cons]; omega
    have hr : rd path (pre.length : Int) = i := by rw [← hpp]; exact rd_at_in pre i is
    have hu : wrap64 ((pre.length : Int) + 1) = ((pre ++ [i]).length : Int) := by
      have h1 : (pre ++ [i]).length = pre.length + 1 := by simp
      rw [wq (by omega) (by omega), h1]
      omega
    simp only [atC]
    by_cases h0 : i < 0
    · rw [if_pos (.inl h0)]
      refine Ev.step (f := fun _ => some (atT none)) (fun k => ?_) (Ev.now _)
      simp only [cell_At.l0]
      rw [if_pos hlt, if_pos (by omega), if_pos hlt, hr, if_pos h0]
      rfl
    · by_cases h1 : i ≥ (c.f3.length : Int)
      · rw [if_pos (.inr h1)]
        refine Ev.step (f := fun _ => some (atT none)) (fun k => ?_) (Ev.now _)
        simp only [cell_At.l0]
        rw [if_pos hlt, if_pos (by omega), if_pos hlt, hr, if_neg h0, if_pos h1]
        rfl
      · rw [if_neg (fun h => h.elim h0 h1)]
        have h2 := sz_mem (rd_mem c.f3 i (by omega) (by omega))
        have h3 := sz_eq c
        refine Ev.step (fun k => ?_) (ih (pre ++ [i]) (by rw [List.append_assoc]; exact hpp) (rd_T26 c.f3 i) (by omega))
        simp only [cell_At.l0]
        rw [if_pos hlt, if_pos (by omega), if_pos hlt, hr, if_neg h0, if_neg h1, if_pos (by omega), if_pos (by omega), hu]
theorem cell_At_ev (c : S26) (path : List Int) (hp : path.length ≤ 1048576) (hc : sz c ≤ 1000000) : Ev (fun k => cell_At.f k c.f0 c.f1.f0 c.f1.f1 c.f1.f2 c.f1.f3 c.f2 c.f3 path) (atT (atC c path)) := by
  unfold cell_At.f
  exact cell_at_ev path hp path [] rfl c hc
end Go.Proofs.Ytfdmfgaiblfbhaa.P
/- Contracts told of trees, for the walks over one state. -/
namespace Go.Proofs.Ytfdmfgaiblfbhaa.P
open Go.RowKit Go.Proofs.YtfdmfgaiblfbhaaW.PrintWords Go.Proofs.YtfdmfgaiblfbhaaW.PrintLast Go.Proofs.YtfdmfgaiblfbhaaW.PrintMore
section
variable {W : World} {b b' : Nat} {P P' : Nat → Prop} {A A' : Option Addr} {cc cc' : Nat}
theorem great_c (c : S26) (g : Bool) (hg : ∃ k, sashref05_Great.f k c.f0 c.f1.f0 c.f1.f1 c.f1.f2 c.f1.f3 c.f2 c.f3 = some g) (hV : Kd.V k26 26 W b P (.slice A c.f3.length cc) c.f3) :
    Calls Try.prog 34 #[.agg #[.int .u8 c.f0, .int .i64 c.f1.f0, .int .i64 c.f1.f1, .int .i64 c.f1.f2, .int .i64 c.f1.f3, .int .i64 c.f2, .slice A c.f3.length cc]] W fun e w' => e = .returned (.bool g) ∧ Below W.heap.size W w' := by
  obtain ⟨k, hk⟩ := hg
  have h := Kd.V_reads' hV
  exact sashref05_Great.calls k _ _ _ _ _ _ A cc c.f3 g W h.2.2 h.2.1 hk
theorem same_c (x y : S26) (hx : sz x ≤ 1048576) (hV : Kd.V k26 26 W b P (.slice A x.f3.length cc) x.f3) (hV' : Kd.V k26 26 W b' P' (.slice A' y.f3.length cc') y.f3) :
    Calls Try.prog 64 #[.agg #[.int .u8 x.f0, .int .i64 x.f1.f0, .int .i64 x.f1.f1, .int .i64 x.f1.f2, .int .i64 x.f1.f3, .int .i64 x.f2, .slice A x.f3.length cc], .agg #[.int .u8 y.f0, .int .i64 y.f1.f0, .int .i64 y.f1.f1, .int .i64 y.f1.f2, .int .i64 y.f1.f3, .int .i64 y.f2, .slice A' y.f3.length cc']] W fun e w' => e = .returned (.bool (sameC x y)) ∧ Below W.heap.size W w' := by
  obtain ⟨k, hk⟩ := (same_ev (sz x) x (Nat.le_refl _) hx y).rounds
  have h := Kd.V_reads' hV
  have h' := Kd.V_reads' hV'
  exact sashref05_Same.calls k _ _ _ _ _ _ A cc x.f3 _ _ _ _ _ _ A' cc' y.f3 _ W h.2.2 h.2.1 h'.2.2 h'.2.1 hk
theorem ev_one {α : Type} {g : Nat → Option α} {a b : α} (h : Ev g a) (k : Ev g b) : a = b := by
  obtain ⟨n, hn⟩ := h
  obtain ⟨m, hm⟩ := k
  exact Option.some.inj ((hn (max n m) (by omega)).symm.trans (hm (max n m) (by omega)))
theorem same_refl (x : S26) (hx : sz x ≤ 1048576) : sameC x x = true := ev_one (same_ev (sz x) x (Nat.le_refl _) hx x) (same_self x hx)
theorem same_t (x : S26) (hx : sz x ≤ 1048576) (hV : Kd.V k26 26 W b P (.slice A x.f3.length cc) x.f3) (hV' : Kd.V k26 26 W b' P' (.slice A' x.f3.length cc') x.f3) :
    Calls Try.prog 64 #[.agg #[.int .u8 x.f0, .int .i64 x.f1.f0, .int .i64 x.f1.f1, .int .i64 x.f1.f2, .int .i64 x.f1.f3, .int .i64 x.f2, .slice A x.f3.length cc], .agg #[.int .u8 x.f0, .int .i64 x.f1.f0, .int .i64 x.f1.f1, .int .i64 x.f1.f2, .int .i64 x.f1.f3, .int .i64 x.f2, .slice A' x.f3.length cc']] W fun e w' => e = .returned (.bool true) ∧ Below W.heap.size W w' := by
  have h := same_c x x hx hV hV'
  rw [same_refl x hx] at h
  exact h
/-- What a call answers that may have no tree: a tree in a row of the call's own. -/
abbrev OptP (w : World) (P : Nat → Prop) : Option S26 → Ending → World → Prop
  | none, e, w' => e = .returned (.tuple #[.agg #[.int .u8 0, .int .i64 0, .int .i64 0, .int .i64 0, .int .i64 0, .int .i64 0, .slice none 0 0], .bool false]) ∧ Below w.heap.size w w'
  | some z, e, w' => ∃ A c, e = .returned (.tuple #[.agg #[.int .u8 z.f0, .int .i64 z.f1.f0, .int .i64 z.f1.f1, .int .i64 z.f1.f2, .int .i64 z.f1.f3, .int .i64 z.f2, .slice A z.f3.length c], .bool true]) ∧ Kd.N k26 26 w' w.heap.size (fun k => P k ∨ w.heap.size ≤ k) (.slice A z.f3.length c) z.f3 ∧ Below w.heap.size w w'
theorem at_c (c : S26) (path : List Int) (z : S26) (hz : atC c path = some z) (hp : path.length ≤ 1048576) (hc : sz c ≤ 1000000) {B : Option Addr} {cb : Nat} (hV : Kd.V k26 26 W b P (.slice A c.f3.length cc) c.f3) (hi : Kd.C (Kd.int .i64) W B path.length path) (hb : path.length ≤ cb) :
    Calls Try.prog 91 #[.agg #[.int .u8 c.f0, .int .i64 c.f1.f0, .int .i64 c.f1.f1, .int .i64 c.f1.f2, .int .i64 c.f1.f3, .int .i64 c.f2, .slice A c.f3.length cc], .slice B path.length cb] W fun e w' => ∃ A2 c2, e = .returned (.tuple #[.agg #[.int .u8 z.f0, .int .i64 z.f1.f0, .int .i64 z.f1.f1, .int .i64 z.f1.f2, .int .i64 z.f1.f3, .int .i64 z.f2, .slice A2 z.f3.length c2], .bool true]) ∧ Kd.N k26 26 w' W.heap.size (fun k => P k ∨ W.heap.size ≤ k) (.slice A2 z.f3.length c2) z.f3 ∧ Below W.heap.size W w' := by
  obtain ⟨k, hk⟩ := (cell_At_ev c path hp hc).rounds
  rw [hz] at hk
  exact (cell_At.calls k _ _ _ _ _ _ P A cc c.f3 B cb path _ _ _ _ _ _ _ _ W (V_any hV) hi hb hk).mono (fun e w' ⟨v, he, hN, hB⟩ => by
    obtain ⟨A2, c2, rfl⟩ := Kd.N_slice hN
    exact ⟨A2, c2, he, hN, hB⟩)
/-- Where there is no cell: the answer is no tree, whatever row it shows. -/
theorem at_none (c : S26) (path : List Int) (hz : atC c path = none) (hp : path.length ≤ 1048576) (hc : sz c ≤ 1000000) {B : Option Addr} {cb : Nat} (hV : Kd.V k26 26 W b P (.slice A c.f3.length cc) c.f3) (hi : Kd.C (Kd.int .i64) W B path.length path) (hb : path.length ≤ cb) :
    Calls Try.prog 91 #[.agg #[.int .u8 c.f0, .int .i64 c.f1.f0, .int .i64 c.f1.f1, .int .i64 c.f1.f2, .int .i64 c.f1.f3, .int .i64 c.f2, .slice A c.f3.length cc], .slice B path.length cb] W fun e w' => ∃ A2 c2, e = .returned (.tuple #[.agg #[.int .u8 0, .int .i64 0, .int .i64 0, .int .i64 0, .int .i64 0, .int .i64 0, .slice A2 0 c2], .bool false]) ∧ Kd.N k26 26 w' W.heap.size (fun k => P k ∨ W.heap.size ≤ k) (.slice A2 0 c2) [] ∧ Below W.heap.size W w' := by
  obtain ⟨k, hk⟩ := (cell_At_ev c path hp hc).rounds
  rw [hz] at hk
  exact (cell_At.calls k _ _ _ _ _ _ P A cc c.f3 B cb path _ _ _ _ _ _ _ _ W (V_any hV) hi hb hk).mono (fun e w' ⟨v, he, hN, hB⟩ => by
    obtain ⟨A2, c2, rfl⟩ := Kd.N_slice hN
    exact ⟨A2, c2, he, hN, hB⟩)
end
section
variable {Pr : Program} {ops : Array Oper} {rest : List Oper} {op : Oper} {a : Act} {Q : Exit → Act → World → Prop} {w W : World} {P : Nat → Prop} {bs : List (Nat × Obj)} {ts : List (Value × List S26)} {ro : List (Addr × Value)}
/-- A number is stored into a tree of the row of the call's own. -/
theorem field_st {g n cap : Nat} {l : List S26} (i : Int) (j : Nat) (hj : j < 6) (u : Value) (hu : u.cells.toList = [u]) (hu1 : u.oneCell' = true) (x : S26) (hx : x.f3 = (rd_T26 l i).f3)
    (hc : ∀ A c, (cellsT (rd_T26 l i) A c).take j ++ [u] ++ (cellsT (rd_T26 l i) A c).drop (j + 1) = cellsT x A c) (t : TypeId) (p y : Operand) (ho : op.op = .store t p y) (S : St w P bs [(.slice (some ⟨g, 0, none⟩) n cap, l)] ts ro W) (h0 : 0 ≤ i) (h1 : i < l.length)
    (haddr : a.eval p = .pointer (some ⟨g, i.toNat * 7 + j, none⟩)) (hy : a.eval y = u) (hsz : (Pr.info? t).map (·.size) = some 1) (hN : op.dst = none) (hgd : op.guard = none)
    (h : ∀ w1, St w P bs [(.slice (some ⟨g, 0, none⟩) n cap, l.set i.toNat x)] ts ro w1 → wpList Pr ops Q rest a w1) : wpList Pr ops Q (op :: rest) a W := by
  have hNl := S.own _ (List.mem_singleton.2 rfl)
  have hob : (Value.slice (some ⟨g, 0, none⟩) n cap).ownBlock = some g := by simp [Value.ownBlock]
  have hmem : g ∈ keys bs [(.slice (some ⟨g, 0, none⟩) n cap, l)] := keys_one.2 (.inr hob)
  have hn : n = l.length := (Kd.N_reads' hNl).1
  obtain ⟨c0, hcl, hM, hcc, hfr⟩ := Kd.N_elem hNl z26 i h0 (by rw [hn]; exact h1)
  obtain ⟨A6, c6, rfl, l6, g6⟩ := k26_openF hM
  have l6 : (rd_T26 l i).f3.length ≤ c6 := l6
  have g6 : Kd.F k26 W _ A6 (rd_T26 l i).f3.length (rd_T26 l i).f3 := g6
  have hMk := k26_mkF W _ x (A6 := A6) (c6 := c6) (by rw [hx]; exact l6) (by rw [hx]; exact g6)
  have hseg := Kd.N_seg hNl i h0 (by rw [hn]; exact h1) (seg := [u]) (j := j) hcl hcc (show j + 1 ≤ 7 by omega) (x' := x) (okp := fun k => (Ok w P (keys bs [(.slice (some ⟨g, 0, none⟩) n cap, l)]) k ∨ (Value.slice (some ⟨g, 0, none⟩) n cap).ownBlock = some k) ∧ k ≠ g) (by
    have e := hc A6 c6
    have e2 : cellsT (rd_T26 l i) A6 c6 = [.int .u8 (l.getD i.toNat z26).f0, .int .i64 (l.getD i.toNat z26).f1.f0, .int .i64 (l.getD i.toNat z26).f1.f1, .int .i64 (l.getD i.toNat z26).f1.f2, .int .i64 (l.getD i.toNat z26).f1.f3, .int .i64 (l.getD i.toNat z26).f2, .slice A6 (l.getD i.toNat z26).f3.length c6] := rfl
    rw [e2] at e
    rw [show j + [u].length = j + 1 from rfl, e]
    exact hMk) (fun k hk => hk)
  obtain ⟨cells, hcells⟩ := Kd.N_typed hNl g hob
  have hlt : i.toNat * 7 + j < cells.size := by
    have h4 := hcc j _ (List.getElem?_eq_getElem (by rw [hcl]; exact (by omega : j < 7)))
    have h5 := blk_cell hcells (i.toNat * 7 + j)
    have h6 : W.cell? ⟨g, i.toNat * k26.sz + j, none⟩ = W.cell? ⟨g, i.toNat * 7 + j, none⟩ := rfl
    rw [h6, h5] at h4
    by_cases h7 : i.toNat * 7 + j < cells.size
    · exact h7
    · rw [Array.getElem?_eq_none (by omega)] at h4; cases h4
  have hrun := store_exec (P := Pr) (a := a) t p y ho haddr hy hu hsz (by simpa using hu1) hcells (by simp; omega)
  refine wpList_plain hgd fun K hK => ?_
  unfold Oper.wp
  rw [hrun]
  show K (a.put op.dst undef) _
  rw [hN]
  refine hK a _ (h _ ?_)
  have hg2 : W.grownBy (W.setCells g (i.toNat * 7 + j) [u]) (some g) := hseg.2
  have hne : ∀ p, p ∈ bs → p.1 ≠ g := fun p hp e => (List.nodup_append.1 S.nd).2.2 p.1 (List.mem_map.2 ⟨p, hp, rfl⟩) g (by simp [hob]) e
  refine ⟨grown_below S.below hg2 (S.new g hmem).1 S.below.size, fun p hp => blk_grown (S.blk p hp) hg2 (fun e => hne p hp (Option.some.inj e)), fun k h => ⟨(S.new k h).1, Nat.lt_of_lt_of_le (S.new k h).2 hg2.size⟩, S.nd, fun t ht => ?_, fun r hr => ?_, fun c hc => ?_⟩
  · exact Kd.V_grown (S.tree t ht) hg2 (fun k h e => h.2 (by rw [Option.some.inj e]; exact hmem))
  · rw [List.mem_singleton] at hr
    subst hr
    exact hseg.1
  · exact ⟨cell_off hg2 (S.cell c hc).1 (fun e => (S.cell c hc).2 (by rw [e]; exact hmem)), (S.cell c hc).2⟩
/-- A box is laid, a store into a box: beside a second sight of the same world. -/
theorem box_st2 {bs' : List (Nat × Obj)} {ow ow' : List (Value × List S26)} {ts' : List (Value × List S26)} {ro' : List (Addr × Value)} {w' : World} {P' : Nat → Prop} {N : Tmp} (hd : op.dst = some N) (hgd : op.guard = none) (cs : Array Value) (t : TypeId) (S : St w P bs ow ts ro W) (S' : St w' P' bs' ow' ts' ro' W)
    (hr : (execOp a.eval op).run Pr W = .ok (.value (.pointer (some ⟨W.heap.size, 0, none⟩))) (W.alloc (.cells cs t (0, 0))))
    (h : ∀ g w1, St w P ((g, .cells cs t (0, 0)) :: bs) ow ts ro w1 → St w' P' ((g, .cells cs t (0, 0)) :: bs') ow' ts' ro' w1 → wpList Pr ops Q rest (a.put op.dst (.pointer (some ⟨g, 0, none⟩))) w1) : wpList Pr ops Q (op :: rest) a W :=
  box_event hgd hd hr (fun g hg w1 hbox hb => h g w1 (S.box hg hbox hb) (S'.box hg hbox hb))
theorem put_st2 {bs' : List (Nat × Obj)} {ow ow' : List (Value × List S26)} {ts' : List (Value × List S26)} {ro' : List (Addr × Value)} {w' : World} {P' : Nat → Prop} (S : St w P bs ow ts ro W) (S' : St w' P' bs' ow' ts' ro' W) (i i' : Nat) {g : Nat} {cs : Array Value} {t0 : TypeId} (hi : bs[i]? = some (g, .cells cs t0 (0, 0))) (hi' : bs'[i']? = some (g, .cells cs t0 (0, 0))) (t : TypeId) (p x : Operand) (ho : op.op = .store t p x) {j : Nat} (cs' : Array Value) {u : Value} {seg : List Value}
    (haddr : a.eval p = .pointer (some ⟨g, j, none⟩)) (hx : a.eval x = u) (hu : u.cells.toList = seg) (ht : (Pr.info? t).map (·.size) = some seg.length) (h1 : ∀ q ∈ seg, q.oneCell' = true) (hj : j + seg.length ≤ cs.size)
    (he : cs.toList.take j ++ seg ++ cs.toList.drop (j + seg.length) = cs'.toList) (hN : op.dst = none) (hgd : op.guard = none)
    (h : ∀ w1, St w P (bs.set i (g, .cells cs' t0 (0, 0))) ow ts ro w1 → St w' P' (bs'.set i' (g, .cells cs' t0 (0, 0))) ow' ts' ro' w1 → wpList Pr ops Q rest a w1) : wpList Pr ops Q (op :: rest) a W := by
  have hm : g ∈ keys bs ow := by
    have := List.mem_of_getElem? hi
    simp only [keys, List.mem_append, List.mem_map]
    exact .inl ⟨_, this, rfl⟩
  have hm' : g ∈ keys bs' ow' := by
    have := List.mem_of_getElem? hi'
    simp only [keys, List.mem_append, List.mem_map]
    exact .inl ⟨_, this, rfl⟩
  exact box_store hN hgd t p x ho cs' haddr hx hu ht h1 (S.blk _ (List.mem_of_getElem? hi)) hj he S.below S.below.size (S.new g hm).1 (fun w1 h2 h3 h4 => h w1 (S.put i hi h2 h3 h4) (S'.put i' hi' h2 (grown_below S'.below h4 (S'.new g hm').1 S'.below.size) h4))
end
end Go.Proofs.Ytfdmfgaiblfbhaa.P
/- The contract of cell.Put: the tree in which a cell is put at a path, in rows of the call's own; what was handed in stays. Condition: at most 1000000 cells each. -/
namespace Go.Proofs.Ytfdmfgaiblfbhaa.P
open Go.RowKit Go.Proofs.YtfdmfgaiblfbhaaW.PrintWords Go.Proofs.YtfdmfgaiblfbhaaW.PrintLast Go.Proofs.YtfdmfgaiblfbhaaW.PrintMore
set_option linter.unusedVariables false
set_option linter.unusedSimpArgs false
def t102_6.T6 : Bool × List (List Nat × List Nat) := (true, [([], []), ([0], [0]), ([], []), ([1, 2], [1, 2]), ([3], [3]), ([], []), ([], []), ([6], [6]), ([4, 5, 7], [4, 5, 7]), ([8], [8]), ([9], [9]), ([9], [9]), ([], []), ([12, 10, 8, 0, 1, 2, 3, 4, 5, 6, 7, 8, 9, 10, 12], [10, 12]), ([11, 13, 0, 1, 2, 3, 4, 5, 6, 7, 8, 9, 10, 11, 12, 13], [11])])
def t102_6.B6 : List Nat := [0, 1, 0, 7, 15, 0, 0, 64, 255, 511, 1023, 1023, 0, 6143, 16383]
theorem t102_6.tab6 : rtab .any (opsOf Try.f102 6) = t102_6.T6 := by kernel_rfl
theorem t102_6.bits6 : waitsOk t102_6.T6.2 t102_6.B6 = true := by kernel_rfl
def putC (kid : S26) : List Int → S26 → Option S26
  | [], _ => some kid
  | i :: is, c => if i < 0 ∨ i ≥ (c.f3.length : Int) then none else match putC kid is (rd_T26 c.f3 i) with
    | none => none
    | some k => some ⟨c.f0, c.f1, c.f2, c.f3.set i.toNat k⟩
abbrev PutP (w : World) (P : Nat → Prop) : Option S26 → Ending → World → Prop
  | none, e, w' => e = .returned (.tuple #[.agg #[.int .u8 0, .int .i64 0, .int .i64 0, .int .i64 0, .int .i64 0, .int .i64 0, .slice none 0 0], .bool false]) ∧ Below w.heap.size w w'
  | some z, e, w' => ∃ A c, e = .returned (.tuple #[.agg #[.int .u8 z.f0, .int .i64 z.f1.f0, .int .i64 z.f1.f1, .int .i64 z.f1.f2, .int .i64 z.f1.f3, .int .i64 z.f2, .slice A z.f3.length c], .bool true]) ∧ Kd.N k26 26 w' w.heap.size (fun k => P k ∨ w.heap.size ≤ k) (.slice A z.f3.length c) z.f3 ∧ Below w.heap.size w w'
set_option maxHeartbeats 4000000 in
set_option maxRecDepth 100000 in
theorem put102 : ∀ (is : List Int) (c kid : S26) (P : Nat → Prop) (A : Option Addr) (cc : Nat) (Ak : Option Addr) (ck' : Nat) (B : Option Addr) (cb : Nat) (w : World), sz c ≤ 1000000 → sz kid ≤ 1000000 →
    Kd.V k26 26 w w.heap.size P (.slice A c.f3.length cc) c.f3 → Kd.V k26 26 w w.heap.size P (.slice Ak kid.f3.length ck') kid.f3 → Kd.C (Kd.int .i64) w B is.length is → is.length ≤ cb →
    Calls Try.prog 102 #[.agg #[.int .u8 c.f0, .int .i64 c.f1.f0, .int .i64 c.f1.f1, .int .i64 c.f1.f2, .int .i64 c.f1.f3, .int .i64 c.f2, .slice A c.f3.length cc], .agg #[.int .u8 kid.f0, .int .i64 kid.f1.f0, .int .i64 kid.f1.f1, .int .i64 kid.f1.f2, .int .i64 kid.f1.f3, .int .i64 kid.f2, .slice Ak kid.f3.length ck'], .slice B is.length cb] w (PutP w P (putC kid is c)) := by
  intro is
  induction is with
  | nil =>
    intro c kid P A cc Ak ck' B cb w hz hzk hv hvk hi hb
    show Calls Try.prog 102 #[.agg #[.int .u8 c.f0, .int .i64 c.f1.f0, .int .i64 c.f1.f1, .int .i64 c.f1.f2, .int .i64 c.f1.f3, .int .i64 c.f2, .slice A c.f3.length cc], .agg #[.int .u8 kid.f0, .int .i64 kid.f1.f0, .int .i64 kid.f1.f1, .int .i64 kid.f1.f2, .int .i64 kid.f1.f3, .int .i64 kid.f2, .slice Ak kid.f3.length ck'], .slice B 0 cb] w (PutP w P (some kid))
    have S := Aside0.mk (St.start (ts := [(.slice A c.f3.length cc, c.f3), (.slice Ak kid.f3.length ck', kid.f3)]) (b0 := w.heap.size) (w := w) (P := P) (fun t ht => by
      rcases List.mem_cons.1 ht with rfl | ht
      · exact hv
      · rw [List.mem_singleton.1 ht]; exact hvk))
    have HZ := Aside0.mk hz
    have HZK := Aside0.mk hzk
    clear hz hzk hv hvk hi hb
    obtain ⟨ck, ⟨cx, cy, cw, ch⟩, cid, l⟩ := c
    obtain ⟨kk, ⟨kx, ky, kw, kh⟩, kid, m⟩ := kid
    simp only [] at S ⊢
    go_enter Try.func102, Try.ntmps102
    go_wp2_with (first
      | ((with_reducible refine gate_dst (N := 3) rfl ?_); refine box_st (N := 3) rfl rfl #[.int .u8 ck, .int .i64 cx, .int .i64 cy, .int .i64 cw, .int .i64 ch, .int .i64 cid, .slice A l.length cc] 26 S.out ?hr ?_; (case hr => first | (go_simp; done) | (go_simp; rfl)); intro b3 w1_ S1; replace S := Aside0.mk S1; clear S1)
      | ((with_reducible refine gate_dst (N := 4) rfl ?_); refine box_st (N := 4) rfl rfl #[.int .u8 kk, .int .i64 kx, .int .i64 ky, .int .i64 kw, .int .i64 kh, .int .i64 kid, .slice Ak m.length ck'] 26 S.out ?hr ?_; (case hr => first | (go_simp; done) | (go_simp; rfl)); intro b4 w2_ S1; replace S := Aside0.mk S1; clear S1)
      | ((with_reducible refine gate_dst (N := 6) rfl ?_); refine box_st (N := 6) rfl rfl #[.int .u8 0, .int .i64 0, .int .i64 0, .int .i64 0, .int .i64 0, .int .i64 0, .slice none 0 0] 26 S.out ?hr ?_; (case hr => first | (go_simp; done) | (go_simp; rfl)); intro b6 w3_ S1; replace S := Aside0.mk S1; clear S1; have cb4_0 := (S.out.at (.tail _ (.head _)) 0).trans rfl; have cb4_1 := (S.out.at (.tail _ (.head _)) 1).trans rfl; have cb4_2 := (S.out.at (.tail _ (.head _)) 2).trans rfl; have cb4_3 := (S.out.at (.tail _ (.head _)) 3).trans rfl; have cb4_4 := (S.out.at (.tail _ (.head _)) 4).trans rfl; have cb4_5 := (S.out.at (.tail _ (.head _)) 5).trans rfl; have cb4_6 := (S.out.at (.tail _ (.head _)) 6).trans rfl)
      | ((with_reducible refine gate_dst (N := 15) rfl ?_); refine goesL_ (some 15) rfl rfl Try.func151 (by kernel_rfl) rfl #[.agg #[.int .u8 kk, .int .i64 kx, .int .i64 ky, .int .i64 kw, .int .i64 kh, .int .i64 kid, .slice Ak m.length ck']] rfl (by (try simp only [List.map_toArray, List.map_cons, List.map_nil]); first | done | rfl) ?_; refine (clone151 1000000 ⟨kk, ⟨kx, ky, kw, kh⟩, kid, m⟩ HZK.out (Nat.le_refl _) _ Ak ck' _ (S.out.tree _ (.tail _ (.head _)))).mono ?_; rintro e w4_ ⟨v, rfl, h1, hb⟩; refine ⟨_, rfl, ?_⟩; obtain ⟨Ac15, cc15, ev⟩ := Kd.N_slice h1; subst ev; replace S := Aside0.mk (S.out.resN h1 hb); clear h1 hb; clear cb4_0 cb4_1 cb4_2 cb4_3 cb4_4 cb4_5 cb4_6)
      | ((with_reducible refine gate_ (.store 26 (.tmp 6) (.tmp 15)) rfl ?_); go_loud (refine put_st 0 rfl 26 (.tmp 6) (.tmp 15) rfl #[.int .u8 kk, .int .i64 kx, .int .i64 ky, .int .i64 kw, .int .i64 kh, .int .i64 kid, .slice Ac15 m.length cc15] (j := 0) (u := .agg #[.int .u8 kk, .int .i64 kx, .int .i64 ky, .int .i64 kw, .int .i64 kh, .int .i64 kid, .slice Ac15 m.length cc15]) (seg := [.int .u8 kk, .int .i64 kx, .int .i64 ky, .int .i64 kw, .int .i64 kh, .int .i64 kid, .slice Ac15 m.length cc15]) S.out ?sA ?sX rfl ?sT ?s1 ?sJ rfl rfl rfl ?_; (case sA => rfl); (case sX => rfl); (case sT => rfl); (case s1 => simp [Value.oneCell']); (case sJ => first | decide | simp); intro w5_ S1; simp only [List.set_cons_zero, List.set_cons_succ] at S1; replace S := Aside0.mk S1; clear S1))
      | fail)
    refine bodyPost_ret (results_ct rfl _ _ b6 26 #[.int .u8 kk, .int .i64 kx, .int .i64 ky, .int .i64 kw, .int .i64 kh, .int .i64 kid, .slice Ac15 m.length cc15] (0, 0) _ rfl (S.out.blk _ (.head _)) Try.underlying26 rfl (by kernel_rfl)) rfl ?_
    exact ⟨_, _, rfl, S.out.ownN, S.out.below⟩
  | cons i is ih =>
    intro c kid P A cc Ak ck' B cb w hz hzk hv hvk hi hb
    have IH := Aside0.mk ih
    have HI := Aside0.mk hi
    have LI := Aside0.mk hb
    have S := Aside0.mk (St.start (ts := [(.slice A c.f3.length cc, c.f3), (.slice Ak kid.f3.length ck', kid.f3)]) (b0 := w.heap.size) (w := w) (P := P) (fun t ht => by
      rcases List.mem_cons.1 ht with rfl | ht
      · exact hv
      · rw [List.mem_singleton.1 ht]; exact hvk))
    obtain ⟨adi, rfl, xi⟩ := Kd.at_int hi 0 (by omega) (by simp)
    rw [show ((0 : Int)).toNat = 0 from rfl, Addr.add_zero'] at xi
    have xi : w.cell? adi = some (.int .i64 i) := xi
    replace S := Aside0.mk (S.out.addcell xi)
    have hlen0 : (0 : Int) < ((is.length : Int) + 1) := by omega
    have hl0 : ((is.length + 1 : Nat) : Int) = (is.length : Int) + 1 := by omega
    have HZ := Aside0.mk hz
    have HZK := Aside0.mk hzk
    clear ih hv hvk hi hb xi hz hzk
    simp only [putC]
    obtain ⟨ck, ⟨cx, cy, cw, ch⟩, cid, l⟩ := c
    obtain ⟨kk, ⟨kx, ky, kw, kh⟩, kid, m⟩ := kid
    simp only [] at S ⊢
    simp only [List.length_cons] at HI LI ⊢
    by_cases h0 : i < 0
    · rw [if_pos (.inl h0)]
      have h0b : decide (i < 0) = true := decide_eq_true h0
      go_enter Try.func102, Try.ntmps102
      go_wp2_with (first
        | ((with_reducible refine gate_dst (N := 3) rfl ?_); refine box_st (N := 3) rfl rfl #[.int .u8 ck, .int .i64 cx, .int .i64 cy, .int .i64 cw, .int .i64 ch, .int .i64 cid, .slice A l.length cc] 26 S.out ?hr ?_; (case hr => first | (go_simp; done) | (go_simp; rfl)); intro b3 w1_ S1; replace S := Aside0.mk S1; clear S1)
        | ((with_reducible refine gate_dst (N := 4) rfl ?_); refine box_st (N := 4) rfl rfl #[.int .u8 kk, .int .i64 kx, .int .i64 ky, .int .i64 kw, .int .i64 kh, .int .i64 kid, .slice Ak m.length ck'] 26 S.out ?hr ?_; (case hr => first | (go_simp; done) | (go_simp; rfl)); intro b4 w2_ S1; replace S := Aside0.mk S1; clear S1)
        | ((with_reducible refine gate_dst (N := 6) rfl ?_); refine box_st (N := 6) rfl rfl #[.int .u8 0, .int .i64 0, .int .i64 0, .int .i64 0, .int .i64 0, .int .i64 0, .slice none 0 0] 26 S.out ?hr ?_; (case hr => first | (go_simp; done) | (go_simp; rfl)); intro b6 w3_ S1; replace S := Aside0.mk S1; clear S1; have y0_ := (S.out.cell _ (.head _)).1)
        | ((with_reducible refine gate_ (.store 26 (.tmp 6) (.tmp 28)) rfl ?_); go_loud (refine put_st 0 rfl 26 (.tmp 6) (.tmp 28) rfl #[.int .u8 0, .int .i64 0, .int .i64 0, .int .i64 0, .int .i64 0, .int .i64 0, .slice none 0 0] (j := 0) (u := .agg #[.int .u8 0, .int .i64 0, .int .i64 0, .int .i64 0, .int .i64 0, .int .i64 0, .slice none 0 0]) (seg := [.int .u8 0, .int .i64 0, .int .i64 0, .int .i64 0, .int .i64 0, .int .i64 0, .slice none 0 0]) S.out ?sA ?sX rfl ?sT ?s1 ?sJ rfl rfl rfl ?_; (case sA => rfl); (case sX => rfl); (case sT => rfl); (case s1 => simp [Value.oneCell']); (case sJ => first | decide | simp); intro w4_ S1; simp only [List.set_cons_zero, List.set_cons_succ] at S1; replace S := Aside0.mk S1; clear S1); clear y0_)
        | fail)
      refine bodyPost_ret (results_ct rfl _ _ b6 26 #[.int .u8 0, .int .i64 0, .int .i64 0, .int .i64 0, .int .i64 0, .int .i64 0, .slice none 0 0] (0, 0) _ rfl (S.out.blk _ (.head _)) Try.underlying26 rfl (by kernel_rfl)) rfl ?_
      exact ⟨rfl, S.out.below⟩
    · by_cases h1 : i ≥ (l.length : Int)
      · rw [if_pos (.inr h1)]
        have h0b : decide (i < 0) = false := decide_eq_false h0
        have h1b : decide (i ≥ (l.length : Int)) = true := decide_eq_true h1
        have h1c : decide ((l.length : Int) ≤ i) = true := decide_eq_true h1
        go_enter Try.func102, Try.ntmps102
        go_wp2_with (first
          | ((with_reducible refine gate_dst (N := 3) rfl ?_); refine box_st (N := 3) rfl rfl #[.int .u8 ck, .int .i64 cx, .int .i64 cy, .int .i64 cw, .int .i64 ch, .int .i64 cid, .slice A l.length cc] 26 S.out ?hr ?_; (case hr => first | (go_simp; done) | (go_simp; rfl)); intro b3 w1_ S1; replace S := Aside0.mk S1; clear S1)
          | ((with_reducible refine gate_dst (N := 4) rfl ?_); refine box_st (N := 4) rfl rfl #[.int .u8 kk, .int .i64 kx, .int .i64 ky, .int .i64 kw, .int .i64 kh, .int .i64 kid, .slice Ak m.length ck'] 26 S.out ?hr ?_; (case hr => first | (go_simp; done) | (go_simp; rfl)); intro b4 w2_ S1; replace S := Aside0.mk S1; clear S1)
          | ((with_reducible refine gate_dst (N := 6) rfl ?_); refine box_st (N := 6) rfl rfl #[.int .u8 0, .int .i64 0, .int .i64 0, .int .i64 0, .int .i64 0, .int .i64 0, .slice none 0 0] 26 S.out ?hr ?_; (case hr => first | (go_simp; done) | (go_simp; rfl)); intro b6 w3_ S1; replace S := Aside0.mk S1; clear S1; have y0_ := (S.out.cell _ (.head _)).1; have cb3_6 := (S.out.at (.tail _ (.tail _ (.head _))) 6).trans rfl)
          | ((with_reducible refine gate_ (.store 26 (.tmp 6) (.tmp 28)) rfl ?_); go_loud (refine put_st 0 rfl 26 (.tmp 6) (.tmp 28) rfl #[.int .u8 0, .int .i64 0, .int .i64 0, .int .i64 0, .int .i64 0, .int .i64 0, .slice none 0 0] (j := 0) (u := .agg #[.int .u8 0, .int .i64 0, .int .i64 0, .int .i64 0, .int .i64 0, .int .i64 0, .slice none 0 0]) (seg := [.int .u8 0, .int .i64 0, .int .i64 0, .int .i64 0, .int .i64 0, .int .i64 0, .slice none 0 0]) S.out ?sA ?sX rfl ?sT ?s1 ?sJ rfl rfl rfl ?_; (case sA => rfl); (case sX => rfl); (case sT => rfl); (case s1 => simp [Value.oneCell']); (case sJ => first | decide | simp); intro w4_ S1; simp only [List.set_cons_zero, List.set_cons_succ] at S1; replace S := Aside0.mk S1; clear S1); clear y0_ cb3_6)
          | fail)
        refine bodyPost_ret (results_ct rfl _ _ b6 26 #[.int .u8 0, .int .i64 0, .int .i64 0, .int .i64 0, .int .i64 0, .int .i64 0, .slice none 0 0] (0, 0) _ rfl (S.out.blk _ (.head _)) Try.underlying26 rfl (by kernel_rfl)) rfl ?_
        exact ⟨rfl, S.out.below⟩
      · rw [if_neg (fun h => h.elim h0 h1)]
        have h0b : decide (i < 0) = false := decide_eq_false h0
        have h1b : decide (i ≥ (l.length : Int)) = false := decide_eq_false h1
        have h1c : decide ((l.length : Int) ≤ i) = false := decide_eq_false h1
        have h0z : 0 ≤ i := by omega
        have h1z : i < (l.length : Int) := by omega
        obtain ⟨adk, ua, uc, ek, S1⟩ := S.out.elem (.head _) i h0z h1z
        subst ek
        replace S := Aside0.mk S1
        have HKZ := Aside0.mk (show sz (rd_T26 l i) ≤ 1000000 by have := sz_mem (rd_mem l i h0z h1z); have := HZ.out; rw [sz_eq] at this; simp only [] at this; omega)
        clear S1
        generalize rd_T26 l i = k at S HKZ ⊢
        obtain ⟨i0, hi0, _, hsz, _⟩ := info_parts info3
        have hcut := cut_from (P := Try.prog) 41 3 .i64 Try.underlying41 hi0 1 hsz (some adi) (is.length + 1) cb 1 (by omega) (by omega)
        have hdrop := Kd.C_drop HI.out (m := 1) (by rw [List.length_cons]; omega) LI.out
        obtain ⟨A2, hA2⟩ : ∃ A2, A2 = (if cb = (1 : Int).toNat then (some adi) else ((some adi) : Option Addr).map (·.add ((1 : Int).toNat * 1))) := ⟨_, rfl⟩
        obtain ⟨c2, hc2⟩ : ∃ c2, c2 = cb - (1 : Int).toNat := ⟨_, rfl⟩
        rw [← hA2, ← hc2, show is.length + 1 - (1 : Int).toNat = is.length by simp] at hcut
        have HI2 := Aside0.mk (show Kd.C (Kd.int .i64) w A2 is.length is by rw [hA2]; exact hdrop)
        have LI2 := Aside0.mk (show is.length ≤ c2 by have h3 := LI.out; rw [hc2]; simp; omega)
        have HCUT := Aside0.mk hcut
        clear hdrop hA2 hc2 hi0 hsz hcut h0 h1
        have H0Z := Aside0.mk h0z
        have H1Z := Aside0.mk h1z
        have IHk := fun Q W h1 h2 h3 => IH.out k ⟨kk, ⟨kx, ky, kw, kh⟩, kid, m⟩ Q ua uc Ak ck' A2 c2 W HKZ.out HZK.out h1 h2 h3 LI2.out
        cases hp : putC ⟨kk, ⟨kx, ky, kw, kh⟩, kid, m⟩ is k with
        | none =>
          simp only [hp] at IHk ⊢
          have hcut := HCUT.out
          go_enter Try.func102, Try.ntmps102
          go_wp2_with (first
            | ((with_reducible refine gate_dst (N := 3) rfl ?_); refine box_st (N := 3) rfl rfl #[.int .u8 ck, .int .i64 cx, .int .i64 cy, .int .i64 cw, .int .i64 ch, .int .i64 cid, .slice (some adk) l.length cc] 26 S.out ?hr ?_; (case hr => first | (go_simp; done) | (go_simp; rfl)); intro b3 w1_ S1; replace S := Aside0.mk S1; clear S1)
            | ((with_reducible refine gate_dst (N := 4) rfl ?_); refine box_st (N := 4) rfl rfl #[.int .u8 kk, .int .i64 kx, .int .i64 ky, .int .i64 kw, .int .i64 kh, .int .i64 kid, .slice Ak m.length ck'] 26 S.out ?hr ?_; (case hr => first | (go_simp; done) | (go_simp; rfl)); intro b4 w2_ S1; replace S := Aside0.mk S1; clear S1)
            | ((with_reducible refine gate_dst (N := 6) rfl ?_); refine box_st (N := 6) rfl rfl #[.int .u8 0, .int .i64 0, .int .i64 0, .int .i64 0, .int .i64 0, .int .i64 0, .slice none 0 0] 26 S.out ?hr ?_; (case hr => first | (go_simp; done) | (go_simp; rfl)); intro b6 w3_ S1; replace S := Aside0.mk S1; clear S1; have y7_ := (S.out.cell _ (.tail _ (.tail _ (.tail _ (.tail _ (.tail _ (.tail _ (.tail _ (.head _))))))))).1; have cb3_6 := (S.out.at (.tail _ (.tail _ (.head _))) 6).trans rfl)
            | fail)
          clear y7_ cb3_6
          refine start_ (n := 15) (S := fun w' => St w P _ _ _ _ w') (ds := [13]) (bA 15 0) (by kernel_rfl) rfl rfl (S.out.call (below_drew (Below.refl _ _))) (fun hHeld => ?_); refine with_tabW t102_6.tab6 t102_6.bits6 (fun HT_ HW_ => ?_)
          replace S := Aside0.mk (S.out.call (below_drew (Below.refl _ _)))
          generalize w3_.drew = wd4 at S hHeld ⊢
          refine pureS 0 30 (bA 15 1) HT_ ?_
          refine takeS 1 31 (bA 15 3) HT_ HW_ hHeld ?_ (hv := by intro w' hs_; have cb3_6 := (hs_.at (.tail _ (.tail _ (.head _))) 6).trans rfl; go_simp; with_reducible rfl)
          refine pureS 2 32 (bA 15 7) HT_ ?_
          refine pureS 3 33 (bA 15 15) HT_ ?_
          refine takeS 4 34 (bA 15 31) HT_ HW_ hHeld ?_ (hv := by intro w' hs_; have y0_ := (hs_.cell _ (.head _)).1; have y1_ := (hs_.cell _ (.tail _ (.head _))).1; have y2_ := (hs_.cell _ (.tail _ (.tail _ (.head _)))).1; have y3_ := (hs_.cell _ (.tail _ (.tail _ (.tail _ (.head _))))).1; have y4_ := (hs_.cell _ (.tail _ (.tail _ (.tail _ (.tail _ (.head _)))))).1; have y5_ := (hs_.cell _ (.tail _ (.tail _ (.tail _ (.tail _ (.tail _ (.head _))))))).1; have y6_ := (hs_.cell _ (.tail _ (.tail _ (.tail _ (.tail _ (.tail _ (.tail _ (.head _)))))))).1; go_simp; with_reducible rfl)
          refine takeS 5 35 (bA 15 63) HT_ HW_ hHeld ?_ (hv := by intro w' hs_; have cb4_0 := (hs_.at (.tail _ (.head _)) 0).trans rfl; have cb4_1 := (hs_.at (.tail _ (.head _)) 1).trans rfl; have cb4_2 := (hs_.at (.tail _ (.head _)) 2).trans rfl; have cb4_3 := (hs_.at (.tail _ (.head _)) 3).trans rfl; have cb4_4 := (hs_.at (.tail _ (.head _)) 4).trans rfl; have cb4_5 := (hs_.at (.tail _ (.head _)) 5).trans rfl; have cb4_6 := (hs_.at (.tail _ (.head _)) 6).trans rfl; go_simp; with_reducible rfl)
          refine pureS 6 36 (bA 15 127) HT_ ?_
          refine pureS 7 37 (bA 15 255) HT_ ?_
          refine join_ (σ := Nat) 2 (bA 15 8191) (fun s_ => [(38, .tuple #[.agg #[.int .u8 0, .int .i64 0, .int .i64 0, .int .i64 0, .int .i64 0, .int .i64 0, .slice none 0 0], .bool false]), (29, .tuple #[.agg #[.int .u8 0, .int .i64 0, .int .i64 0, .int .i64 0, .int .i64 0, .int .i64 0, .slice none 0 0], .bool false]), (39, .agg #[.int .u8 0, .int .i64 0, .int .i64 0, .int .i64 0, .int .i64 0, .int .i64 0, .slice none 0 0]), (40, .bool false), (9, .pointer (some ⟨s_, 0, none⟩))]) (fun s_ w' => St w P [(s_, .cells #[.int .u8 0, .int .i64 0, .int .i64 0, .int .i64 0, .int .i64 0, .int .i64 0, .slice none 0 0] 26 (0, 0)), (b6, .cells #[.int .u8 0, .int .i64 0, .int .i64 0, .int .i64 0, .int .i64 0, .int .i64 0, .slice none 0 0] 26 (0, 0)), (b4, .cells #[.int .u8 kk, .int .i64 kx, .int .i64 ky, .int .i64 kw, .int .i64 kh, .int .i64 kid, .slice Ak m.length ck'] 26 (0, 0)), (b3, .cells #[.int .u8 ck, .int .i64 cx, .int .i64 cy, .int .i64 cw, .int .i64 ch, .int .i64 cid, .slice (some adk) l.length cc] 26 (0, 0))] [] [(.slice ua k.f3.length uc, k.f3), (.slice (some adk) l.length cc, l), (.slice Ak m.length ck', m)] [((adk.add (i.toNat * 7)), .int .u8 k.f0), (⟨(adk.add (i.toNat * 7)).block, (adk.add (i.toNat * 7)).off + 1, none⟩, .int .i64 k.f1.f0), (⟨(adk.add (i.toNat * 7)).block, (adk.add (i.toNat * 7)).off + 2, none⟩, .int .i64 k.f1.f1), (⟨(adk.add (i.toNat * 7)).block, (adk.add (i.toNat * 7)).off + 3, none⟩, .int .i64 k.f1.f2), (⟨(adk.add (i.toNat * 7)).block, (adk.add (i.toNat * 7)).off + 4, none⟩, .int .i64 k.f1.f3), (⟨(adk.add (i.toNat * 7)).block, (adk.add (i.toNat * 7)).off + 5, none⟩, .int .i64 k.f2), (⟨(adk.add (i.toNat * 7)).block, (adk.add (i.toNat * 7)).off + 6, none⟩, .slice ua k.f3.length uc), (adi, .int .i64 i)] w') ?_ ?_
          rotate_left
          · intro hCont
            refine two_ (i := 8) (j := 12) (Ni := some 38) (Nj := some 9) (bA 15 511) (bA 15 4351) rfl rfl rfl rfl (two_of HT_.out (by kernel_rfl)) (by decide) (by decide) (fun K hK => ?_) (fun K hK => ?_)
            · skip
              refine goes_ Try.func102 (by kernel_rfl) rfl #[.agg #[.int .u8 k.f0, .int .i64 k.f1.f0, .int .i64 k.f1.f1, .int .i64 k.f1.f2, .int .i64 k.f1.f3, .int .i64 k.f2, .slice ua k.f3.length uc], .agg #[.int .u8 kk, .int .i64 kx, .int .i64 ky, .int .i64 kw, .int .i64 kh, .int .i64 kid, .slice Ak m.length ck'], .slice A2 is.length c2] (by rfl) rfl rfl (by (try simp only [List.map_toArray, List.map_cons, List.map_nil]); first | done | rfl) ?_
              refine (IHk _ _ (V_any (S.out.tree _ (.head _))) (V_any (S.out.tree _ (.tail _ (.tail _ (.head _))))) (Kd.C_below HI2.out S.out.below)).mono ?_
              rintro e w5_ ⟨rfl, hb⟩
              refine ⟨_, rfl, ?_⟩
              replace S := Aside0.mk (S.out.call hb)
              clear hb
              refine hK.out _ _ S.out (fun hHeld => ?_)
              clear hK K
              refine norm_ (a' := ?_) ?_ ?_
              rotate_left
              · show Act.put _ (some 38) _ = _
                simp only [Act.put, List.setIfInBounds_toArray, List.set_cons_zero, List.set_cons_succ, i64_w, i32_w]
                rfl
              refine pureS 9 29 (bA 15 1023) HT_ ?_
              refine pureS 10 39 (bA 15 2047) HT_ ?_
              refine pureS 11 40 (bA 15 4095) HT_ ?_
              refine one_ (i := 12) (N := some 9) (bA 15 8191) rfl rfl (one_of HT_.out (by kernel_rfl)) (by decide) (fun K hK => ?_)
              refine box_step ?hg (N := 9) ?hd (cs := #[.int .u8 0, .int .i64 0, .int .i64 0, .int .i64 0, .int .i64 0, .int .i64 0, .slice none 0 0]) (t := 26) ?hr ?_; (case hd => rfl); (case hg => rfl); (case hr => first | (go_simp; done) | (go_simp; rfl))
              intro b9 hg w6_ hbox hb
              replace S := Aside0.mk (S.out.box hg hbox hb)
              clear hg hbox hb
              refine hK.out _ _ S.out.dropB (fun hHeld => ?_)
              clear hK K
              refine norm_ (a' := ?_) ?_ ?_
              rotate_left
              · show Act.put _ (some 9) _ = _
                simp only [Act.put, List.setIfInBounds_toArray, List.set_cons_zero, List.set_cons_succ, i64_w, i32_w]
                rfl
              exact norm_ (by simp only [putAll, Act.put, List.setIfInBounds_toArray, List.set_cons_zero, List.set_cons_succ] <;> rfl) (hCont b9 _ S.out)
            · skip
              refine box_step ?hg (N := 9) ?hd (cs := #[.int .u8 0, .int .i64 0, .int .i64 0, .int .i64 0, .int .i64 0, .int .i64 0, .slice none 0 0]) (t := 26) ?hr ?_; (case hd => rfl); (case hg => rfl); (case hr => first | (go_simp; done) | (go_simp; rfl))
              intro b9 hg w7_ hbox hb
              replace S := Aside0.mk (S.out.box hg hbox hb)
              clear hg hbox hb
              refine hK.out _ _ S.out.dropB (fun hHeld => ?_)
              clear hK K
              refine norm_ (a' := ?_) ?_ ?_
              rotate_left
              · show Act.put _ (some 9) _ = _
                simp only [Act.put, List.setIfInBounds_toArray, List.set_cons_zero, List.set_cons_succ, i64_w, i32_w]
                rfl
              refine one_ (i := 8) (N := some 38) (bA 15 4607) rfl rfl (one_of HT_.out (by kernel_rfl)) (by decide) (fun K hK => ?_)
              refine goes_ Try.func102 (by kernel_rfl) rfl #[.agg #[.int .u8 k.f0, .int .i64 k.f1.f0, .int .i64 k.f1.f1, .int .i64 k.f1.f2, .int .i64 k.f1.f3, .int .i64 k.f2, .slice ua k.f3.length uc], .agg #[.int .u8 kk, .int .i64 kx, .int .i64 ky, .int .i64 kw, .int .i64 kh, .int .i64 kid, .slice Ak m.length ck'], .slice A2 is.length c2] (by rfl) rfl rfl (by (try simp only [List.map_toArray, List.map_cons, List.map_nil]); first | done | rfl) ?_
              refine (IHk _ _ (V_any (S.out.tree _ (.head _))) (V_any (S.out.tree _ (.tail _ (.tail _ (.head _))))) (Kd.C_below HI2.out S.out.below)).mono ?_
              rintro e w8_ ⟨rfl, hb⟩
              refine ⟨_, rfl, ?_⟩
              replace S := Aside0.mk (S.out.call hb)
              clear hb
              refine hK.out _ _ S.out.dropB (fun hHeld => ?_)
              clear hK K
              refine norm_ (a' := ?_) ?_ ?_
              rotate_left
              · show Act.put _ (some 38) _ = _
                simp only [Act.put, List.setIfInBounds_toArray, List.set_cons_zero, List.set_cons_succ, i64_w, i32_w]
                rfl
              refine pureS 9 29 (bA 15 5119) HT_ ?_
              refine pureS 10 39 (bA 15 6143) HT_ ?_
              refine pureS 11 40 (bA 15 8191) HT_ ?_
              exact norm_ (by simp only [putAll, Act.put, List.setIfInBounds_toArray, List.set_cons_zero, List.set_cons_succ] <;> rfl) (hCont b9 _ S.out)
          intro b9 wj9 S1
          simp only [putAll, Act.put, List.setIfInBounds_toArray, List.set_cons_zero, List.set_cons_succ]
          replace S := Aside0.mk S1
          clear S1 hHeld
          have hHeld := S.out.dropB
          refine last_ (i := 13) (N := none) (bA 15 16383) rfl rfl (one_of HT_.out (by kernel_rfl)) (by decide) (fun K hK => ?_)
          refine put_eff 0 rfl 26 (.tmp 9) (.tmp 39) rfl #[.int .u8 0, .int .i64 0, .int .i64 0, .int .i64 0, .int .i64 0, .int .i64 0, .slice none 0 0] (j := 0) (u := .agg #[.int .u8 0, .int .i64 0, .int .i64 0, .int .i64 0, .int .i64 0, .int .i64 0, .slice none 0 0]) (seg := [.int .u8 0, .int .i64 0, .int .i64 0, .int .i64 0, .int .i64 0, .int .i64 0, .slice none 0 0]) S.out (by rfl) rfl rfl rfl rfl (by kernel_rfl) (by simp [Value.oneCell']) (by first | decide | simp) rfl ?_
          intro w10_ S1
          simp only [List.set_cons_zero, List.set_cons_succ] at S1
          replace S := Aside0.mk S1
          clear S1
          refine hK.out _ _ ?_
          clear hK K
          refine pureS 14 10 (bA 15 32767) HT_ ?_
          refine done_ (done_of HT_.out (by kernel_rfl)) ?_
          clear hHeld
          go_wp2_with (first
            | ((with_reducible refine gate_ (.store 26 (.tmp 6) (.tmp 43)) rfl ?_); go_loud (refine put_st 1 rfl 26 (.tmp 6) (.tmp 43) rfl #[.int .u8 0, .int .i64 0, .int .i64 0, .int .i64 0, .int .i64 0, .int .i64 0, .slice none 0 0] (j := 0) (u := .agg #[.int .u8 0, .int .i64 0, .int .i64 0, .int .i64 0, .int .i64 0, .int .i64 0, .slice none 0 0]) (seg := [.int .u8 0, .int .i64 0, .int .i64 0, .int .i64 0, .int .i64 0, .int .i64 0, .slice none 0 0]) S.out ?sA ?sX rfl ?sT ?s1 ?sJ rfl rfl rfl ?_; (case sA => rfl); (case sX => rfl); (case sT => rfl); (case s1 => simp [Value.oneCell']); (case sJ => first | decide | simp); intro w11_ S1; simp only [List.set_cons_zero, List.set_cons_succ] at S1; replace S := Aside0.mk S1; clear S1))
            | fail)
          refine bodyPost_ret (results_ct rfl _ _ b6 26 #[.int .u8 0, .int .i64 0, .int .i64 0, .int .i64 0, .int .i64 0, .int .i64 0, .slice none 0 0] (0, 0) _ rfl (S.out.blk _ (.tail _ (.head _))) Try.underlying26 rfl (by kernel_rfl)) rfl ?_
          exact ⟨rfl, S.out.below⟩
        | some z =>
          simp only [hp] at IHk ⊢
          have hcut := HCUT.out
          go_enter Try.func102, Try.ntmps102
          go_wp2_with (first
            | ((with_reducible refine gate_dst (N := 3) rfl ?_); refine box_st (N := 3) rfl rfl #[.int .u8 ck, .int .i64 cx, .int .i64 cy, .int .i64 cw, .int .i64 ch, .int .i64 cid, .slice (some adk) l.length cc] 26 S.out ?hr ?_; (case hr => first | (go_simp; done) | (go_simp; rfl)); intro b3 w1_ S1; replace S := Aside0.mk S1; clear S1)
            | ((with_reducible refine gate_dst (N := 4) rfl ?_); refine box_st (N := 4) rfl rfl #[.int .u8 kk, .int .i64 kx, .int .i64 ky, .int .i64 kw, .int .i64 kh, .int .i64 kid, .slice Ak m.length ck'] 26 S.out ?hr ?_; (case hr => first | (go_simp; done) | (go_simp; rfl)); intro b4 w2_ S1; replace S := Aside0.mk S1; clear S1)
            | ((with_reducible refine gate_dst (N := 6) rfl ?_); refine box_st (N := 6) rfl rfl #[.int .u8 0, .int .i64 0, .int .i64 0, .int .i64 0, .int .i64 0, .int .i64 0, .slice none 0 0] 26 S.out ?hr ?_; (case hr => first | (go_simp; done) | (go_simp; rfl)); intro b6 w3_ S1; replace S := Aside0.mk S1; clear S1; have y7_ := (S.out.cell _ (.tail _ (.tail _ (.tail _ (.tail _ (.tail _ (.tail _ (.tail _ (.head _))))))))).1; have cb3_6 := (S.out.at (.tail _ (.tail _ (.head _))) 6).trans rfl)
            | fail)
          clear y7_ cb3_6
          refine start_ (n := 15) (S := fun w' => St w P _ _ _ _ w') (ds := [13]) (bA 15 0) (by kernel_rfl) rfl rfl (S.out.call (below_drew (Below.refl _ _))) (fun hHeld => ?_); refine with_tabW t102_6.tab6 t102_6.bits6 (fun HT_ HW_ => ?_)
          replace S := Aside0.mk (S.out.call (below_drew (Below.refl _ _)))
          generalize w3_.drew = wd4 at S hHeld ⊢
          refine pureS 0 30 (bA 15 1) HT_ ?_
          refine takeS 1 31 (bA 15 3) HT_ HW_ hHeld ?_ (hv := by intro w' hs_; have cb3_6 := (hs_.at (.tail _ (.tail _ (.head _))) 6).trans rfl; go_simp; with_reducible rfl)
          refine pureS 2 32 (bA 15 7) HT_ ?_
          refine pureS 3 33 (bA 15 15) HT_ ?_
          refine takeS 4 34 (bA 15 31) HT_ HW_ hHeld ?_ (hv := by intro w' hs_; have y0_ := (hs_.cell _ (.head _)).1; have y1_ := (hs_.cell _ (.tail _ (.head _))).1; have y2_ := (hs_.cell _ (.tail _ (.tail _ (.head _)))).1; have y3_ := (hs_.cell _ (.tail _ (.tail _ (.tail _ (.head _))))).1; have y4_ := (hs_.cell _ (.tail _ (.tail _ (.tail _ (.tail _ (.head _)))))).1; have y5_ := (hs_.cell _ (.tail _ (.tail _ (.tail _ (.tail _ (.tail _ (.head _))))))).1; have y6_ := (hs_.cell _ (.tail _ (.tail _ (.tail _ (.tail _ (.tail _ (.tail _ (.head _)))))))).1; go_simp; with_reducible rfl)
          refine takeS 5 35 (bA 15 63) HT_ HW_ hHeld ?_ (hv := by intro w' hs_; have cb4_0 := (hs_.at (.tail _ (.head _)) 0).trans rfl; have cb4_1 := (hs_.at (.tail _ (.head _)) 1).trans rfl; have cb4_2 := (hs_.at (.tail _ (.head _)) 2).trans rfl; have cb4_3 := (hs_.at (.tail _ (.head _)) 3).trans rfl; have cb4_4 := (hs_.at (.tail _ (.head _)) 4).trans rfl; have cb4_5 := (hs_.at (.tail _ (.head _)) 5).trans rfl; have cb4_6 := (hs_.at (.tail _ (.head _)) 6).trans rfl; go_simp; with_reducible rfl)
          refine pureS 6 36 (bA 15 127) HT_ ?_
          refine pureS 7 37 (bA 15 255) HT_ ?_
          refine join_ (σ := Option Addr × Nat × Nat) 2 (bA 15 8191) (fun s_ => [(38, .tuple #[.agg #[.int .u8 z.f0, .int .i64 z.f1.f0, .int .i64 z.f1.f1, .int .i64 z.f1.f2, .int .i64 z.f1.f3, .int .i64 z.f2, .slice s_.1 z.f3.length s_.2.1], .bool true]), (29, .tuple #[.agg #[.int .u8 z.f0, .int .i64 z.f1.f0, .int .i64 z.f1.f1, .int .i64 z.f1.f2, .int .i64 z.f1.f3, .int .i64 z.f2, .slice s_.1 z.f3.length s_.2.1], .bool true]), (39, .agg #[.int .u8 z.f0, .int .i64 z.f1.f0, .int .i64 z.f1.f1, .int .i64 z.f1.f2, .int .i64 z.f1.f3, .int .i64 z.f2, .slice s_.1 z.f3.length s_.2.1]), (40, .bool true), (9, .pointer (some ⟨s_.2.2, 0, none⟩))]) (fun s_ w' => St w P [(s_.2.2, .cells #[.int .u8 0, .int .i64 0, .int .i64 0, .int .i64 0, .int .i64 0, .int .i64 0, .slice none 0 0] 26 (0, 0)), (b6, .cells #[.int .u8 0, .int .i64 0, .int .i64 0, .int .i64 0, .int .i64 0, .int .i64 0, .slice none 0 0] 26 (0, 0)), (b4, .cells #[.int .u8 kk, .int .i64 kx, .int .i64 ky, .int .i64 kw, .int .i64 kh, .int .i64 kid, .slice Ak m.length ck'] 26 (0, 0)), (b3, .cells #[.int .u8 ck, .int .i64 cx, .int .i64 cy, .int .i64 cw, .int .i64 ch, .int .i64 cid, .slice (some adk) l.length cc] 26 (0, 0))] [] [(.slice s_.1 z.f3.length s_.2.1, z.f3), (.slice ua k.f3.length uc, k.f3), (.slice (some adk) l.length cc, l), (.slice Ak m.length ck', m)] [((adk.add (i.toNat * 7)), .int .u8 k.f0), (⟨(adk.add (i.toNat * 7)).block, (adk.add (i.toNat * 7)).off + 1, none⟩, .int .i64 k.f1.f0), (⟨(adk.add (i.toNat * 7)).block, (adk.add (i.toNat * 7)).off + 2, none⟩, .int .i64 k.f1.f1), (⟨(adk.add (i.toNat * 7)).block, (adk.add (i.toNat * 7)).off + 3, none⟩, .int .i64 k.f1.f2), (⟨(adk.add (i.toNat * 7)).block, (adk.add (i.toNat * 7)).off + 4, none⟩, .int .i64 k.f1.f3), (⟨(adk.add (i.toNat * 7)).block, (adk.add (i.toNat * 7)).off + 5, none⟩, .int .i64 k.f2), (⟨(adk.add (i.toNat * 7)).block, (adk.add (i.toNat * 7)).off + 6, none⟩, .slice ua k.f3.length uc), (adi, .int .i64 i)] w') ?_ ?_
          rotate_left
          · intro hCont
            refine two_ (i := 8) (j := 12) (Ni := some 38) (Nj := some 9) (bA 15 511) (bA 15 4351) rfl rfl rfl rfl (two_of HT_.out (by kernel_rfl)) (by decide) (by decide) (fun K hK => ?_) (fun K hK => ?_)
            · skip
              refine goes_ Try.func102 (by kernel_rfl) rfl #[.agg #[.int .u8 k.f0, .int .i64 k.f1.f0, .int .i64 k.f1.f1, .int .i64 k.f1.f2, .int .i64 k.f1.f3, .int .i64 k.f2, .slice ua k.f3.length uc], .agg #[.int .u8 kk, .int .i64 kx, .int .i64 ky, .int .i64 kw, .int .i64 kh, .int .i64 kid, .slice Ak m.length ck'], .slice A2 is.length c2] (by rfl) rfl rfl (by (try simp only [List.map_toArray, List.map_cons, List.map_nil]); first | done | rfl) ?_
              refine (IHk _ _ (V_any (S.out.tree _ (.head _))) (V_any (S.out.tree _ (.tail _ (.tail _ (.head _))))) (Kd.C_below HI2.out S.out.below)).mono ?_
              rintro e w5_ ⟨Ar38, cr38, rfl, h1, hb⟩
              refine ⟨_, rfl, ?_⟩
              replace S := Aside0.mk (S.out.res (Kd.N_V (base' := 0) h1) hb)
              clear h1 hb
              refine hK.out _ _ S.out.dropT (fun hHeld => ?_)
              clear hK K
              refine norm_ (a' := ?_) ?_ ?_
              rotate_left
              · show Act.put _ (some 38) _ = _
                simp only [Act.put, List.setIfInBounds_toArray, List.set_cons_zero, List.set_cons_succ, i64_w, i32_w]
                rfl
              refine pureS 9 29 (bA 15 1023) HT_ ?_
              refine pureS 10 39 (bA 15 2047) HT_ ?_
              refine pureS 11 40 (bA 15 4095) HT_ ?_
              refine one_ (i := 12) (N := some 9) (bA 15 8191) rfl rfl (one_of HT_.out (by kernel_rfl)) (by decide) (fun K hK => ?_)
              refine box_step ?hg (N := 9) ?hd (cs := #[.int .u8 0, .int .i64 0, .int .i64 0, .int .i64 0, .int .i64 0, .int .i64 0, .slice none 0 0]) (t := 26) ?hr ?_; (case hd => rfl); (case hg => rfl); (case hr => first | (go_simp; done) | (go_simp; rfl))
              intro b9 hg w6_ hbox hb
              replace S := Aside0.mk (S.out.box hg hbox hb)
              clear hg hbox hb
              refine hK.out _ _ S.out.dropB.dropT (fun hHeld => ?_)
              clear hK K
              refine norm_ (a' := ?_) ?_ ?_
              rotate_left
              · show Act.put _ (some 9) _ = _
                simp only [Act.put, List.setIfInBounds_toArray, List.set_cons_zero, List.set_cons_succ, i64_w, i32_w]
                rfl
              exact norm_ (by simp only [putAll, Act.put, List.setIfInBounds_toArray, List.set_cons_zero, List.set_cons_succ] <;> rfl) (hCont (Ar38, cr38, b9) _ S.out)
            · skip
              refine box_step ?hg (N := 9) ?hd (cs := #[.int .u8 0, .int .i64 0, .int .i64 0, .int .i64 0, .int .i64 0, .int .i64 0, .slice none 0 0]) (t := 26) ?hr ?_; (case hd => rfl); (case hg => rfl); (case hr => first | (go_simp; done) | (go_simp; rfl))
              intro b9 hg w7_ hbox hb
              replace S := Aside0.mk (S.out.box hg hbox hb)
              clear hg hbox hb
              refine hK.out _ _ S.out.dropB (fun hHeld => ?_)
              clear hK K
              refine norm_ (a' := ?_) ?_ ?_
              rotate_left
              · show Act.put _ (some 9) _ = _
                simp only [Act.put, List.setIfInBounds_toArray, List.set_cons_zero, List.set_cons_succ, i64_w, i32_w]
                rfl
              refine one_ (i := 8) (N := some 38) (bA 15 4607) rfl rfl (one_of HT_.out (by kernel_rfl)) (by decide) (fun K hK => ?_)
              refine goes_ Try.func102 (by kernel_rfl) rfl #[.agg #[.int .u8 k.f0, .int .i64 k.f1.f0, .int .i64 k.f1.f1, .int .i64 k.f1.f2, .int .i64 k.f1.f3, .int .i64 k.f2, .slice ua k.f3.length uc], .agg #[.int .u8 kk, .int .i64 kx, .int .i64 ky, .int .i64 kw, .int .i64 kh, .int .i64 kid, .slice Ak m.length ck'], .slice A2 is.length c2] (by rfl) rfl rfl (by (try simp only [List.map_toArray, List.map_cons, List.map_nil]); first | done | rfl) ?_
              refine (IHk _ _ (V_any (S.out.tree _ (.head _))) (V_any (S.out.tree _ (.tail _ (.tail _ (.head _))))) (Kd.C_below HI2.out S.out.below)).mono ?_
              rintro e w8_ ⟨Ar38, cr38, rfl, h1, hb⟩
              refine ⟨_, rfl, ?_⟩
              replace S := Aside0.mk (S.out.res (Kd.N_V (base' := 0) h1) hb)
              clear h1 hb
              refine hK.out _ _ S.out.dropB.dropT (fun hHeld => ?_)
              clear hK K
              refine norm_ (a' := ?_) ?_ ?_
              rotate_left
              · show Act.put _ (some 38) _ = _
                simp only [Act.put, List.setIfInBounds_toArray, List.set_cons_zero, List.set_cons_succ, i64_w, i32_w]
                rfl
              refine pureS 9 29 (bA 15 5119) HT_ ?_
              refine pureS 10 39 (bA 15 6143) HT_ ?_
              refine pureS 11 40 (bA 15 8191) HT_ ?_
              exact norm_ (by simp only [putAll, Act.put, List.setIfInBounds_toArray, List.set_cons_zero, List.set_cons_succ] <;> rfl) (hCont (Ar38, cr38, b9) _ S.out)
          rintro ⟨Ar38, cr38, b9⟩ wj9 S1
          simp only [putAll, Act.put, List.setIfInBounds_toArray, List.set_cons_zero, List.set_cons_succ]
          replace S := Aside0.mk S1
          clear S1 hHeld
          have hHeld := S.out.dropB.dropT
          refine last_ (i := 13) (N := none) (bA 15 16383) rfl rfl (one_of HT_.out (by kernel_rfl)) (by decide) (fun K hK => ?_)
          refine put_eff 0 rfl 26 (.tmp 9) (.tmp 39) rfl #[.int .u8 z.f0, .int .i64 z.f1.f0, .int .i64 z.f1.f1, .int .i64 z.f1.f2, .int .i64 z.f1.f3, .int .i64 z.f2, .slice Ar38 z.f3.length cr38] (j := 0) (u := .agg #[.int .u8 z.f0, .int .i64 z.f1.f0, .int .i64 z.f1.f1, .int .i64 z.f1.f2, .int .i64 z.f1.f3, .int .i64 z.f2, .slice Ar38 z.f3.length cr38]) (seg := [.int .u8 z.f0, .int .i64 z.f1.f0, .int .i64 z.f1.f1, .int .i64 z.f1.f2, .int .i64 z.f1.f3, .int .i64 z.f2, .slice Ar38 z.f3.length cr38]) S.out (by rfl) rfl rfl rfl rfl (by kernel_rfl) (by simp [Value.oneCell']) (by first | decide | simp) rfl ?_
          intro w10_ S1
          simp only [List.set_cons_zero, List.set_cons_succ] at S1
          replace S := Aside0.mk S1
          clear S1
          refine hK.out _ _ ?_
          clear hK K
          refine pureS 14 10 (bA 15 32767) HT_ ?_
          refine done_ (done_of HT_.out (by kernel_rfl)) ?_
          clear hHeld
          have cb3_0 := (S.out.at (.tail _ (.tail _ (.tail _ (.head _)))) 0).trans rfl
          have cb3_1 := (S.out.at (.tail _ (.tail _ (.tail _ (.head _)))) 1).trans rfl
          have cb3_2 := (S.out.at (.tail _ (.tail _ (.tail _ (.head _)))) 2).trans rfl
          have cb3_3 := (S.out.at (.tail _ (.tail _ (.tail _ (.head _)))) 3).trans rfl
          have cb3_4 := (S.out.at (.tail _ (.tail _ (.tail _ (.head _)))) 4).trans rfl
          have cb3_5 := (S.out.at (.tail _ (.tail _ (.tail _ (.head _)))) 5).trans rfl
          have cb3_6 := (S.out.at (.tail _ (.tail _ (.tail _ (.head _)))) 6).trans rfl
          go_wp2_with (first
            | ((with_reducible refine gate_dst (N := 45) rfl ?_); refine goesL_ (some 45) rfl rfl Try.func151 (by kernel_rfl) rfl #[.agg #[.int .u8 ck, .int .i64 cx, .int .i64 cy, .int .i64 cw, .int .i64 ch, .int .i64 cid, .slice (some adk) l.length cc]] rfl (by (try simp only [List.map_toArray, List.map_cons, List.map_nil]); first | done | rfl) ?_; refine (clone151 1000000 ⟨ck, ⟨cx, cy, cw, ch⟩, cid, l⟩ HZ.out (Nat.le_refl _) _ (some adk) cc _ (V_any (S.out.tree _ (.tail _ (.tail _ (.head _)))))).mono ?_; rintro e w11_ ⟨v, rfl, h1, hb⟩; refine ⟨_, rfl, ?_⟩; obtain ⟨g45, cap45, ev, _⟩ := Kd.N_form h1 (by have := H1Z.out; have := H0Z.out; simp only []; omega); subst ev; replace S := Aside0.mk (S.out.resN h1 hb); clear h1 hb; clear cb3_0 cb3_1 cb3_2 cb3_3 cb3_4 cb3_5 cb3_6)
            | ((with_reducible refine gate_ (.store 26 (.tmp 3) (.tmp 45)) rfl ?_); go_loud (refine put_st 3 rfl 26 (.tmp 3) (.tmp 45) rfl #[.int .u8 ck, .int .i64 cx, .int .i64 cy, .int .i64 cw, .int .i64 ch, .int .i64 cid, .slice (some ⟨g45, 0, none⟩) l.length cap45] (j := 0) (u := .agg #[.int .u8 ck, .int .i64 cx, .int .i64 cy, .int .i64 cw, .int .i64 ch, .int .i64 cid, .slice (some ⟨g45, 0, none⟩) l.length cap45]) (seg := [.int .u8 ck, .int .i64 cx, .int .i64 cy, .int .i64 cw, .int .i64 ch, .int .i64 cid, .slice (some ⟨g45, 0, none⟩) l.length cap45]) S.out ?sA ?sX rfl ?sT ?s1 ?sJ rfl rfl rfl ?_; (case sA => rfl); (case sX => rfl); (case sT => rfl); (case s1 => simp [Value.oneCell']); (case sJ => first | decide | simp); intro w12_ S1; simp only [List.set_cons_zero, List.set_cons_succ] at S1; replace S := Aside0.mk S1; clear S1); have cb3_6 := (S.out.at (.tail _ (.tail _ (.tail _ (.head _)))) 6).trans rfl; have cb9_0 := (S.out.at (.head _) 0).trans rfl; have cb9_1 := (S.out.at (.head _) 1).trans rfl; have cb9_2 := (S.out.at (.head _) 2).trans rfl; have cb9_3 := (S.out.at (.head _) 3).trans rfl; have cb9_4 := (S.out.at (.head _) 4).trans rfl; have cb9_5 := (S.out.at (.head _) 5).trans rfl; have cb9_6 := (S.out.at (.head _) 6).trans rfl)
            | ((with_reducible refine gate_ (.store 26 (.tmp 50) (.tmp 49)) rfl ?_); go_loud (refine seg_st i z (.tmp 50) (.tmp 49) rfl S.out H0Z.out H1Z.out ?sA ?sX (by kernel_rfl) (.head _) rfl rfl ?_; (case sA => first | rfl | (go_simp; rfl)); (case sX => rfl); intro w13_ S1; replace S := Aside0.mk S1; clear S1); clear cb3_6 cb9_0 cb9_1 cb9_2 cb9_3 cb9_4 cb9_5 cb9_6; have cb3_0 := (S.out.at (.tail _ (.tail _ (.tail _ (.head _)))) 0).trans rfl; have cb3_1 := (S.out.at (.tail _ (.tail _ (.tail _ (.head _)))) 1).trans rfl; have cb3_2 := (S.out.at (.tail _ (.tail _ (.tail _ (.head _)))) 2).trans rfl; have cb3_3 := (S.out.at (.tail _ (.tail _ (.tail _ (.head _)))) 3).trans rfl; have cb3_4 := (S.out.at (.tail _ (.tail _ (.tail _ (.head _)))) 4).trans rfl; have cb3_5 := (S.out.at (.tail _ (.tail _ (.tail _ (.head _)))) 5).trans rfl; have cb3_6 := (S.out.at (.tail _ (.tail _ (.tail _ (.head _)))) 6).trans rfl)
            | ((with_reducible refine gate_ (.store 26 (.tmp 6) (.tmp 51)) rfl ?_); go_loud (refine put_st 1 rfl 26 (.tmp 6) (.tmp 51) rfl #[.int .u8 ck, .int .i64 cx, .int .i64 cy, .int .i64 cw, .int .i64 ch, .int .i64 cid, .slice (some ⟨g45, 0, none⟩) l.length cap45] (j := 0) (u := .agg #[.int .u8 ck, .int .i64 cx, .int .i64 cy, .int .i64 cw, .int .i64 ch, .int .i64 cid, .slice (some ⟨g45, 0, none⟩) l.length cap45]) (seg := [.int .u8 ck, .int .i64 cx, .int .i64 cy, .int .i64 cw, .int .i64 ch, .int .i64 cid, .slice (some ⟨g45, 0, none⟩) l.length cap45]) S.out ?sA ?sX rfl ?sT ?s1 ?sJ rfl rfl rfl ?_; (case sA => rfl); (case sX => rfl); (case sT => rfl); (case s1 => simp [Value.oneCell']); (case sJ => first | decide | simp); intro w14_ S1; simp only [List.set_cons_zero, List.set_cons_succ] at S1; replace S := Aside0.mk S1; clear S1); clear cb3_0 cb3_1 cb3_2 cb3_3 cb3_4 cb3_5 cb3_6)
            | fail)
          refine bodyPost_ret (results_ct rfl _ _ b6 26 #[.int .u8 ck, .int .i64 cx, .int .i64 cy, .int .i64 cw, .int .i64 ch, .int .i64 cid, .slice (some ⟨g45, 0, none⟩) l.length cap45] (0, 0) _ rfl (S.out.blk _ (.tail _ (.head _))) Try.underlying26 rfl (by kernel_rfl)) rfl ?_
          simp only [PutP, List.length_set]
          exact ⟨_, _, rfl, S.out.ownN, S.out.below⟩
end Go.Proofs.Ytfdmfgaiblfbhaa.P
