/- FlatNames: part 5 of 6 of this claim's texts, one behind the other. The words of the kit's printer stand in it cut down, by a program, to those that are used. -/
import Derived.Test.YtfdmfgaiblfbhaaMFlatNamesc
import Derived.Test.YtfdmfgaiblfbhaaMFlatNamesd
namespace Go.Proofs.Ytfdmfgaiblfbhaa.P
open Go.RowKit Go.Proofs.YtfdmfgaiblfbhaaW.PrintWords Go.Proofs.YtfdmfgaiblfbhaaW.PrintLast Go.Proofs.YtfdmfgaiblfbhaaW.PrintMore
attribute [local go_sem] max2_int min2_int max_two min_two max_three min_three max_four min_four   -- for this text's walks alone
set_option linter.unusedVariables false
set_option linter.unusedSimpArgs false

/-! ### flat_Name: function 62 -/
def flat_Name.f (k : Nat) (a0_0 : Int) (a0_1 : Int) (a0_2 : Int) (a0_3 : Int) (a0_4 : Int) (a0_5 : Int) (l0_6 : List (S26)) (l1 : List Int) : Option (Int × Int × Int × Int × Int × Int × (List (S26)) × Bool) := (cell_Leaves.f k (([(⟨a0_0, (⟨a0_1, a0_2, a0_3, a0_4⟩ : S23), a0_5, l0_6⟩ : S26)] : List (S26)))).bind fun t573 => (if (t573.length : Int) = (l1.length : Int) then ((flat_name.f k a0_0 a0_1 a0_2 a0_3 a0_4 a0_5 l0_6 l1).bind fun bt576 => (some (bt576.1, bt576.2.1, bt576.2.2.1, bt576.2.2.2.1, bt576.2.2.2.2.1, bt576.2.2.2.2.2.1, bt576.2.2.2.2.2.2.1, true))) else (some (0, 0, 0, 0, 0, 0, ([] : List (S26)), false)))
theorem flat_Name.mono : ∀ a0 a1 a2 a3 a4 a5 a6 a7 k, LeO (flat_Name.f k a0 a1 a2 a3 a4 a5 a6 a7) (flat_Name.f (k + 1) a0 a1 a2 a3 a4 a5 a6 a7) := by
  intro a0 a1 a2 a3 a4 a5 a6 a7 k
  unfold flat_Name.f
  repeat' first
      | (with_reducible exact cell_Leaves.mono _ _)
      | (with_reducible exact flat_name.mono _ _ _ _ _ _ _ _ _)
      | (with_reducible exact LeO.refl _)
      | (with_reducible exact LeO.none _)
      | (with_reducible refine LeO.ite ?_ ?_)
      | (with_reducible refine LeO.bind ?_ (fun _ => ?_))
      | exact cell_Leaves.mono _ _
      | exact flat_name.mono _ _ _ _ _ _ _ _ _
      | exact LeO.none _
      | refine LeO.ite ?_ ?_
      | refine LeO.bind ?_ (fun _ => ?_)
set_option maxHeartbeats 8000000 in
set_option maxRecDepth 100000 in
theorem flat_Name.calls (k : Nat) (a0_0 : Int) (a0_1 : Int) (a0_2 : Int) (a0_3 : Int) (a0_4 : Int) (a0_5 : Int) (P0_6_ : Nat → Prop) (A0_6 : Option Addr) (c0_6 : Nat) (l0_6 : List (S26)) (P1_ : Nat → Prop) (A1 : Option Addr) (c1 : Nat) (l1 : List Int) (r1 : Int) (r2 : Int) (r3 : Int) (r4 : Int) (r5 : Int) (r6 : Int) (r7 : List (S26)) (r8 : Bool) (w : World) (hs0_6 : Kd.V k26 26 w w.heap.size (fun k_ => P0_6_ k_) (.slice A0_6 l0_6.length c0_6) l0_6) (hs1 : Kd.V (Kd.int .i64) 3 w w.heap.size (fun k_ => P1_ k_) (.slice A1 l1.length c1) l1) (h : flat_Name.f k a0_0 a0_1 a0_2 a0_3 a0_4 a0_5 l0_6 l1 = some (r1, r2, r3, r4, r5, r6, r7, r8)) :
    Calls Try.prog 62 #[.agg #[.int .u8 a0_0, .int .i64 a0_1, .int .i64 a0_2, .int .i64 a0_3, .int .i64 a0_4, .int .i64 a0_5, .slice A0_6 l0_6.length c0_6], .slice A1 l1.length c1] w fun e w' => ∃ v6_ : Value, e = .returned (.tuple #[.agg #[.int .u8 r1, .int .i64 r2, .int .i64 r3, .int .i64 r4, .int .i64 r5, .int .i64 r6, v6_], .bool r8]) ∧ Kd.N k26 26 w' w.heap.size (fun k_ => ((P0_6_ k_ ∨ P1_ k_) ∨ w.heap.size ≤ k_)) v6_ r7 ∧ Below w.heap.size w w' := by
  have hu26 := Try.underlying26
  have HO0_6 := Aside0.mk (show Kd.V k26 26 w w.heap.size (fun k_ => ((P0_6_ k_ ∨ P1_ k_) ∨ w.heap.size ≤ k_)) (.slice A0_6 l0_6.length c0_6) l0_6 from Kd.V_mono hs0_6 (fun k_ hk => .inl (.inl hk)))
  have HO1 := Aside0.mk (show Kd.V (Kd.int .i64) 3 w w.heap.size (fun k_ => ((P0_6_ k_ ∨ P1_ k_) ∨ w.heap.size ≤ k_)) (.slice A1 l1.length c1) l1 from Kd.V_mono hs1 (fun k_ hk => .inl (.inr hk)))
  have HB := Aside0.mk (Below.refl w.heap.size w)
  have H : ((cell_Leaves.f k (([(⟨a0_0, (⟨a0_1, a0_2, a0_3, a0_4⟩ : S23), a0_5, l0_6⟩ : S26)] : List (S26)))).bind fun t573 => (if (t573.length : Int) = (l1.length : Int) then ((flat_name.f k a0_0 a0_1 a0_2 a0_3 a0_4 a0_5 l0_6 l1).bind fun bt576 => (some (bt576.1, bt576.2.1, bt576.2.2.1, bt576.2.2.2.1, bt576.2.2.2.2.1, bt576.2.2.2.2.2.1, bt576.2.2.2.2.2.2.1, true))) else (some (0, 0, 0, 0, 0, 0, ([] : List (S26)), false)))) = some (r1, r2, r3, r4, r5, r6, r7, r8) := h
  clear h
  obtain ⟨y570, hy570⟩ : ∃ y_ : List (S26), y_ = (([(⟨a0_0, (⟨a0_1, a0_2, a0_3, a0_4⟩ : S23), a0_5, l0_6⟩ : S26)] : List (S26))) := ⟨_, rfl⟩
  replace H : ((cell_Leaves.f k y570).bind fun t573 => (if (t573.length : Int) = (l1.length : Int) then ((flat_name.f k a0_0 a0_1 a0_2 a0_3 a0_4 a0_5 l0_6 l1).bind fun bt576 => (some (bt576.1, bt576.2.1, bt576.2.2.1, bt576.2.2.2.1, bt576.2.2.2.2.1, bt576.2.2.2.2.2.1, bt576.2.2.2.2.2.2.1, true))) else (some (0, 0, 0, 0, 0, 0, ([] : List (S26)), false)))) = some (r1, r2, r3, r4, r5, r6, r7, r8) := by first | (rw [hy570]; with_reducible exact H) | (have H2_ := (Option.bind_some _ _).symm.trans H; rw [hy570]; with_reducible exact H2_) | (have H2_ := (Option.bind_some _ _).symm.trans H; with_reducible exact H2_) | with_reducible exact H | (rw [hy570]; exact H) | exact H
  have Ny570 := Aside0.mk hy570
  clear hy570
  replace H := Option.bind_eq_some_iff.mp H
  obtain ⟨t573, A30, H⟩ := H
  replace H : (if (t573.length : Int) = (l1.length : Int) then ((flat_name.f k a0_0 a0_1 a0_2 a0_3 a0_4 a0_5 l0_6 l1).bind fun bt576 => (some (bt576.1, bt576.2.1, bt576.2.2.1, bt576.2.2.2.1, bt576.2.2.2.2.1, bt576.2.2.2.2.2.1, bt576.2.2.2.2.2.2.1, true))) else (some (0, 0, 0, 0, 0, 0, ([] : List (S26)), false))) = some (r1, r2, r3, r4, r5, r6, r7, r8) := H
  have A3 := Aside0.mk A30
  clear A30
  by_cases c4 : (t573.length : Int) = (l1.length : Int)
  · rw [if_pos c4] at H
    have c4b0 : ((t573.length : Int) == (l1.length : Int)) = true := beq_iff_eq.mpr c4
    have c4b1 : ((t573.length : Int) != (l1.length : Int)) = false := bne_eq_false_iff_eq.mpr c4
    have c4b2 : (t573.length == l1.length) = true := by first | simpa using c4 | (simp at c4 ⊢; omega)
    clear c4
    replace H := Option.bind_eq_some_iff.mp H
    obtain ⟨⟨t576, t577, t578, t579, t580, t581, t582, t585⟩, A50, H⟩ := H
    replace H : (some (t576, t577, t578, t579, t580, t581, t582, true)) = some (r1, r2, r3, r4, r5, r6, r7, r8) := H
    have A5 := Aside0.mk A50
    clear A50
    simp only [Option.some.injEq, Prod.mk.injEq] at H
    obtain ⟨rfl, rfl, rfl, rfl, rfl, rfl, rfl, rfl⟩ := H
    go_enter Try.func62, Try.ntmps62
    go_wp2_with (first | ((with_reducible refine gate_dst (N := 2) rfl ?_); refine box_event ?hg (N := 2) ?hd (cs := #[.int .u8 a0_0, .int .i64 a0_1, .int .i64 a0_2, .int .i64 a0_3, .int .i64 a0_4, .int .i64 a0_5, .slice A0_6 l0_6.length c0_6]) (t := 26) ?hr ?_; (case hd => rfl); (case hg => rfl); (case hr => first | (go_simp; done) | (go_simp; rfl)); intro gb568 hg w6 hbox hb; have n0_ := Aside0.mk (Kd.V_below (Kd.V_elderB (by (with_reducible repeat (first | apply Kd.V_alloc | apply Kd.V_drewN | apply Kd.V_drew)); exact HO0_6.out) gb568 (Nat.le_of_eq hg.symm)) hb); have n1_ := Aside0.mk (Kd.V_below (Kd.V_elderB (by (with_reducible repeat (first | apply Kd.V_alloc | apply Kd.V_drewN | apply Kd.V_drew)); exact HO1.out) gb568 (Nat.le_of_eq hg.symm)) hb); have n2_ := Aside0.mk (below_step (by repeat (first | (with_reducible first | exact HB.out | apply below_alloc | apply pw_below_drewN | apply below_drew1) | exact HB.out)) hb); have n3_ := Aside0.mk (hbox); have n4_ := Aside0.mk ((by rw [hg]; exact (below_size (by repeat (first | (with_reducible first | exact HB.out | apply below_alloc | apply pw_below_drewN | apply below_drew1) | exact HB.out))) : w.heap.size ≤ gb568)); have n5_ := Aside0.mk ((by rw [hg]; exact (below_size (by repeat (first | (with_reducible first | exact HB.out | apply below_alloc | apply pw_below_drewN | apply below_drew1) | exact HB.out))) : w.heap.size ≤ gb568)); clear HO0_6; clear HO1; clear HB; have HO0_6 := n0_; have HO1 := n1_; have HB := n2_; have BK568 := n3_; have GW568 := n4_; have GE568 := n5_; clear n0_ n1_ n2_ n3_ n4_ n5_; clear hb hbox hg) | ((with_reducible refine gate_dst (N := 4) rfl ?_); refine box_event ?hg (N := 4) ?hd (cs := #[.int .u8 0, .int .i64 0, .int .i64 0, .int .i64 0, .int .i64 0, .int .i64 0, .slice none 0 0]) (t := 26) ?hr ?_; (case hd => rfl); (case hg => rfl); (case hr => first | (go_simp; done) | (go_simp; rfl)); intro gb569 hg w7 hbox hb; have n0_ := Aside0.mk (Kd.V_below (Kd.V_elderB (by (with_reducible repeat (first | apply Kd.V_alloc | apply Kd.V_drewN | apply Kd.V_drew)); exact HO0_6.out) gb569 (Nat.le_of_eq hg.symm)) hb); have n1_ := Aside0.mk (Kd.V_below (Kd.V_elderB (by (with_reducible repeat (first | apply Kd.V_alloc | apply Kd.V_drewN | apply Kd.V_drew)); exact HO1.out) gb569 (Nat.le_of_eq hg.symm)) hb); have n2_ := Aside0.mk (blk_below (g := gb568) (o := .cells #[.int .u8 a0_0, .int .i64 a0_1, .int .i64 a0_2, .int .i64 a0_3, .int .i64 a0_4, .int .i64 a0_5, .slice A0_6 l0_6.length c0_6] 26 (0, 0)) (by (with_reducible repeat (first | refine blk_drewN ?_ _ | refine blk_drew ?_ | refine blk_alloc ?_ _)); exact BK568.out) hb); have n3_ := Aside0.mk (below_step (by repeat (first | (with_reducible first | exact HB.out | apply below_alloc | apply pw_below_drewN | apply below_drew1 | refine below_set ?_ GE568.out) | exact HB.out)) hb); have n4_ := Aside0.mk (hbox); have n5_ := Aside0.mk ((by rw [hg]; exact (below_size (by repeat (first | (with_reducible first | exact HB.out | apply below_alloc | apply pw_below_drewN | apply below_drew1 | refine below_set ?_ GE568.out) | exact HB.out))) : w.heap.size ≤ gb569)); have n6_ := Aside0.mk ((by rw [hg]; exact (below_size (by repeat (first | (with_reducible first | exact HB.out | apply below_alloc | apply pw_below_drewN | apply below_drew1 | refine below_set ?_ GE568.out) | exact HB.out))) : w.heap.size ≤ gb569)); have n7_ := Aside0.mk ((by rw [hg]; exact Nat.ne_of_lt (blk_lt (g := gb568) (o := .cells #[.int .u8 a0_0, .int .i64 a0_1, .int .i64 a0_2, .int .i64 a0_3, .int .i64 a0_4, .int .i64 a0_5, .slice A0_6 l0_6.length c0_6] 26 (0, 0)) (by (with_reducible repeat (first | refine blk_drewN ?_ _ | refine blk_drew ?_ | refine blk_alloc ?_ _)); exact BK568.out)) : gb568 ≠ gb569)); have n8_ := Aside0.mk ((by rw [hg]; exact Nat.ne_of_gt (blk_lt (g := gb568) (o := .cells #[.int .u8 a0_0, .int .i64 a0_1, .int .i64 a0_2, .int .i64 a0_3, .int .i64 a0_4, .int .i64 a0_5, .slice A0_6 l0_6.length c0_6] 26 (0, 0)) (by (with_reducible repeat (first | refine blk_drewN ?_ _ | refine blk_drew ?_ | refine blk_alloc ?_ _)); exact BK568.out)) : gb569 ≠ gb568)); clear HO0_6; clear HO1; clear BK568; clear HB; have HO0_6 := n0_; have HO1 := n1_; have BK568 := n2_; have HB := n3_; have BK569 := n4_; have GW569 := n5_; have GE569 := n6_; have NB568_569 := n7_; have NB569_568 := n8_; clear n0_ n1_ n2_ n3_ n4_ n5_ n6_ n7_ n8_; clear hb hbox hg; have hnb8 := NB568_569.out; have hnc8 := NB569_568.out; have hcz9_0 : w7.cell? ⟨gb568, 0, none⟩ = some (.int .u8 a0_0) := (blk_cell BK568.out 0).trans rfl; have hcz9_1 : w7.cell? ⟨gb568, 1, none⟩ = some (.int .i64 a0_1) := (blk_cell BK568.out 1).trans rfl; have hcz9_2 : w7.cell? ⟨gb568, 2, none⟩ = some (.int .i64 a0_2) := (blk_cell BK568.out 2).trans rfl; have hcz9_3 : w7.cell? ⟨gb568, 3, none⟩ = some (.int .i64 a0_3) := (blk_cell BK568.out 3).trans rfl; have hcz9_4 : w7.cell? ⟨gb568, 4, none⟩ = some (.int .i64 a0_4) := (blk_cell BK568.out 4).trans rfl; have hcz9_5 : w7.cell? ⟨gb568, 5, none⟩ = some (.int .i64 a0_5) := (blk_cell BK568.out 5).trans rfl; have hcz9_6 : w7.cell? ⟨gb568, 6, none⟩ = some (.slice A0_6 l0_6.length c0_6) := (blk_cell BK568.out 6).trans rfl; have hfz9_0 := blk_frozen BK568.out 0; have hfz9_1 := blk_frozen BK568.out 1; have hfz9_2 := blk_frozen BK568.out 2; have hfz9_3 := blk_frozen BK568.out 3; have hfz9_4 := blk_frozen BK568.out 4; have hfz9_5 := blk_frozen BK568.out 5; have hfz9_6 := blk_frozen BK568.out 6) | ((with_reducible refine gate_dst (N := 9) rfl ?_); refine Kd.N_lit k26 _ 26 ?hg (N' := 9) ?hd (xs := ([(⟨a0_0, (⟨a0_1, a0_2, a0_3, a0_4⟩ : S23), a0_5, l0_6⟩ : S26)] : List (S26))) (inner := [.int .u8 a0_0, .int .i64 a0_1, .int .i64 a0_2, .int .i64 a0_3, .int .i64 a0_4, .int .i64 a0_5, .slice A0_6 l0_6.length c0_6]) (ok := (fun k_ => ((P0_6_ k_ ∨ P1_ k_) ∨ w.heap.size ≤ k_) ∧ k_ ≠ gb568 ∧ k_ ≠ gb569)) (okp := (fun k_ => ((P0_6_ k_ ∨ P1_ k_) ∨ w.heap.size ≤ k_) ∧ k_ ≠ gb568 ∧ k_ ≠ gb569)) ?hr ?hp (fun _ hk => hk) ((show ∀ k_, w7.heap.size ≤ k_ → (fun k_ => ((P0_6_ k_ ∨ P1_ k_) ∨ w.heap.size ≤ k_) ∧ k_ ≠ gb568 ∧ k_ ≠ gb569) k_ from fun k_ hk => ⟨(.inr (Nat.le_trans (below_size (by repeat (first | (with_reducible first | exact HB.out | apply below_alloc | apply pw_below_drewN | apply below_drew1 | refine below_set ?_ GE568.out | refine below_set ?_ GE569.out) | exact HB.out))) hk)), Kd.freshB (g := gb568) (o := .cells #[.int .u8 a0_0, .int .i64 a0_1, .int .i64 a0_2, .int .i64 a0_3, .int .i64 a0_4, .int .i64 a0_5, .slice A0_6 l0_6.length c0_6] 26 (0, 0)) (by (with_reducible repeat (first | refine blk_drewN ?_ _ | refine blk_drew ?_ | refine blk_alloc ?_ _)); exact BK568.out) k_ hk, Kd.freshB (g := gb569) (o := .cells #[.int .u8 0, .int .i64 0, .int .i64 0, .int .i64 0, .int .i64 0, .int .i64 0, .slice none 0 0] 26 (0, 0)) (by (with_reducible repeat (first | refine blk_drewN ?_ _ | refine blk_drew ?_ | refine blk_alloc ?_ _)); exact BK569.out) k_ hk⟩) _ (Nat.le_refl _)) (Below.refl _ _) (Nat.le_refl _) (by simp) ?_; (case hd => rfl); (case hg => rfl); (case hr => first | (go_simp; done) | (go_simp; rfl)); (case hp => exact (Reps.c7 (show Kd.FK k26 _ _ (⟨a0_0, (⟨a0_1, a0_2, a0_3, a0_4⟩ : S23), a0_5, l0_6⟩ : S26) [.int .u8 a0_0, .int .i64 a0_1, .int .i64 a0_2, .int .i64 a0_3, .int .i64 a0_4, .int .i64 a0_5, .slice A0_6 l0_6.length c0_6] from (k26_mkF _ _ (⟨a0_0, (⟨a0_1, a0_2, a0_3, a0_4⟩ : S23), a0_5, l0_6⟩ : S26) (Kd.V_reads' (Kd.V_mono (ok' := (fun k_ => ((P0_6_ k_ ∨ P1_ k_) ∨ w.heap.size ≤ k_) ∧ k_ ≠ gb568 ∧ k_ ≠ gb569)) (HO0_6.out) (fun k_ hk => ⟨hk.1.1, ⟨hk.1.2, hk.2⟩⟩))).2.1 (Kd.V_F (Kd.V_mono (ok' := (fun k_ => ((P0_6_ k_ ∨ P1_ k_) ∨ w.heap.size ≤ k_) ∧ k_ ≠ gb568 ∧ k_ ≠ gb569)) (HO0_6.out) (fun k_ hk => ⟨hk.1.1, ⟨hk.1.2, hk.2⟩⟩))))) (Reps.none _ _))); intro v571 w10 ho11 hb hg_ hnew_; clear hg_ hnew_; (first | rw [← Ny570.out] at ho11 | (simp only [Int.reduceToNat] at ho11; rw [← Ny570.out] at ho11)); have n0_ := Aside0.mk (Kd.V_elder' (by (with_reducible repeat (first | apply Kd.V_alloc | apply Kd.V_drewN | apply Kd.V_drew)); exact HO0_6.out) (Kd.N_base ho11) hb); have n1_ := Aside0.mk (Kd.V_elder' (by (with_reducible repeat (first | apply Kd.V_alloc | apply Kd.V_drewN | apply Kd.V_drew)); exact HO1.out) (Kd.N_base ho11) hb); have n2_ := Aside0.mk (Kd.N_lower ho11 (below_size (by repeat (first | (with_reducible first | exact HB.out | apply below_alloc | apply pw_below_drewN | apply below_drew1 | refine below_set ?_ GE568.out | refine below_set ?_ GE569.out) | exact HB.out)))); have n3_ := Aside0.mk (blk_below (g := gb568) (o := .cells #[.int .u8 a0_0, .int .i64 a0_1, .int .i64 a0_2, .int .i64 a0_3, .int .i64 a0_4, .int .i64 a0_5, .slice A0_6 l0_6.length c0_6] 26 (0, 0)) (by (with_reducible repeat (first | refine blk_drewN ?_ _ | refine blk_drew ?_ | refine blk_alloc ?_ _)); exact BK568.out) hb); have n4_ := Aside0.mk (blk_below (g := gb569) (o := .cells #[.int .u8 0, .int .i64 0, .int .i64 0, .int .i64 0, .int .i64 0, .int .i64 0, .slice none 0 0] 26 (0, 0)) (by (with_reducible repeat (first | refine blk_drewN ?_ _ | refine blk_drew ?_ | refine blk_alloc ?_ _)); exact BK569.out) hb); have n5_ := Aside0.mk (below_step (by repeat (first | (with_reducible first | exact HB.out | apply below_alloc | apply pw_below_drewN | apply below_drew1 | refine below_set ?_ GE568.out | refine below_set ?_ GE569.out) | exact HB.out)) hb); clear HO0_6; clear HO1; clear BK568; clear BK569; clear HB; have HO0_6 := n0_; have HO1 := n1_; have HO572 := n2_; have BK568 := n3_; have BK569 := n4_; have HB := n5_; clear n0_ n1_ n2_ n3_ n4_ n5_; clear hb ho11; obtain ⟨Ao12, co12, eo12⟩ := Kd.N_slice HO572.out; subst eo12) | ((with_reducible refine gate_callee (f := 83) rfl ?_); refine goesL_ (some 10) rfl rfl Try.func83 (by kernel_rfl) rfl #[.slice Ao12 y570.length co12] rfl (by (try simp only [List.map_toArray, List.map_cons, List.map_nil]); first | done | rfl | (simp only [List.length_drop, List.length_take]; rfl)) ?_; (with_reducible refine (cell_Leaves.calls k _ _ y570 t573 _ ?side1 ?side2 A3.out).mono ?_); (case side1 => repeat (first | exact (Kd.N_reads' HO572.out).2.2 | (with_reducible refine Kd.C_alloc ?_ _) | (with_reducible refine Kd.C_drewN ?_ _) | (with_reducible refine Kd.C_drew ?_))); (case side2 => exact (Kd.N_reads' HO572.out).2.1); rintro e w13 ⟨v574, rfl, ho0, hb⟩; refine ⟨_, rfl, ?_⟩; have n0_ := Aside0.mk (Kd.V_elder' (by (with_reducible repeat (first | apply Kd.V_alloc | apply Kd.V_drewN | apply Kd.V_drew)); exact HO0_6.out) (Kd.R_base ho0) hb); have n1_ := Aside0.mk (Kd.V_elder' (by (with_reducible repeat (first | apply Kd.V_alloc | apply Kd.V_drewN | apply Kd.V_drew)); exact HO1.out) (Kd.R_base ho0) hb); have n2_ := Aside0.mk (Kd.N_elder' (by (with_reducible repeat (first | apply Kd.N_alloc | apply Kd.N_drewN | apply Kd.N_drew)); exact HO572.out) (Kd.R_base ho0) hb); have n3_ := Aside0.mk (Kd.R_lower (Kd.R_newM (M := fun k_ => (w.heap.size ≤ k_)) ho0 (below_size (by repeat (first | (with_reducible first | exact HB.out | apply below_alloc | apply pw_below_drewN | apply below_drew1 | refine below_set ?_ GE568.out | refine below_set ?_ GE569.out) | exact HB.out))) (fun k_ h_ => h_)) (below_size (by repeat (first | (with_reducible first | exact HB.out | apply below_alloc | apply pw_below_drewN | apply below_drew1 | refine below_set ?_ GE568.out | refine below_set ?_ GE569.out) | exact HB.out)))); have n4_ := Aside0.mk (blk_below (g := gb568) (o := .cells #[.int .u8 a0_0, .int .i64 a0_1, .int .i64 a0_2, .int .i64 a0_3, .int .i64 a0_4, .int .i64 a0_5, .slice A0_6 l0_6.length c0_6] 26 (0, 0)) (by (with_reducible repeat (first | refine blk_drewN ?_ _ | refine blk_drew ?_ | refine blk_alloc ?_ _)); exact BK568.out) hb); have n5_ := Aside0.mk (blk_below (g := gb569) (o := .cells #[.int .u8 0, .int .i64 0, .int .i64 0, .int .i64 0, .int .i64 0, .int .i64 0, .slice none 0 0] 26 (0, 0)) (by (with_reducible repeat (first | refine blk_drewN ?_ _ | refine blk_drew ?_ | refine blk_alloc ?_ _)); exact BK569.out) hb); have n6_ := Aside0.mk (below_step (by repeat (first | (with_reducible first | exact HB.out | apply below_alloc | apply pw_below_drewN | apply below_drew1 | refine below_set ?_ GE568.out | refine below_set ?_ GE569.out) | exact HB.out)) hb); clear HO0_6; clear HO1; clear HO572; clear BK568; clear BK569; clear HB; have HO0_6 := n0_; have HO1 := n1_; have HO572 := n2_; have HO575 := n3_; have BK568 := n4_; have BK569 := n5_; have HB := n6_; clear n0_ n1_ n2_ n3_ n4_ n5_ n6_; (try clear hb); (try clear hb2); (try clear hk); (try clear hi); (try clear ho0); obtain ⟨Ao14, co14, eo14⟩ := Kd.R_slice HO575.out; subst eo14; have hcz15_0 : w13.cell? ⟨gb568, 0, none⟩ = some (.int .u8 a0_0) := (blk_cell BK568.out 0).trans rfl; have hcz15_1 : w13.cell? ⟨gb568, 1, none⟩ = some (.int .i64 a0_1) := (blk_cell BK568.out 1).trans rfl; have hcz15_2 : w13.cell? ⟨gb568, 2, none⟩ = some (.int .i64 a0_2) := (blk_cell BK568.out 2).trans rfl; have hcz15_3 : w13.cell? ⟨gb568, 3, none⟩ = some (.int .i64 a0_3) := (blk_cell BK568.out 3).trans rfl; have hcz15_4 : w13.cell? ⟨gb568, 4, none⟩ = some (.int .i64 a0_4) := (blk_cell BK568.out 4).trans rfl; have hcz15_5 : w13.cell? ⟨gb568, 5, none⟩ = some (.int .i64 a0_5) := (blk_cell BK568.out 5).trans rfl; have hcz15_6 : w13.cell? ⟨gb568, 6, none⟩ = some (.slice A0_6 l0_6.length c0_6) := (blk_cell BK568.out 6).trans rfl; have hfz15_0 := blk_frozen BK568.out 0; have hfz15_1 := blk_frozen BK568.out 1; have hfz15_2 := blk_frozen BK568.out 2; have hfz15_3 := blk_frozen BK568.out 3; have hfz15_4 := blk_frozen BK568.out 4; have hfz15_5 := blk_frozen BK568.out 5; have hfz15_6 := blk_frozen BK568.out 6) | ((with_reducible refine gate_callee (f := 136) rfl ?_); refine goesL_ (some 19) rfl rfl Try.func136 (by kernel_rfl) rfl #[.agg #[.int .u8 a0_0, .int .i64 a0_1, .int .i64 a0_2, .int .i64 a0_3, .int .i64 a0_4, .int .i64 a0_5, .slice A0_6 l0_6.length c0_6], .slice A1 l1.length c1] rfl (by (try simp only [List.map_toArray, List.map_cons, List.map_nil]); first | done | rfl | (simp only [List.length_drop, List.length_take]; rfl)) ?_; (with_reducible refine (flat_name.calls k a0_0 a0_1 a0_2 a0_3 a0_4 a0_5 (fun k_ => ((((((P0_6_ k_ ∨ P1_ k_) ∨ w.heap.size ≤ k_) ∧ k_ ≠ gb568) ∧ k_ ≠ gb569) ∧ some k_ ≠ (.slice Ao12 y570.length co12 : Value).ownBlock) ∧ some k_ ≠ (.slice Ao14 t573.length co14 : Value).ownBlock)) _ _ l0_6 (fun k_ => ((((((P0_6_ k_ ∨ P1_ k_) ∨ w.heap.size ≤ k_) ∧ k_ ≠ gb568) ∧ k_ ≠ gb569) ∧ some k_ ≠ (.slice Ao12 y570.length co12 : Value).ownBlock) ∧ some k_ ≠ (.slice Ao14 t573.length co14 : Value).ownBlock)) _ _ l1 t576 t577 t578 t579 t580 t581 t582 t585 _ ?side1 ?side2 A5.out).mono ?_); (case side1 => exact HO0_6.out); (case side2 => exact HO1.out); rintro e w16 ⟨v583, v586, rfl, ho0, ho1, hb⟩; refine ⟨_, rfl, ?_⟩; have n0_ := Aside0.mk (Kd.V_elder' (by (with_reducible repeat (first | apply Kd.V_alloc | apply Kd.V_drewN | apply Kd.V_drew)); exact HO0_6.out) (Kd.N_base ho0) hb); have n1_ := Aside0.mk (Kd.V_elder' (by (with_reducible repeat (first | apply Kd.V_alloc | apply Kd.V_drewN | apply Kd.V_drew)); exact HO1.out) (Kd.N_base ho0) hb); have n2_ := Aside0.mk (Kd.N_elder' (by (with_reducible repeat (first | apply Kd.N_alloc | apply Kd.N_drewN | apply Kd.N_drew)); exact HO572.out) (Kd.N_base ho0) hb); have n3_ := Aside0.mk (Kd.R_below (by (with_reducible repeat (first | apply Kd.R_alloc | apply Kd.R_drewN | apply Kd.R_drew)); exact HO575.out) hb); have n4_ := Aside0.mk (Kd.N_lower (Kd.N_mono (ok' := fun k_ => ((P0_6_ k_ ∨ P1_ k_) ∨ w.heap.size ≤ k_) ∧ some k_ ≠ (.slice Ao12 y570.length co12 : Value).ownBlock ∧ some k_ ≠ (.slice Ao14 t573.length co14 : Value).ownBlock ∧ k_ ≠ gb568 ∧ k_ ≠ gb569) ho0 (fun k_ hk_ => ⟨Or.elim hk_ (fun hs_ => Or.elim hs_ (fun hs_ => hs_.1.1.1.1) (fun hs_ => hs_.1.1.1.1)) (fun hn_ => (.inr (Nat.le_trans (below_size (by repeat (first | (with_reducible first | exact HB.out | apply below_alloc | apply pw_below_drewN | apply below_drew1 | refine below_set ?_ GE568.out | refine below_set ?_ GE569.out) | exact HB.out))) hn_))), Or.elim hk_ (fun hs_ => Or.elim hs_ (fun hs_ => hs_.1.2) (fun hs_ => hs_.1.2)) (fun hn_ => (Kd.fresh' (Kd.N_lt (by (with_reducible repeat (first | apply Kd.N_alloc | apply Kd.N_drewN | apply Kd.N_drew)); exact HO572.out)) k_ hn_)), Or.elim hk_ (fun hs_ => Or.elim hs_ (fun hs_ => hs_.2) (fun hs_ => hs_.2)) (fun hn_ => (Kd.fresh' (Kd.R_lt (by (with_reducible repeat (first | apply Kd.R_alloc | apply Kd.R_drewN | apply Kd.R_drew)); exact HO575.out)) k_ hn_)), Or.elim hk_ (fun hs_ => Or.elim hs_ (fun hs_ => hs_.1.1.1.2) (fun hs_ => hs_.1.1.1.2)) (fun hn_ => (Kd.freshB (g := gb568) (o := .cells #[.int .u8 a0_0, .int .i64 a0_1, .int .i64 a0_2, .int .i64 a0_3, .int .i64 a0_4, .int .i64 a0_5, .slice A0_6 l0_6.length c0_6] 26 (0, 0)) (by (with_reducible repeat (first | refine blk_drewN ?_ _ | refine blk_drew ?_ | refine blk_alloc ?_ _)); exact BK568.out) k_ hn_)), Or.elim hk_ (fun hs_ => Or.elim hs_ (fun hs_ => hs_.1.1.2) (fun hs_ => hs_.1.1.2)) (fun hn_ => (Kd.freshB (g := gb569) (o := .cells #[.int .u8 0, .int .i64 0, .int .i64 0, .int .i64 0, .int .i64 0, .int .i64 0, .slice none 0 0] 26 (0, 0)) (by (with_reducible repeat (first | refine blk_drewN ?_ _ | refine blk_drew ?_ | refine blk_alloc ?_ _)); exact BK569.out) k_ hn_))⟩)) (below_size (by repeat (first | (with_reducible first | exact HB.out | apply below_alloc | apply pw_below_drewN | apply below_drew1 | refine below_set ?_ GE568.out | refine below_set ?_ GE569.out) | exact HB.out)))); have n5_ := Aside0.mk (Kd.V_lower (Kd.V_mono (ok' := fun k_ => ((P0_6_ k_ ∨ P1_ k_) ∨ w.heap.size ≤ k_) ∧ some k_ ≠ (v583 : Value).ownBlock ∧ some k_ ≠ (.slice Ao12 y570.length co12 : Value).ownBlock ∧ some k_ ≠ (.slice Ao14 t573.length co14 : Value).ownBlock ∧ k_ ≠ gb568 ∧ k_ ≠ gb569) ho1 (fun k_ hk_ => ⟨Or.elim hk_.1 (fun hs_ => Or.elim hs_ (fun hs_ => hs_.1.1.1.1) (fun hs_ => hs_.1.1.1.1)) (fun hn_ => (.inr (Nat.le_trans (below_size (by repeat (first | (with_reducible first | exact HB.out | apply below_alloc | apply pw_below_drewN | apply below_drew1 | refine below_set ?_ GE568.out | refine below_set ?_ GE569.out) | exact HB.out))) hn_))), hk_.2, Or.elim hk_.1 (fun hs_ => Or.elim hs_ (fun hs_ => hs_.1.2) (fun hs_ => hs_.1.2)) (fun hn_ => (Kd.fresh' (Kd.N_lt (by (with_reducible repeat (first | apply Kd.N_alloc | apply Kd.N_drewN | apply Kd.N_drew)); exact HO572.out)) k_ hn_)), Or.elim hk_.1 (fun hs_ => Or.elim hs_ (fun hs_ => hs_.2) (fun hs_ => hs_.2)) (fun hn_ => (Kd.fresh' (Kd.R_lt (by (with_reducible repeat (first | apply Kd.R_alloc | apply Kd.R_drewN | apply Kd.R_drew)); exact HO575.out)) k_ hn_)), Or.elim hk_.1 (fun hs_ => Or.elim hs_ (fun hs_ => hs_.1.1.1.2) (fun hs_ => hs_.1.1.1.2)) (fun hn_ => (Kd.freshB (g := gb568) (o := .cells #[.int .u8 a0_0, .int .i64 a0_1, .int .i64 a0_2, .int .i64 a0_3, .int .i64 a0_4, .int .i64 a0_5, .slice A0_6 l0_6.length c0_6] 26 (0, 0)) (by (with_reducible repeat (first | refine blk_drewN ?_ _ | refine blk_drew ?_ | refine blk_alloc ?_ _)); exact BK568.out) k_ hn_)), Or.elim hk_.1 (fun hs_ => Or.elim hs_ (fun hs_ => hs_.1.1.2) (fun hs_ => hs_.1.1.2)) (fun hn_ => (Kd.freshB (g := gb569) (o := .cells #[.int .u8 0, .int .i64 0, .int .i64 0, .int .i64 0, .int .i64 0, .int .i64 0, .slice none 0 0] 26 (0, 0)) (by (with_reducible repeat (first | refine blk_drewN ?_ _ | refine blk_drew ?_ | refine blk_alloc ?_ _)); exact BK569.out) k_ hn_))⟩)) (below_size (by repeat (first | (with_reducible first | exact HB.out | apply below_alloc | apply pw_below_drewN | apply below_drew1 | refine below_set ?_ GE568.out | refine below_set ?_ GE569.out) | exact HB.out)))); have n6_ := Aside0.mk (blk_below (g := gb568) (o := .cells #[.int .u8 a0_0, .int .i64 a0_1, .int .i64 a0_2, .int .i64 a0_3, .int .i64 a0_4, .int .i64 a0_5, .slice A0_6 l0_6.length c0_6] 26 (0, 0)) (by (with_reducible repeat (first | refine blk_drewN ?_ _ | refine blk_drew ?_ | refine blk_alloc ?_ _)); exact BK568.out) hb); have n7_ := Aside0.mk (blk_below (g := gb569) (o := .cells #[.int .u8 0, .int .i64 0, .int .i64 0, .int .i64 0, .int .i64 0, .int .i64 0, .slice none 0 0] 26 (0, 0)) (by (with_reducible repeat (first | refine blk_drewN ?_ _ | refine blk_drew ?_ | refine blk_alloc ?_ _)); exact BK569.out) hb); have n8_ := Aside0.mk (below_step (by repeat (first | (with_reducible first | exact HB.out | apply below_alloc | apply pw_below_drewN | apply below_drew1 | refine below_set ?_ GE568.out | refine below_set ?_ GE569.out) | exact HB.out)) hb); clear HO0_6; clear HO1; clear HO572; clear HO575; clear BK568; clear BK569; clear HB; have HO0_6 := n0_; have HO1 := n1_; have HO572 := n2_; have HO575 := n3_; have HO584 := n4_; have HO587 := n5_; have BK568 := n6_; have BK569 := n7_; have HB := n8_; clear n0_ n1_ n2_ n3_ n4_ n5_ n6_ n7_ n8_; (try clear hb); (try clear hb2); (try clear hk); (try clear hi); (try clear ho0); (try clear ho1)) | ((with_reducible refine gate_dst (N := 6) rfl ?_); refine box_event ?hg (N := 6) ?hd (cs := #[.int .u8 0, .int .i64 0, .int .i64 0, .int .i64 0, .int .i64 0, .int .i64 0, .slice none 0 0]) (t := 26) ?hr ?_; (case hd => rfl); (case hg => rfl); (case hr => first | (go_simp; done) | (go_simp; rfl)); intro gb588 hg w17 hbox hb; have n0_ := Aside0.mk (Kd.V_below (Kd.V_elderB (by (with_reducible repeat (first | apply Kd.V_alloc | apply Kd.V_drewN | apply Kd.V_drew)); exact HO0_6.out) gb588 (Nat.le_of_eq hg.symm)) hb); have n1_ := Aside0.mk (Kd.V_below (Kd.V_elderB (by (with_reducible repeat (first | apply Kd.V_alloc | apply Kd.V_drewN | apply Kd.V_drew)); exact HO1.out) gb588 (Nat.le_of_eq hg.symm)) hb); have n2_ := Aside0.mk (Kd.N_below (Kd.N_elderB (by (with_reducible repeat (first | apply Kd.N_alloc | apply Kd.N_drewN | apply Kd.N_drew)); exact HO572.out) gb588 (Nat.le_of_eq hg.symm)) hb); have n3_ := Aside0.mk (Kd.R_below (by (with_reducible repeat (first | apply Kd.R_alloc | apply Kd.R_drewN | apply Kd.R_drew)); exact HO575.out) hb); have n4_ := Aside0.mk (Kd.N_below (Kd.N_elderB (by (with_reducible repeat (first | apply Kd.N_alloc | apply Kd.N_drewN | apply Kd.N_drew)); exact HO584.out) gb588 (Nat.le_of_eq hg.symm)) hb); have n5_ := Aside0.mk (Kd.V_below (Kd.V_elderB (by (with_reducible repeat (first | apply Kd.V_alloc | apply Kd.V_drewN | apply Kd.V_drew)); exact HO587.out) gb588 (Nat.le_of_eq hg.symm)) hb); have n6_ := Aside0.mk (blk_below (g := gb568) (o := .cells #[.int .u8 a0_0, .int .i64 a0_1, .int .i64 a0_2, .int .i64 a0_3, .int .i64 a0_4, .int .i64 a0_5, .slice A0_6 l0_6.length c0_6] 26 (0, 0)) (by (with_reducible repeat (first | refine blk_drewN ?_ _ | refine blk_drew ?_ | refine blk_alloc ?_ _)); exact BK568.out) hb); have n7_ := Aside0.mk (blk_below (g := gb569) (o := .cells #[.int .u8 0, .int .i64 0, .int .i64 0, .int .i64 0, .int .i64 0, .int .i64 0, .slice none 0 0] 26 (0, 0)) (by (with_reducible repeat (first | refine blk_drewN ?_ _ | refine blk_drew ?_ | refine blk_alloc ?_ _)); exact BK569.out) hb); have n8_ := Aside0.mk (below_step (by repeat (first | (with_reducible first | exact HB.out | apply below_alloc | apply pw_below_drewN | apply below_drew1 | refine below_set ?_ GE568.out | refine below_set ?_ GE569.out) | exact HB.out)) hb); have n9_ := Aside0.mk (hbox); have n10_ := Aside0.mk ((by rw [hg]; exact (below_size (by repeat (first | (with_reducible first | exact HB.out | apply below_alloc | apply pw_below_drewN | apply below_drew1 | refine below_set ?_ GE568.out | refine below_set ?_ GE569.out) | exact HB.out))) : w.heap.size ≤ gb588)); have n11_ := Aside0.mk ((by rw [hg]; exact (below_size (by repeat (first | (with_reducible first | exact HB.out | apply below_alloc | apply pw_below_drewN | apply below_drew1 | refine below_set ?_ GE568.out | refine below_set ?_ GE569.out) | exact HB.out))) : w.heap.size ≤ gb588)); have n12_ := Aside0.mk ((by rw [hg]; exact Nat.ne_of_lt (blk_lt (g := gb568) (o := .cells #[.int .u8 a0_0, .int .i64 a0_1, .int .i64 a0_2, .int .i64 a0_3, .int .i64 a0_4, .int .i64 a0_5, .slice A0_6 l0_6.length c0_6] 26 (0, 0)) (by (with_reducible repeat (first | refine blk_drewN ?_ _ | refine blk_drew ?_ | refine blk_alloc ?_ _)); exact BK568.out)) : gb568 ≠ gb588)); have n13_ := Aside0.mk ((by rw [hg]; exact Nat.ne_of_gt (blk_lt (g := gb568) (o := .cells #[.int .u8 a0_0, .int .i64 a0_1, .int .i64 a0_2, .int .i64 a0_3, .int .i64 a0_4, .int .i64 a0_5, .slice A0_6 l0_6.length c0_6] 26 (0, 0)) (by (with_reducible repeat (first | refine blk_drewN ?_ _ | refine blk_drew ?_ | refine blk_alloc ?_ _)); exact BK568.out)) : gb588 ≠ gb568)); have n14_ := Aside0.mk ((by rw [hg]; exact Nat.ne_of_lt (blk_lt (g := gb569) (o := .cells #[.int .u8 0, .int .i64 0, .int .i64 0, .int .i64 0, .int .i64 0, .int .i64 0, .slice none 0 0] 26 (0, 0)) (by (with_reducible repeat (first | refine blk_drewN ?_ _ | refine blk_drew ?_ | refine blk_alloc ?_ _)); exact BK569.out)) : gb569 ≠ gb588)); have n15_ := Aside0.mk ((by rw [hg]; exact Nat.ne_of_gt (blk_lt (g := gb569) (o := .cells #[.int .u8 0, .int .i64 0, .int .i64 0, .int .i64 0, .int .i64 0, .int .i64 0, .slice none 0 0] 26 (0, 0)) (by (with_reducible repeat (first | refine blk_drewN ?_ _ | refine blk_drew ?_ | refine blk_alloc ?_ _)); exact BK569.out)) : gb588 ≠ gb569)); clear HO0_6; clear HO1; clear HO572; clear HO575; clear HO584; clear HO587; clear BK568; clear BK569; clear HB; have HO0_6 := n0_; have HO1 := n1_; have HO572 := n2_; have HO575 := n3_; have HO584 := n4_; have HO587 := n5_; have BK568 := n6_; have BK569 := n7_; have HB := n8_; have BK588 := n9_; have GW588 := n10_; have GE588 := n11_; have NB568_588 := n12_; have NB588_568 := n13_; have NB569_588 := n14_; have NB588_569 := n15_; clear n0_ n1_ n2_ n3_ n4_ n5_ n6_ n7_ n8_ n9_ n10_ n11_ n12_ n13_ n14_ n15_; clear hb hbox hg; have hnb18 := NB588_568.out; have hnc18 := NB568_588.out; have hnb19 := NB588_569.out; have hnc19 := NB569_588.out; have hcz20_0 : w17.cell? ⟨gb588, 0, none⟩ = some (.int .u8 0) := (blk_cell BK588.out 0).trans rfl; have hcz20_1 : w17.cell? ⟨gb588, 1, none⟩ = some (.int .i64 0) := (blk_cell BK588.out 1).trans rfl; have hcz20_2 : w17.cell? ⟨gb588, 2, none⟩ = some (.int .i64 0) := (blk_cell BK588.out 2).trans rfl; have hcz20_3 : w17.cell? ⟨gb588, 3, none⟩ = some (.int .i64 0) := (blk_cell BK588.out 3).trans rfl; have hcz20_4 : w17.cell? ⟨gb588, 4, none⟩ = some (.int .i64 0) := (blk_cell BK588.out 4).trans rfl; have hcz20_5 : w17.cell? ⟨gb588, 5, none⟩ = some (.int .i64 0) := (blk_cell BK588.out 5).trans rfl; have hcz20_6 : w17.cell? ⟨gb588, 6, none⟩ = some (.slice none 0 0) := (blk_cell BK588.out 6).trans rfl; have hfz20_0 := blk_frozen BK588.out 0; have hfz20_1 := blk_frozen BK588.out 1; have hfz20_2 := blk_frozen BK588.out 2; have hfz20_3 := blk_frozen BK588.out 3; have hfz20_4 := blk_frozen BK588.out 4; have hfz20_5 := blk_frozen BK588.out 5; have hfz20_6 := blk_frozen BK588.out 6; obtain ⟨Ao21, co21, eo21⟩ := Kd.N_slice HO584.out; subst eo21; have hcz22_0 : w17.cell? ⟨gb569, 0, none⟩ = some (.int .u8 0) := (blk_cell BK569.out 0).trans rfl; have hcz22_1 : w17.cell? ⟨gb569, 1, none⟩ = some (.int .i64 0) := (blk_cell BK569.out 1).trans rfl; have hcz22_2 : w17.cell? ⟨gb569, 2, none⟩ = some (.int .i64 0) := (blk_cell BK569.out 2).trans rfl; have hcz22_3 : w17.cell? ⟨gb569, 3, none⟩ = some (.int .i64 0) := (blk_cell BK569.out 3).trans rfl; have hcz22_4 : w17.cell? ⟨gb569, 4, none⟩ = some (.int .i64 0) := (blk_cell BK569.out 4).trans rfl; have hcz22_5 : w17.cell? ⟨gb569, 5, none⟩ = some (.int .i64 0) := (blk_cell BK569.out 5).trans rfl; have hcz22_6 : w17.cell? ⟨gb569, 6, none⟩ = some (.slice none 0 0) := (blk_cell BK569.out 6).trans rfl; have hfz22_0 := blk_frozen BK569.out 0; have hfz22_1 := blk_frozen BK569.out 1; have hfz22_2 := blk_frozen BK569.out 2; have hfz22_3 := blk_frozen BK569.out 3; have hfz22_4 := blk_frozen BK569.out 4; have hfz22_5 := blk_frozen BK569.out 5; have hfz22_6 := blk_frozen BK569.out 6))
    refine bodyPost_ret (results_ct rfl _ _ gb569 26 #[.int .u8 t576, .int .i64 t577, .int .i64 t578, .int .i64 t579, .int .i64 t580, .int .i64 t581, .slice Ao21 t582.length co21] (0, 0) _ rfl (by (with_reducible repeat (first | refine blk_drewN ?_ _ | refine blk_drew ?_ | refine blk_alloc ?_ _)); refine blk_put (cs := #[.int .u8 t576, .int .i64 t577, .int .i64 t578, .int .i64 t579, .int .i64 t580, .int .i64 t581, .slice none 0 0]) ?_ 6 _ rfl; (with_reducible repeat (first | refine blk_drewN ?_ _ | refine blk_drew ?_ | refine blk_alloc ?_ _)); refine blk_put (cs := #[.int .u8 t576, .int .i64 t577, .int .i64 t578, .int .i64 t579, .int .i64 t580, .int .i64 0, .slice none 0 0]) ?_ 5 _ rfl; (with_reducible repeat (first | refine blk_drewN ?_ _ | refine blk_drew ?_ | refine blk_alloc ?_ _)); refine blk_put (cs := #[.int .u8 t576, .int .i64 t577, .int .i64 t578, .int .i64 t579, .int .i64 0, .int .i64 0, .slice none 0 0]) ?_ 4 _ rfl; (with_reducible repeat (first | refine blk_drewN ?_ _ | refine blk_drew ?_ | refine blk_alloc ?_ _)); refine blk_put (cs := #[.int .u8 t576, .int .i64 t577, .int .i64 t578, .int .i64 0, .int .i64 0, .int .i64 0, .slice none 0 0]) ?_ 3 _ rfl; (with_reducible repeat (first | refine blk_drewN ?_ _ | refine blk_drew ?_ | refine blk_alloc ?_ _)); refine blk_put (cs := #[.int .u8 t576, .int .i64 t577, .int .i64 0, .int .i64 0, .int .i64 0, .int .i64 0, .slice none 0 0]) ?_ 2 _ rfl; (with_reducible repeat (first | refine blk_drewN ?_ _ | refine blk_drew ?_ | refine blk_alloc ?_ _)); refine blk_put (cs := #[.int .u8 t576, .int .i64 0, .int .i64 0, .int .i64 0, .int .i64 0, .int .i64 0, .slice none 0 0]) ?_ 1 _ rfl; (with_reducible repeat (first | refine blk_drewN ?_ _ | refine blk_drew ?_ | refine blk_alloc ?_ _)); refine blk_put (cs := #[.int .u8 0, .int .i64 0, .int .i64 0, .int .i64 0, .int .i64 0, .int .i64 0, .slice none 0 0]) ?_ 0 _ rfl; (with_reducible repeat (first | refine blk_drewN ?_ _ | refine blk_drew ?_ | refine blk_alloc ?_ _)); refine blk_far ?_ NB569_588.out _; (with_reducible repeat (first | refine blk_drewN ?_ _ | refine blk_drew ?_ | refine blk_alloc ?_ _)); refine blk_far ?_ NB569_588.out _; (with_reducible repeat (first | refine blk_drewN ?_ _ | refine blk_drew ?_ | refine blk_alloc ?_ _)); refine blk_far ?_ NB569_588.out _; (with_reducible repeat (first | refine blk_drewN ?_ _ | refine blk_drew ?_ | refine blk_alloc ?_ _)); refine blk_far ?_ NB569_588.out _; (with_reducible repeat (first | refine blk_drewN ?_ _ | refine blk_drew ?_ | refine blk_alloc ?_ _)); refine blk_far ?_ NB569_588.out _; (with_reducible repeat (first | refine blk_drewN ?_ _ | refine blk_drew ?_ | refine blk_alloc ?_ _)); refine blk_far ?_ NB569_588.out _; (with_reducible repeat (first | refine blk_drewN ?_ _ | refine blk_drew ?_ | refine blk_alloc ?_ _)); refine blk_far ?_ NB569_588.out _; (with_reducible repeat (first | refine blk_drewN ?_ _ | refine blk_drew ?_ | refine blk_alloc ?_ _)); exact BK569.out) Try.underlying26 rfl (by kernel_rfl)) rfl ?_
    exact ⟨_, by first | rfl | (simp [errW_none, errW_some] <;> rfl) | (simp [*, errW_none, errW_some] <;> rfl), by (with_reducible repeat (first | apply Kd.N_alloc | apply Kd.N_drewN | apply Kd.N_drew)); exact Kd.N_mono (Kd.N_far (p := ⟨gb569, 6, none⟩) (Kd.N_far (p := ⟨gb569, 5, none⟩) (Kd.N_far (p := ⟨gb569, 4, none⟩) (Kd.N_far (p := ⟨gb569, 3, none⟩) (Kd.N_far (p := ⟨gb569, 2, none⟩) (Kd.N_far (p := ⟨gb569, 1, none⟩) (Kd.N_far (p := ⟨gb569, 0, none⟩) (Kd.N_far (p := ⟨gb588, 6, none⟩) (Kd.N_far (p := ⟨gb588, 5, none⟩) (Kd.N_far (p := ⟨gb588, 4, none⟩) (Kd.N_far (p := ⟨gb588, 3, none⟩) (Kd.N_far (p := ⟨gb588, 2, none⟩) (Kd.N_far (p := ⟨gb588, 1, none⟩) (Kd.N_far (p := ⟨gb588, 0, none⟩) (Kd.N_mono (Kd.N_mono HO584.out (fun k_ hk => (⟨hk, hk.2⟩ : _ ∧ k_ ≠ gb588))) (fun k_ hk => (⟨hk, hk.1.1.2.2.2.2⟩ : _ ∧ k_ ≠ gb569))) (fun _ hk => hk.1.2) (.int .u8 t576)) (fun _ hk => hk.1.2) (.int .i64 t577)) (fun _ hk => hk.1.2) (.int .i64 t578)) (fun _ hk => hk.1.2) (.int .i64 t579)) (fun _ hk => hk.1.2) (.int .i64 t580)) (fun _ hk => hk.1.2) (.int .i64 t581)) (fun _ hk => hk.1.2) (.slice Ao21 t582.length co21)) (fun _ hk => hk.2) (.int .u8 t576)) (fun _ hk => hk.2) (.int .i64 t577)) (fun _ hk => hk.2) (.int .i64 t578)) (fun _ hk => hk.2) (.int .i64 t579)) (fun _ hk => hk.2) (.int .i64 t580)) (fun _ hk => hk.2) (.int .i64 t581)) (fun _ hk => hk.2) (.slice Ao21 t582.length co21)) (fun _ hk => hk.1.1.1.1), by repeat (first | (with_reducible first | exact HB.out | apply below_alloc | apply pw_below_drewN | apply below_drew1 | refine below_set ?_ GE568.out | refine below_set ?_ GE569.out | refine below_set ?_ GE588.out) | exact HB.out)⟩
  · rw [if_neg c4] at H
    have c4b0 : ((t573.length : Int) == (l1.length : Int)) = false := beq_eq_false_iff_ne.mpr c4
    have c4b1 : ((t573.length : Int) != (l1.length : Int)) = true := bne_iff_ne.mpr c4
    have c4b2 : (t573.length == l1.length) = false := by first | simpa using c4 | (simp at c4 ⊢; omega)
    simp only [Option.some.injEq, Prod.mk.injEq] at H
    obtain ⟨rfl, rfl, rfl, rfl, rfl, rfl, rfl, rfl⟩ := H
    go_enter Try.func62, Try.ntmps62
    go_wp2_with (first | ((with_reducible refine gate_dst (N := 2) rfl ?_); refine box_event ?hg (N := 2) ?hd (cs := #[.int .u8 a0_0, .int .i64 a0_1, .int .i64 a0_2, .int .i64 a0_3, .int .i64 a0_4, .int .i64 a0_5, .slice A0_6 l0_6.length c0_6]) (t := 26) ?hr ?_; (case hd => rfl); (case hg => rfl); (case hr => first | (go_simp; done) | (go_simp; rfl)); intro gb568 hg w23 hbox hb; have n0_ := Aside0.mk (Kd.V_below (Kd.V_elderB (by (with_reducible repeat (first | apply Kd.V_alloc | apply Kd.V_drewN | apply Kd.V_drew)); exact HO0_6.out) gb568 (Nat.le_of_eq hg.symm)) hb); have n1_ := Aside0.mk (Kd.V_below (Kd.V_elderB (by (with_reducible repeat (first | apply Kd.V_alloc | apply Kd.V_drewN | apply Kd.V_drew)); exact HO1.out) gb568 (Nat.le_of_eq hg.symm)) hb); have n2_ := Aside0.mk (below_step (by repeat (first | (with_reducible first | exact HB.out | apply below_alloc | apply pw_below_drewN | apply below_drew1) | exact HB.out)) hb); have n3_ := Aside0.mk (hbox); have n4_ := Aside0.mk ((by rw [hg]; exact (below_size (by repeat (first | (with_reducible first | exact HB.out | apply below_alloc | apply pw_below_drewN | apply below_drew1) | exact HB.out))) : w.heap.size ≤ gb568)); have n5_ := Aside0.mk ((by rw [hg]; exact (below_size (by repeat (first | (with_reducible first | exact HB.out | apply below_alloc | apply pw_below_drewN | apply below_drew1) | exact HB.out))) : w.heap.size ≤ gb568)); clear HO0_6; clear HO1; clear HB; have HO0_6 := n0_; have HO1 := n1_; have HB := n2_; have BK568 := n3_; have GW568 := n4_; have GE568 := n5_; clear n0_ n1_ n2_ n3_ n4_ n5_; clear hb hbox hg) | ((with_reducible refine gate_dst (N := 4) rfl ?_); refine box_event ?hg (N := 4) ?hd (cs := #[.int .u8 0, .int .i64 0, .int .i64 0, .int .i64 0, .int .i64 0, .int .i64 0, .slice none 0 0]) (t := 26) ?hr ?_; (case hd => rfl); (case hg => rfl); (case hr => first | (go_simp; done) | (go_simp; rfl)); intro gb569 hg w24 hbox hb; have n0_ := Aside0.mk (Kd.V_below (Kd.V_elderB (by (with_reducible repeat (first | apply Kd.V_alloc | apply Kd.V_drewN | apply Kd.V_drew)); exact HO0_6.out) gb569 (Nat.le_of_eq hg.symm)) hb); have n1_ := Aside0.mk (Kd.V_below (Kd.V_elderB (by (with_reducible repeat (first | apply Kd.V_alloc | apply Kd.V_drewN | apply Kd.V_drew)); exact HO1.out) gb569 (Nat.le_of_eq hg.symm)) hb); have n2_ := Aside0.mk (blk_below (g := gb568) (o := .cells #[.int .u8 a0_0, .int .i64 a0_1, .int .i64 a0_2, .int .i64 a0_3, .int .i64 a0_4, .int .i64 a0_5, .slice A0_6 l0_6.length c0_6] 26 (0, 0)) (by (with_reducible repeat (first | refine blk_drewN ?_ _ | refine blk_drew ?_ | refine blk_alloc ?_ _)); exact BK568.out) hb); have n3_ := Aside0.mk (below_step (by repeat (first | (with_reducible first | exact HB.out | apply below_alloc | apply pw_below_drewN | apply below_drew1 | refine below_set ?_ GE568.out) | exact HB.out)) hb); have n4_ := Aside0.mk (hbox); have n5_ := Aside0.mk ((by rw [hg]; exact (below_size (by repeat (first | (with_reducible first | exact HB.out | apply below_alloc | apply pw_below_drewN | apply below_drew1 | refine below_set ?_ GE568.out) | exact HB.out))) : w.heap.size ≤ gb569)); have n6_ := Aside0.mk ((by rw [hg]; exact (below_size (by repeat (first | (with_reducible first | exact HB.out | apply below_alloc | apply pw_below_drewN | apply below_drew1 | refine below_set ?_ GE568.out) | exact HB.out))) : w.heap.size ≤ gb569)); have n7_ := Aside0.mk ((by rw [hg]; exact Nat.ne_of_lt (blk_lt (g := gb568) (o := .cells #[.int .u8 a0_0, .int .i64 a0_1, .int .i64 a0_2, .int .i64 a0_3, .int .i64 a0_4, .int .i64 a0_5, .slice A0_6 l0_6.length c0_6] 26 (0, 0)) (by (with_reducible repeat (first | refine blk_drewN ?_ _ | refine blk_drew ?_ | refine blk_alloc ?_ _)); exact BK568.out)) : gb568 ≠ gb569)); have n8_ := Aside0.mk ((by rw [hg]; exact Nat.ne_of_gt (blk_lt (g := gb568) (o := .cells #[.int .u8 a0_0, .int .i64 a0_1, .int .i64 a0_2, .int .i64 a0_3, .int .i64 a0_4, .int .i64 a0_5, .slice A0_6 l0_6.length c0_6] 26 (0, 0)) (by (with_reducible repeat (first | refine blk_drewN ?_ _ | refine blk_drew ?_ | refine blk_alloc ?_ _)); exact BK568.out)) : gb569 ≠ gb568)); clear HO0_6; clear HO1; clear BK568; clear HB; have HO0_6 := n0_; have HO1 := n1_; have BK568 := n2_; have HB := n3_; have BK569 := n4_; have GW569 := n5_; have GE569 := n6_; have NB568_569 := n7_; have NB569_568 := n8_; clear n0_ n1_ n2_ n3_ n4_ n5_ n6_ n7_ n8_; clear hb hbox hg; have hnb25 := NB568_569.out; have hnc25 := NB569_568.out; have hcz26_0 : w24.cell? ⟨gb568, 0, none⟩ = some (.int .u8 a0_0) := (blk_cell BK568.out 0).trans rfl; have hcz26_1 : w24.cell? ⟨gb568, 1, none⟩ = some (.int .i64 a0_1) := (blk_cell BK568.out 1).trans rfl; have hcz26_2 : w24.cell? ⟨gb568, 2, none⟩ = some (.int .i64 a0_2) := (blk_cell BK568.out 2).trans rfl; have hcz26_3 : w24.cell? ⟨gb568, 3, none⟩ = some (.int .i64 a0_3) := (blk_cell BK568.out 3).trans rfl; have hcz26_4 : w24.cell? ⟨gb568, 4, none⟩ = some (.int .i64 a0_4) := (blk_cell BK568.out 4).trans rfl; have hcz26_5 : w24.cell? ⟨gb568, 5, none⟩ = some (.int .i64 a0_5) := (blk_cell BK568.out 5).trans rfl; have hcz26_6 : w24.cell? ⟨gb568, 6, none⟩ = some (.slice A0_6 l0_6.length c0_6) := (blk_cell BK568.out 6).trans rfl; have hfz26_0 := blk_frozen BK568.out 0; have hfz26_1 := blk_frozen BK568.out 1; have hfz26_2 := blk_frozen BK568.out 2; have hfz26_3 := blk_frozen BK568.out 3; have hfz26_4 := blk_frozen BK568.out 4; have hfz26_5 := blk_frozen BK568.out 5; have hfz26_6 := blk_frozen BK568.out 6) | ((with_reducible refine gate_dst (N := 9) rfl ?_); refine Kd.N_lit k26 _ 26 ?hg (N' := 9) ?hd (xs := ([(⟨a0_0, (⟨a0_1, a0_2, a0_3, a0_4⟩ : S23), a0_5, l0_6⟩ : S26)] : List (S26))) (inner := [.int .u8 a0_0, .int .i64 a0_1, .int .i64 a0_2, .int .i64 a0_3, .int .i64 a0_4, .int .i64 a0_5, .slice A0_6 l0_6.length c0_6]) (ok := (fun k_ => ((P0_6_ k_ ∨ P1_ k_) ∨ w.heap.size ≤ k_) ∧ k_ ≠ gb568 ∧ k_ ≠ gb569)) (okp := (fun k_ => ((P0_6_ k_ ∨ P1_ k_) ∨ w.heap.size ≤ k_) ∧ k_ ≠ gb568 ∧ k_ ≠ gb569)) ?hr ?hp (fun _ hk => hk) ((show ∀ k_, w24.heap.size ≤ k_ → (fun k_ => ((P0_6_ k_ ∨ P1_ k_) ∨ w.heap.size ≤ k_) ∧ k_ ≠ gb568 ∧ k_ ≠ gb569) k_ from fun k_ hk => ⟨(.inr (Nat.le_trans (below_size (by repeat (first | (with_reducible first | exact HB.out | apply below_alloc | apply pw_below_drewN | apply below_drew1 | refine below_set ?_ GE568.out | refine below_set ?_ GE569.out) | exact HB.out))) hk)), Kd.freshB (g := gb568) (o := .cells #[.int .u8 a0_0, .int .i64 a0_1, .int .i64 a0_2, .int .i64 a0_3, .int .i64 a0_4, .int .i64 a0_5, .slice A0_6 l0_6.length c0_6] 26 (0, 0)) (by (with_reducible repeat (first | refine blk_drewN ?_ _ | refine blk_drew ?_ | refine blk_alloc ?_ _)); exact BK568.out) k_ hk, Kd.freshB (g := gb569) (o := .cells #[.int .u8 0, .int .i64 0, .int .i64 0, .int .i64 0, .int .i64 0, .int .i64 0, .slice none 0 0] 26 (0, 0)) (by (with_reducible repeat (first | refine blk_drewN ?_ _ | refine blk_drew ?_ | refine blk_alloc ?_ _)); exact BK569.out) k_ hk⟩) _ (Nat.le_refl _)) (Below.refl _ _) (Nat.le_refl _) (by simp) ?_; (case hd => rfl); (case hg => rfl); (case hr => first | (go_simp; done) | (go_simp; rfl)); (case hp => exact (Reps.c7 (show Kd.FK k26 _ _ (⟨a0_0, (⟨a0_1, a0_2, a0_3, a0_4⟩ : S23), a0_5, l0_6⟩ : S26) [.int .u8 a0_0, .int .i64 a0_1, .int .i64 a0_2, .int .i64 a0_3, .int .i64 a0_4, .int .i64 a0_5, .slice A0_6 l0_6.length c0_6] from (k26_mkF _ _ (⟨a0_0, (⟨a0_1, a0_2, a0_3, a0_4⟩ : S23), a0_5, l0_6⟩ : S26) (Kd.V_reads' (Kd.V_mono (ok' := (fun k_ => ((P0_6_ k_ ∨ P1_ k_) ∨ w.heap.size ≤ k_) ∧ k_ ≠ gb568 ∧ k_ ≠ gb569)) (HO0_6.out) (fun k_ hk => ⟨hk.1.1, ⟨hk.1.2, hk.2⟩⟩))).2.1 (Kd.V_F (Kd.V_mono (ok' := (fun k_ => ((P0_6_ k_ ∨ P1_ k_) ∨ w.heap.size ≤ k_) ∧ k_ ≠ gb568 ∧ k_ ≠ gb569)) (HO0_6.out) (fun k_ hk => ⟨hk.1.1, ⟨hk.1.2, hk.2⟩⟩))))) (Reps.none _ _))); intro v571 w27 ho28 hb hg_ hnew_; clear hg_ hnew_; (first | rw [← Ny570.out] at ho28 | (simp only [Int.reduceToNat] at ho28; rw [← Ny570.out] at ho28)); have n0_ := Aside0.mk (Kd.V_elder' (by (with_reducible repeat (first | apply Kd.V_alloc | apply Kd.V_drewN | apply Kd.V_drew)); exact HO0_6.out) (Kd.N_base ho28) hb); have n1_ := Aside0.mk (Kd.V_elder' (by (with_reducible repeat (first | apply Kd.V_alloc | apply Kd.V_drewN | apply Kd.V_drew)); exact HO1.out) (Kd.N_base ho28) hb); have n2_ := Aside0.mk (Kd.N_lower ho28 (below_size (by repeat (first | (with_reducible first | exact HB.out | apply below_alloc | apply pw_below_drewN | apply below_drew1 | refine below_set ?_ GE568.out | refine below_set ?_ GE569.out) | exact HB.out)))); have n3_ := Aside0.mk (blk_below (g := gb568) (o := .cells #[.int .u8 a0_0, .int .i64 a0_1, .int .i64 a0_2, .int .i64 a0_3, .int .i64 a0_4, .int .i64 a0_5, .slice A0_6 l0_6.length c0_6] 26 (0, 0)) (by (with_reducible repeat (first | refine blk_drewN ?_ _ | refine blk_drew ?_ | refine blk_alloc ?_ _)); exact BK568.out) hb); have n4_ := Aside0.mk (blk_below (g := gb569) (o := .cells #[.int .u8 0, .int .i64 0, .int .i64 0, .int .i64 0, .int .i64 0, .int .i64 0, .slice none 0 0] 26 (0, 0)) (by (with_reducible repeat (first | refine blk_drewN ?_ _ | refine blk_drew ?_ | refine blk_alloc ?_ _)); exact BK569.out) hb); have n5_ := Aside0.mk (below_step (by repeat (first | (with_reducible first | exact HB.out | apply below_alloc | apply pw_below_drewN | apply below_drew1 | refine below_set ?_ GE568.out | refine below_set ?_ GE569.out) | exact HB.out)) hb); clear HO0_6; clear HO1; clear BK568; clear BK569; clear HB; have HO0_6 := n0_; have HO1 := n1_; have HO572 := n2_; have BK568 := n3_; have BK569 := n4_; have HB := n5_; clear n0_ n1_ n2_ n3_ n4_ n5_; clear hb ho28; obtain ⟨Ao29, co29, eo29⟩ := Kd.N_slice HO572.out; subst eo29) | ((with_reducible refine gate_callee (f := 83) rfl ?_); refine goesL_ (some 10) rfl rfl Try.func83 (by kernel_rfl) rfl #[.slice Ao29 y570.length co29] rfl (by (try simp only [List.map_toArray, List.map_cons, List.map_nil]); first | done | rfl | (simp only [List.length_drop, List.length_take]; rfl)) ?_; (with_reducible refine (cell_Leaves.calls k _ _ y570 t573 _ ?side1 ?side2 A3.out).mono ?_); (case side1 => repeat (first | exact (Kd.N_reads' HO572.out).2.2 | (with_reducible refine Kd.C_alloc ?_ _) | (with_reducible refine Kd.C_drewN ?_ _) | (with_reducible refine Kd.C_drew ?_))); (case side2 => exact (Kd.N_reads' HO572.out).2.1); rintro e w30 ⟨v574, rfl, ho0, hb⟩; refine ⟨_, rfl, ?_⟩; have n0_ := Aside0.mk (Kd.V_elder' (by (with_reducible repeat (first | apply Kd.V_alloc | apply Kd.V_drewN | apply Kd.V_drew)); exact HO0_6.out) (Kd.R_base ho0) hb); have n1_ := Aside0.mk (Kd.V_elder' (by (with_reducible repeat (first | apply Kd.V_alloc | apply Kd.V_drewN | apply Kd.V_drew)); exact HO1.out) (Kd.R_base ho0) hb); have n2_ := Aside0.mk (Kd.N_elder' (by (with_reducible repeat (first | apply Kd.N_alloc | apply Kd.N_drewN | apply Kd.N_drew)); exact HO572.out) (Kd.R_base ho0) hb); have n3_ := Aside0.mk (Kd.R_lower (Kd.R_newM (M := fun k_ => (w.heap.size ≤ k_)) ho0 (below_size (by repeat (first | (with_reducible first | exact HB.out | apply below_alloc | apply pw_below_drewN | apply below_drew1 | refine below_set ?_ GE568.out | refine below_set ?_ GE569.out) | exact HB.out))) (fun k_ h_ => h_)) (below_size (by repeat (first | (with_reducible first | exact HB.out | apply below_alloc | apply pw_below_drewN | apply below_drew1 | refine below_set ?_ GE568.out | refine below_set ?_ GE569.out) | exact HB.out)))); have n4_ := Aside0.mk (blk_below (g := gb568) (o := .cells #[.int .u8 a0_0, .int .i64 a0_1, .int .i64 a0_2, .int .i64 a0_3, .int .i64 a0_4, .int .i64 a0_5, .slice A0_6 l0_6.length c0_6] 26 (0, 0)) (by (with_reducible repeat (first | refine blk_drewN ?_ _ | refine blk_drew ?_ | refine blk_alloc ?_ _)); exact BK568.out) hb); have n5_ := Aside0.mk (blk_below (g := gb569) (o := .cells #[.int .u8 0, .int .i64 0, .int .i64 0, .int .i64 0, .int .i64 0, .int .i64 0, .slice none 0 0] 26 (0, 0)) (by (with_reducible repeat (first | refine blk_drewN ?_ _ | refine blk_drew ?_ | refine blk_alloc ?_ _)); exact BK569.out) hb); have n6_ := Aside0.mk (below_step (by repeat (first | (with_reducible first | exact HB.out | apply below_alloc | apply pw_below_drewN | apply below_drew1 | refine below_set ?_ GE568.out | refine below_set ?_ GE569.out) | exact HB.out)) hb); clear HO0_6; clear HO1; clear HO572; clear BK568; clear BK569; clear HB; have HO0_6 := n0_; have HO1 := n1_; have HO572 := n2_; have HO575 := n3_; have BK568 := n4_; have BK569 := n5_; have HB := n6_; clear n0_ n1_ n2_ n3_ n4_ n5_ n6_; (try clear hb); (try clear hb2); (try clear hk); (try clear hi); (try clear ho0); obtain ⟨Ao31, co31, eo31⟩ := Kd.R_slice HO575.out; subst eo31; have hcz32_0 : w30.cell? ⟨gb569, 0, none⟩ = some (.int .u8 0) := (blk_cell BK569.out 0).trans rfl; have hcz32_1 : w30.cell? ⟨gb569, 1, none⟩ = some (.int .i64 0) := (blk_cell BK569.out 1).trans rfl; have hcz32_2 : w30.cell? ⟨gb569, 2, none⟩ = some (.int .i64 0) := (blk_cell BK569.out 2).trans rfl; have hcz32_3 : w30.cell? ⟨gb569, 3, none⟩ = some (.int .i64 0) := (blk_cell BK569.out 3).trans rfl; have hcz32_4 : w30.cell? ⟨gb569, 4, none⟩ = some (.int .i64 0) := (blk_cell BK569.out 4).trans rfl; have hcz32_5 : w30.cell? ⟨gb569, 5, none⟩ = some (.int .i64 0) := (blk_cell BK569.out 5).trans rfl; have hcz32_6 : w30.cell? ⟨gb569, 6, none⟩ = some (.slice none 0 0) := (blk_cell BK569.out 6).trans rfl; have hfz32_0 := blk_frozen BK569.out 0; have hfz32_1 := blk_frozen BK569.out 1; have hfz32_2 := blk_frozen BK569.out 2; have hfz32_3 := blk_frozen BK569.out 3; have hfz32_4 := blk_frozen BK569.out 4; have hfz32_5 := blk_frozen BK569.out 5; have hfz32_6 := blk_frozen BK569.out 6))
    refine bodyPost_ret (results_ct rfl _ _ gb569 26 #[.int .u8 0, .int .i64 0, .int .i64 0, .int .i64 0, .int .i64 0, .int .i64 0, .slice none 0 0] (0, 0) _ rfl (by (with_reducible repeat (first | refine blk_drewN ?_ _ | refine blk_drew ?_ | refine blk_alloc ?_ _)); refine blk_put (cs := #[.int .u8 0, .int .i64 0, .int .i64 0, .int .i64 0, .int .i64 0, .int .i64 0, .slice none 0 0]) ?_ 6 _ rfl; (with_reducible repeat (first | refine blk_drewN ?_ _ | refine blk_drew ?_ | refine blk_alloc ?_ _)); refine blk_put (cs := #[.int .u8 0, .int .i64 0, .int .i64 0, .int .i64 0, .int .i64 0, .int .i64 0, .slice none 0 0]) ?_ 5 _ rfl; (with_reducible repeat (first | refine blk_drewN ?_ _ | refine blk_drew ?_ | refine blk_alloc ?_ _)); refine blk_put (cs := #[.int .u8 0, .int .i64 0, .int .i64 0, .int .i64 0, .int .i64 0, .int .i64 0, .slice none 0 0]) ?_ 4 _ rfl; (with_reducible repeat (first | refine blk_drewN ?_ _ | refine blk_drew ?_ | refine blk_alloc ?_ _)); refine blk_put (cs := #[.int .u8 0, .int .i64 0, .int .i64 0, .int .i64 0, .int .i64 0, .int .i64 0, .slice none 0 0]) ?_ 3 _ rfl; (with_reducible repeat (first | refine blk_drewN ?_ _ | refine blk_drew ?_ | refine blk_alloc ?_ _)); refine blk_put (cs := #[.int .u8 0, .int .i64 0, .int .i64 0, .int .i64 0, .int .i64 0, .int .i64 0, .slice none 0 0]) ?_ 2 _ rfl; (with_reducible repeat (first | refine blk_drewN ?_ _ | refine blk_drew ?_ | refine blk_alloc ?_ _)); refine blk_put (cs := #[.int .u8 0, .int .i64 0, .int .i64 0, .int .i64 0, .int .i64 0, .int .i64 0, .slice none 0 0]) ?_ 1 _ rfl; (with_reducible repeat (first | refine blk_drewN ?_ _ | refine blk_drew ?_ | refine blk_alloc ?_ _)); refine blk_put (cs := #[.int .u8 0, .int .i64 0, .int .i64 0, .int .i64 0, .int .i64 0, .int .i64 0, .slice none 0 0]) ?_ 0 _ rfl; (with_reducible repeat (first | refine blk_drewN ?_ _ | refine blk_drew ?_ | refine blk_alloc ?_ _)); exact BK569.out) Try.underlying26 rfl (by kernel_rfl)) rfl ?_
    exact ⟨_, by first | rfl | (simp [errW_none, errW_some] <;> rfl) | (simp [*, errW_none, errW_some] <;> rfl), by first | exact Kd.R_nil _ _ _ _ _ | exact Kd.N_nil _ _ _ _ _ | exact Kd.V_nil _ _ _ _ _ | exact Kd.Q_nil _ _ _ _ _ | exact Kd.S_nil _ _ _ _ _, by repeat (first | (with_reducible first | exact HB.out | apply below_alloc | apply pw_below_drewN | apply below_drew1 | refine below_set ?_ GE568.out | refine below_set ?_ GE569.out) | exact HB.out)⟩

end Go.Proofs.Ytfdmfgaiblfbhaa.P
/- Naming a tree's leaves: plain data. -/
namespace Go.Proofs.Ytfdmfgaiblfbhaa.P
open Go.RowKit Go.Proofs.YtfdmfgaiblfbhaaW.PrintWords Go.Proofs.YtfdmfgaiblfbhaaW.PrintLast Go.Proofs.YtfdmfgaiblfbhaaW.PrintMore

mutual
def nameC : S26 → List Int → S26 × List Int
  | ⟨a, b, d, l⟩, ids => (⟨a, b, if a = 1 then ids.headD 0 else d, (nameL l (if a = 1 then ids.drop 1 else ids)).1⟩, (nameL l (if a = 1 then ids.drop 1 else ids)).2)
def nameL : List S26 → List Int → List S26 × List Int
  | [], ids => ([], ids)
  | c :: cs, ids => ((nameC c ids).1 :: (nameL cs (nameC c ids).2).1, (nameL cs (nameC c ids).2).2)
end
/-- How many leaves. -/
def nlv (c : S26) : Nat := (leavesC c).length
def nlvL (l : List S26) : Nat := ((allL l).filter fun x => decide (x.f0 = 1)).length
theorem nlv_eq (c : S26) : nlv c = (if c.f0 = 1 then 1 else 0) + nlvL c.f3 := by
  unfold nlv leavesC nlvL
  rw [allC_eq]
  by_cases h : c.f0 = 1
  · rw [if_pos h, List.filter_cons_of_pos (by simpa using h), List.length_cons]
    omega
  · rw [if_neg h, List.filter_cons_of_neg (by simpa using h)]
    omega
theorem nlvL_cons (c : S26) (cs : List S26) : nlvL (c :: cs) = nlv c + nlvL cs := by
  unfold nlvL nlv leavesC
  rw [allL_cons, List.filter_append, List.length_append]
theorem nlvL_nil : nlvL [] = 0 := by unfold nlvL; rw [allL_nil]; rfl
theorem nameC_eq (c : S26) (ids : List Int) : nameC c ids = (⟨c.f0, c.f1, if c.f0 = 1 then ids.headD 0 else c.f2, (nameL c.f3 (if c.f0 = 1 then ids.drop 1 else ids)).1⟩, (nameL c.f3 (if c.f0 = 1 then ids.drop 1 else ids)).2) := by
  cases c
  simp [nameC]
theorem nameL_nil (ids : List Int) : nameL [] ids = ([], ids) := by simp [nameL]
theorem nameL_cons (c : S26) (cs : List S26) (ids : List Int) : nameL (c :: cs) ids = ((nameC c ids).1 :: (nameL cs (nameC c ids).2).1, (nameL cs (nameC c ids).2).2) := by simp [nameL]

theorem zip_app {α β γ : Type} (f : α → β → γ) : ∀ (a b : List α) (l : List β), a.length ≤ l.length → List.zipWith f (a ++ b) l = List.zipWith f a l ++ List.zipWith f b (l.drop a.length) := by
  intro a
  induction a with
  | nil => intro b l _; simp
  | cons x xs ih =>
    intro b l h
    cases l with
    | nil => simp at h
    | cons y ys => simp only [List.cons_append, List.zipWith_cons_cons, List.length_cons, List.drop_succ_cons]; rw [ih b ys (by simpa using h)]
def named (p : S35) (id : Int) : S35 := ⟨id, p.f1⟩
/-- What naming does: the size stays, the numbers are used up from the front, the panes have them. -/
theorem name_facts : ∀ (N : Nat), (∀ c : S26, sz c ≤ N → ∀ ids : List Int, nlv c ≤ ids.length → sz (nameC c ids).1 = sz c ∧ (nameC c ids).2 = ids.drop (nlv c) ∧ panes (nameC c ids).1 = List.zipWith named (panes c) ids) ∧
    (∀ l : List S26, szL l ≤ N → ∀ ids : List Int, nlvL l ≤ ids.length → szL (nameL l ids).1 = szL l ∧ (nameL l ids).2 = ids.drop (nlvL l) ∧ panesL (nameL l ids).1 = List.zipWith named (panesL l) ids ∧ (nameL l ids).1.length = l.length) := by
  intro N
  induction N with
  | zero =>
    refine ⟨fun c h => ?_, fun l h ids _ => ?_⟩
    · rw [sz_eq] at h; omega
    · cases l with
      | nil => rw [nameL_nil, nlvL_nil]; exact ⟨rfl, rfl, by unfold panesL; rw [allL_nil]; rfl, rfl⟩
      | cons x xs => rw [szL_cons, sz_eq] at h; omega
  | succ N ih =>
    have hC : ∀ c : S26, sz c ≤ N + 1 → ∀ ids : List Int, nlv c ≤ ids.length → sz (nameC c ids).1 = sz c ∧ (nameC c ids).2 = ids.drop (nlv c) ∧ panes (nameC c ids).1 = List.zipWith named (panes c) ids := by
      intro c hc ids hids
      have hs := sz_eq c
      have hn := nlv_eq c
      rw [nameC_eq]
      by_cases h1 : c.f0 = 1
      · rw [if_pos h1] at hn
        simp only [if_pos h1]
        obtain ⟨a1, a2, a3, _⟩ := ih.2 c.f3 (by omega) (ids.drop 1) (by rw [List.length_drop]; omega)
        refine ⟨?_, ?_, ?_⟩
        · rw [sz_eq, hs]
          simp only [a1]
        · rw [a2, List.drop_drop, hn]
        · rw [panes_eq, panes_eq c]
          simp only [if_pos h1, a3]
          cases ids with
          | nil => simp at hids; omega
          | cons i is => rfl
      · rw [if_neg h1] at hn
        simp only [if_neg h1]
        obtain ⟨a1, a2, a3, _⟩ := ih.2 c.f3 (by omega) ids (by omega)
        refine ⟨?_, ?_, ?_⟩
        · rw [sz_eq, hs]
          simp only [a1]
        · rw [a2, hn, Nat.zero_add]
        · rw [panes_eq, panes_eq c]
          simp only [if_neg h1, a3, List.nil_append]
    refine ⟨hC, ?_⟩
    intro l
    induction l with
    | nil => intro _ ids _; rw [nameL_nil, nlvL_nil]; exact ⟨rfl, rfl, by unfold panesL; rw [allL_nil]; rfl, rfl⟩
    | cons x xs ihl =>
      intro hl ids hids
      rw [szL_cons] at hl
      rw [nlvL_cons] at hids
      obtain ⟨a1, a2, a3⟩ := hC x (by omega) ids (by omega)
      obtain ⟨b1, b2, b3, b4⟩ := ihl (by omega) (nameC x ids).2 (by rw [a2, List.length_drop]; omega)
      rw [nameL_cons]
      refine ⟨by rw [szL_cons, szL_cons, a1, b1], by rw [b2, a2, List.drop_drop, nlvL_cons], ?_, by simp [b4]⟩
      have e : ∀ y ys, panesL (y :: ys) = panes y ++ panesL ys := fun y ys => by rw [← panesL_one y, ← panesL_app]; rfl
      have hlen : (panes x).length = nlv x := by unfold panes nlv; rw [List.length_map]
      rw [e, e, a3, b3, a2, zip_app named _ _ _ (by omega), hlen]
theorem nameL_app (x : S26) : ∀ (pre : List S26) (ids : List Int), nameL (pre ++ [x]) ids = ((nameL pre ids).1 ++ [(nameC x (nameL pre ids).2).1], (nameC x (nameL pre ids).2).2) := by
  intro pre
  induction pre with
  | nil => intro ids; rw [List.nil_append, nameL_cons, nameL_nil, nameL_nil]; rfl
  | cons y ys ih => intro ids; rw [List.cons_append, nameL_cons, nameL_cons, ih]; rfl
theorem nameL_len : ∀ (l : List S26) (ids : List Int), (nameL l ids).1.length = l.length := by
  intro l
  induction l with
  | nil => intro ids; rw [nameL_nil]
  | cons y ys ih => intro ids; rw [nameL_cons]; simp [ih]
def nameT (c : S26) (ids : List Int) : Int × Int × Int × Int × Int × Int × (List S26) × List Int := ((nameC c ids).1.f0, (nameC c ids).1.f1.f0, (nameC c ids).1.f1.f1, (nameC c ids).1.f1.f2, (nameC c ids).1.f1.f3, (nameC c ids).1.f2, (nameC c ids).1.f3, (nameC c ids).2)
theorem name_ev : ∀ (N : Nat) (c : S26), sz c ≤ N → N ≤ 1000000 → ∀ ids : List Int, nlv c ≤ ids.length → Ev (fun k => flat_name.f k c.f0 c.f1.f0 c.f1.f1 c.f1.f2 c.f1.f3 c.f2 c.f3 ids) (nameT c ids) := by
  intro N
  induction N with
  | zero => intro c h _; rw [sz_eq] at h; omega
  | succ N ih =>
    intro c hc hN ids hids
    have hs := sz_eq c
    have hn := nlv_eq c
    have hlen := szL_len c.f3
    have key : ∀ (d : Int) (ids : List Int), nlvL c.f3 ≤ ids.length → ∀ (rest pre : List S26), pre ++ rest = c.f3 → Ev (fun k => flat_name.l0 k (nameL pre ids).2 (c.f3.length : Int) (pre.length : Int) c.f0 c.f1.f0 c.f1.f1 c.f1.f2 c.f1.f3 d ((nameL pre ids).1 ++ rest)) (c.f0, c.f1.f0, c.f1.f1, c.f1.f2, c.f1.f3, d, (nameL c.f3 ids).1, (nameL c.f3 ids).2) := by
      intro d ids hids rest
      induction rest with
      | nil =>
        intro pre hp
        rw [List.append_nil] at hp
        subst hp
        rw [List.append_nil]
        refine Ev.step (f := fun _ => some (c.f0, c.f1.f0, c.f1.f1, c.f1.f2, c.f1.f3, d, (nameL c.f3 ids).1, (nameL c.f3 ids).2)) (fun k => ?_) (Ev.now _)
        simp only [flat_name.l0]
        rw [if_neg (by omega)]
      | cons x xs ihr =>
        intro pre hp
        have hl : (pre.length : Int) < (c.f3.length : Int) := by rw [← hp, List.length_append, List.length_cons]; omega
        have hsum : szL c.f3 = szL pre + (sz x + szL xs) := by rw [← hp, szL_app, szL_cons]
        have hnl : nlvL c.f3 = nlvL pre + (nlv x + nlvL xs) := by
          rw [← hp]
          unfold nlvL nlv leavesC
          rw [allL_app, allL_cons, List.filter_append, List.filter_append, List.length_append, List.length_append]
        have hpre := (name_facts (szL pre)).2 pre (Nat.le_refl _) ids (by omega)
        have hpl : (nameL pre ids).1.length = pre.length := nameL_len pre ids
        have e2 := ihr (pre ++ [x]) (by rw [List.append_assoc]; exact hp)
        have hr : rd_T26 ((nameL pre ids).1 ++ x :: xs) (pre.length : Int) = x := by rw [← hpl]; exact rd26_in _ x xs
        have hu : wrap64 ((pre.length : Int) + 1) = ((pre ++ [x]).length : Int) := up_in pre x xs (by rw [hp]; omega)
        have hx := ih x (by omega) (by omega) (nameL pre ids).2 (by rw [hpre.2.1, List.length_drop]; omega)
        have hll : (pre.length : Int) < (((nameL pre ids).1 ++ x :: xs).length : Int) := by rw [List.length_append, hpl, List.length_cons]; omega
        have hset : ((nameL pre ids).1 ++ x :: xs).set (pre.length : Int).toNat (nameC x (nameL pre ids).2).1 = (nameL (pre ++ [x]) ids).1 ++ xs := by
          rw [nameL_app, Int.toNat_natCast, ← hpl, List.set_append_right _ _ (Nat.le_refl _), Nat.sub_self, List.set_cons_zero]
          simp
        refine Ev.step (f := fun k => (flat_name.f k x.f0 x.f1.f0 x.f1.f1 x.f1.f2 x.f1.f3 x.f2 x.f3 (nameL pre ids).2).bind fun bt => flat_name.l0 k bt.2.2.2.2.2.2.2 (c.f3.length : Int) (wrap64 ((pre.length : Int) + 1)) c.f0 c.f1.f0 c.f1.f1 c.f1.f2 c.f1.f3 d (((nameL pre ids).1 ++ x :: xs).set (pre.length : Int).toNat (⟨bt.1, (⟨bt.2.1, bt.2.2.1, bt.2.2.2.1, bt.2.2.2.2.1⟩ : S23), bt.2.2.2.2.2.1, bt.2.2.2.2.2.2.1⟩ : S26))) (fun k => ?_) (Ev.bind hx ?_)
        · simp only [flat_name.l0]
          rw [if_pos hl, if_pos (by omega), if_pos hll, hr]
        · simp only [nameT, eta26]
          rw [hset, hu]
          rw [nameL_app] at e2 ⊢
          exact e2
    have kj : ∀ (d : Int) (ids : List Int), nlvL c.f3 ≤ ids.length → Ev (fun k => flat_name.j0 k ids c.f0 c.f1.f0 c.f1.f1 c.f1.f2 c.f1.f3 d c.f3) (c.f0, c.f1.f0, c.f1.f1, c.f1.f2, c.f1.f3, d, (nameL c.f3 ids).1, (nameL c.f3 ids).2) := by
      intro d ids hids
      have e := key d ids hids c.f3 [] rfl
      rw [nameL_nil] at e
      refine Ev.step (f := fun k => (api_Cell_137.f c.f3).bind fun t => flat_name.l0 k ids (t.length : Int) 0 c.f0 c.f1.f0 c.f1.f1 c.f1.f2 c.f1.f3 d t) (fun k => ?_) (Ev.bind (a := c.f3) (ev_some fun k => if_pos (by omega)) e)
      simp only [flat_name.j0]
    unfold nameT
    rw [nameC_eq]
    by_cases h1 : c.f0 = 1
    · rw [if_pos h1] at hn
      simp only [if_pos h1]
      have e := kj (ids.headD 0) (ids.drop 1) (by rw [List.length_drop]; omega)
      have hrd : rd ids 0 = ids.headD 0 := by cases ids <;> rfl
      refine Ev.step (fun k => ?_) e
      simp only [flat_name.f]
      rw [if_pos h1, if_pos (by omega), if_pos (by omega), hrd]
    · rw [if_neg h1] at hn
      simp only [if_neg h1]
      refine Ev.step (fun k => ?_) (kj c.f2 ids (by omega))
      simp only [flat_name.f]
      rw [if_neg h1]
end Go.Proofs.Ytfdmfgaiblfbhaa.P
/- The leaves' numbers, by the code: plain data. -/
namespace Go.Proofs.Ytfdmfgaiblfbhaa.P
open Go.RowKit Go.Proofs.YtfdmfgaiblfbhaaW.PrintWords Go.Proofs.YtfdmfgaiblfbhaaW.PrintLast Go.Proofs.YtfdmfgaiblfbhaaW.PrintMore

def idsL (l : List S26) : List Int := ((allL l).filter fun x => decide (x.f0 = 1)).map (·.f2)
theorem idsL_app (a b : List S26) : idsL (a ++ b) = idsL a ++ idsL b := by
  unfold idsL
  rw [allL_app, List.filter_append, List.map_append]
theorem idsL_one (x : S26) : idsL [x] = (if x.f0 = 1 then [x.f2] else []) ++ idsL x.f3 := by
  unfold idsL
  rw [allL_cons, allL_nil, List.append_nil, allC_eq]
  by_cases h : x.f0 = 1
  · rw [if_pos h, List.filter_cons_of_pos (by simpa using h)]
    rfl
  · rw [if_neg h, List.filter_cons_of_neg (by simpa using h)]
    rfl
theorem idsL_len (l : List S26) : (idsL l).length ≤ szL l := by unfold idsL; rw [List.length_map]; exact List.length_filter_le _ _
theorem cell_leaves_ev : ∀ (N : Nat) (l : List S26), szL l ≤ N → N ≤ 1048576 → Ev (fun k => cell_Leaves.f k l) (idsL l) := by
  intro N
  induction N with
  | zero =>
    intro l h _
    cases l with
    | nil =>
      refine ⟨2, fun k hk => ?_⟩
      obtain ⟨m, rfl⟩ : ∃ m, k = m + 2 := ⟨k - 2, by omega⟩
      simp [cell_Leaves.f, cell_Leaves.l0, idsL, allL_nil]
    | cons x xs => rw [szL_cons, sz_eq] at h; omega
  | succ N ih =>
    intro l hl hN
    have hlen := szL_len l
    have key : ∀ (rest pre : List S26), pre ++ rest = l → Ev (fun k => cell_Leaves.l0 k (idsL pre) l (l.length : Int) (pre.length : Int)) (idsL l) := by
      intro rest
      induction rest with
      | nil =>
        intro pre hp
        rw [List.append_nil] at hp
        refine Ev.step (f := fun _ => some (idsL l)) (fun k => ?_) (Ev.now _)
        simp only [cell_Leaves.l0]
        rw [if_neg (by rw [hp]; omega), hp]
      | cons x xs ihr =>
        intro pre hp
        have hs := sz_eq x
        have hlt : (pre.length : Int) < (l.length : Int) := by rw [← hp, List.length_append, List.length_cons]; omega
        have hsum : szL l = szL pre + (sz x + szL xs) := by rw [← hp, szL_app, szL_cons]
        have e2 := ihr (pre ++ [x]) (by rw [List.append_assoc]; exact hp)
        have hr : rd_T26 l (pre.length : Int) = x := by rw [← hp]; exact rd26_in pre x xs
        have hu : wrap64 ((pre.length : Int) + 1) = ((pre ++ [x]).length : Int) := up_in pre x xs (by rw [hp]; omega)
        have h1 := idsL_len pre
        have h2 := idsL_len x.f3
        rw [idsL_app, idsL_one] at e2
        have hx := ih x.f3 (by omega) (by omega)
        by_cases hk : x.f0 = 1
        · rw [if_pos hk, ← List.append_assoc] at e2
          have hb : (idsL pre ++ [x.f2]).length + (idsL x.f3).length < 17592186044416 := by rw [List.length_append, List.length_singleton]; omega
          refine Ev.step (f := fun k => (cell_Leaves.f k x.f3).bind fun t => (if (idsL pre ++ [x.f2]).length + t.length < 17592186044416 then (cell_Leaves.l0 k ((idsL pre ++ [x.f2]) ++ t) l (l.length : Int) ((pre ++ [x]).length : Int)) else none)) (fun k => ?_) (Ev.bind hx (ev_pos hb e2))
          simp only [cell_Leaves.l0]
          rw [if_pos hlt, if_pos (by omega), if_pos hlt, hr, if_pos hk, if_pos (by omega), Option.bind_some, hu]
        · rw [if_neg hk, List.nil_append] at e2
          refine Ev.step (f := fun k => (cell_Leaves.f k x.f3).bind fun t => (if (idsL pre).length + t.length < 17592186044416 then (cell_Leaves.l0 k (idsL pre ++ t) l (l.length : Int) ((pre ++ [x]).length : Int)) else none)) (fun k => ?_) (Ev.bind hx (ev_pos (by omega) e2))
          simp only [cell_Leaves.l0]
          rw [if_pos hlt, if_pos (by omega), if_pos hlt, hr, if_neg hk, hu]
    refine Ev.step (fun k => ?_) (key l [] rfl)
    simp only [cell_Leaves.f]
    unfold idsL
    rw [allL_nil]
    rfl
end Go.Proofs.Ytfdmfgaiblfbhaa.P
namespace Go.Proofs.Ytfdmfgaiblfbhaa.P
open Go.RowKit Go.Proofs.YtfdmfgaiblfbhaaW.PrintWords Go.Proofs.YtfdmfgaiblfbhaaW.PrintLast Go.Proofs.YtfdmfgaiblfbhaaW.PrintMore
attribute [local go_sem] max2_int min2_int max_two min_two max_three min_three max_four min_four   -- for this text's walks alone
set_option linter.unusedVariables false
set_option linter.unusedSimpArgs false

/-! ### sashref05_Ints: function 51 -/
def sashref05_Ints.l0 : Nat → List Int → List Int → Int → Int → Option (Bool)
  | 0, _, _, _, _ => none
  | k + 1, x0, x1, x12, x13 => if x13 < x12 then (if 0 ≤ x13 then (if x13 < (x0.length : Int) then (if x13 < (x1.length : Int) then (if (rd x0 x13) = (rd x1 x13) then (sashref05_Ints.l0 k x0 x1 x12 (wrap64 (x13 + 1))) else (some false)) else (none)) else (none)) else (none)) else (some true)
def sashref05_Ints.f (k : Nat) (l0 : List Int) (l1 : List Int) : Option (Bool) := if (l0.length : Int) = (l1.length : Int) then (sashref05_Ints.l0 k l0 l1 (l0.length : Int) 0) else (some false)
theorem sashref05_Ints.mono_l : ∀ k, (∀ y0 y1 y2 y3, LeO (sashref05_Ints.l0 k y0 y1 y2 y3) (sashref05_Ints.l0 (k + 1) y0 y1 y2 y3))
  | 0 => fun _ _ _ _ r h => by simp [sashref05_Ints.l0] at h
  | k + 1 => by
    have ih0 := sashref05_Ints.mono_l k
    · intro y0 y1 y2 y3
      unfold sashref05_Ints.l0
      repeat' first
      | (with_reducible exact ih0 _ _ _ _)
      | (with_reducible exact LeO.refl _)
      | (with_reducible exact LeO.none _)
      | (with_reducible refine LeO.ite ?_ ?_)
      | (with_reducible refine LeO.bind ?_ (fun _ => ?_))
      | exact ih0 _ _ _ _
      | exact LeO.none _
      | refine LeO.ite ?_ ?_
      | refine LeO.bind ?_ (fun _ => ?_)
theorem sashref05_Ints.mono : ∀ a0 a1 k, LeO (sashref05_Ints.f k a0 a1) (sashref05_Ints.f (k + 1) a0 a1) := by
  intro a0 a1 k
  have ih0 := sashref05_Ints.mono_l k
  unfold sashref05_Ints.f
  repeat' first
      | (with_reducible exact ih0 _ _ _ _)
      | (with_reducible exact LeO.refl _)
      | (with_reducible exact LeO.none _)
      | (with_reducible refine LeO.ite ?_ ?_)
      | (with_reducible refine LeO.bind ?_ (fun _ => ?_))
      | exact ih0 _ _ _ _
      | exact LeO.none _
      | refine LeO.ite ?_ ?_
      | refine LeO.bind ?_ (fun _ => ?_)
set_option maxHeartbeats 8000000 in
set_option maxRecDepth 100000 in
theorem sashref05_Ints.calls (k : Nat) (A0 : Option Addr) (c0 : Nat) (l0 : List Int) (A1 : Option Addr) (c1 : Nat) (l1 : List Int) (r : Bool) (w : World) (hr0 : Kd.C (Kd.int .i64) w A0 l0.length l0) (hc0 : l0.length ≤ c0) (hr1 : Kd.C (Kd.int .i64) w A1 l1.length l1) (hc1 : l1.length ≤ c1) (h : sashref05_Ints.f k l0 l1 = some r) :
    Calls Try.prog 51 #[.slice A0 l0.length c0, .slice A1 l1.length c1] w fun e w' => e = .returned (.bool r) ∧ Drawn0 w w' := by
  have HR0 := Aside0.mk hr0
  have HC0 := Aside0.mk hc0
  clear hr0 hc0
  have HR1 := Aside0.mk hr1
  have HC1 := Aside0.mk hc1
  clear hr1 hc1
  have H : (if (l0.length : Int) = (l1.length : Int) then (sashref05_Ints.l0 k l0 l1 (l0.length : Int) 0) else (some false)) = some r := h
  clear h
  by_cases c3 : (l0.length : Int) = (l1.length : Int)
  · rw [if_pos c3] at H
    have c3b0 : ((l0.length : Int) == (l1.length : Int)) = true := beq_iff_eq.mpr c3
    have c3b1 : ((l0.length : Int) != (l1.length : Int)) = false := bne_eq_false_iff_eq.mpr c3
    have c3b2 : (l0.length == l1.length) = true := by first | simpa using c3 | (simp at c3 ⊢; omega)
    clear c3
    have H' := Aside0.mk H
    clear H
    go_enter Try.func51, Try.ntmps51
    go_wp2
    repeat (go_quiet (fail); try go_wp2)
    go_loopg [13] k (fun kq v13 w' => ∃ (x13_1 : Int), v13 = .int .i64 x13_1 ∧ Aside0 (sashref05_Ints.l0 kq l0 l1 (l0.length : Int) x13_1 = some r) ∧ Aside0 (kq ≤ k) ∧ Drawn0 w w')
    case atStart => exact ⟨(0), (by first | rfl | (simp; done) | (simp [*]; done)), H', ⟨Nat.le_refl _⟩, by repeat (first | exact Drawn0.refl _ | apply Drawn0.step)⟩
    case round =>
      clear H'
      try clear c1
      try clear p2
      try clear c3
      try clear c3b0
      try clear c3b1
      try clear c3b2
      obtain ⟨x13_1, rfl, HA, HK1, ⟨m1, rfl⟩⟩ := hrel
      cases gk with
      | zero => exact absurd HA.out (by simp [sashref05_Ints.l0])
      | succ k1 =>
        have H := HA.out
        clear HA
        simp only [sashref05_Ints.l0] at H
        by_cases c4 : x13_1 < (l0.length : Int)
        · rw [if_pos c4] at H
          have c4b0 : decide (x13_1 < (l0.length : Int)) = true := decide_eq_true c4
          clear c4
          by_cases c5 : 0 ≤ x13_1
          · rw [if_pos c5] at H
            have c5b0 : decide (0 ≤ x13_1) = true := decide_eq_true c5
            clear c5
            by_cases c6 : x13_1 < (l0.length : Int)
            · rw [if_pos c6] at H
              have c6b0 : decide (x13_1 < (l0.length : Int)) = true := decide_eq_true c6
              clear c6
              by_cases c7 : x13_1 < (l1.length : Int)
              · rw [if_pos c7] at H
                have c7b0 : decide (x13_1 < (l1.length : Int)) = true := decide_eq_true c7
                clear c7
                by_cases c8 : (rd l0 x13_1) = (rd l1 x13_1)
                · rw [if_pos c8] at H
                  have c8b0 : ((rd l0 x13_1) == (rd l1 x13_1)) = true := beq_iff_eq.mpr c8
                  have c8b1 : ((rd l0 x13_1) != (rd l1 x13_1)) = false := bne_eq_false_iff_eq.mpr c8
                  clear c8
                  have H' := Aside0.mk H
                  clear H
                  have p362 : 0 ≤ (x13_1 : Int) := of_decide_eq_true (by first | (with_reducible assumption) | assumption)
                  have q362 : x13_1 < (l0.length : Int) := of_decide_eq_true (by first | (with_reducible assumption) | assumption)
                  obtain ⟨ad362, e362, hx362_0⟩ := Kd.at_int HR0.out x13_1 p362 q362
                  cases e362
                  replace p362 := eq_true p362
                  replace q362 := eq_true q362
                  have p363 : 0 ≤ (x13_1 : Int) := of_decide_eq_true (by first | (with_reducible assumption) | assumption)
                  have q363 : x13_1 < (l1.length : Int) := of_decide_eq_true (by first | (with_reducible assumption) | assumption)
                  obtain ⟨ad363, e363, hx363_0⟩ := Kd.at_int HR1.out x13_1 p363 q363
                  cases e363
                  replace p363 := eq_true p363
                  replace q363 := eq_true q363
                  go_wp2
                  repeat (go_quiet (fail); try go_wp2)
                  go_roundg k1
                  case measure => have := HK1.out; omega
                  case rel => exact ⟨(wrap64 (x13_1 + 1)), (by first | rfl | (simp; done) | (simp [*]; done)), H', ⟨by have := HK1.out; omega⟩, by repeat (first | exact Drawn0.refl _ | apply Drawn0.step)⟩
                · rw [if_neg c8] at H
                  have c8b0 : ((rd l0 x13_1) == (rd l1 x13_1)) = false := beq_eq_false_iff_ne.mpr c8
                  have c8b1 : ((rd l0 x13_1) != (rd l1 x13_1)) = true := bne_iff_ne.mpr c8
                  obtain rfl := Option.some.inj H
                  have p362 : 0 ≤ (x13_1 : Int) := of_decide_eq_true (by first | (with_reducible assumption) | assumption)
                  have q362 : x13_1 < (l0.length : Int) := of_decide_eq_true (by first | (with_reducible assumption) | assumption)
                  obtain ⟨ad362, e362, hx362_0⟩ := Kd.at_int HR0.out x13_1 p362 q362
                  cases e362
                  replace p362 := eq_true p362
                  replace q362 := eq_true q362
                  have p363 : 0 ≤ (x13_1 : Int) := of_decide_eq_true (by first | (with_reducible assumption) | assumption)
                  have q363 : x13_1 < (l1.length : Int) := of_decide_eq_true (by first | (with_reducible assumption) | assumption)
                  obtain ⟨ad363, e363, hx363_0⟩ := Kd.at_int HR1.out x13_1 p363 q363
                  cases e363
                  replace p363 := eq_true p363
                  replace q363 := eq_true q363
                  go_wp2
                  repeat (go_quiet (fail); try go_wp2)
                  go_ret
                  exact ⟨by first | rfl | (simp; done) | (simp [*]; done), by repeat (first | exact Drawn0.refl _ | apply Drawn0.step)⟩
              · rw [if_neg c7] at H
                exact absurd H (by simp)
            · rw [if_neg c6] at H
              exact absurd H (by simp)
          · rw [if_neg c5] at H
            exact absurd H (by simp)
        · rw [if_neg c4] at H
          have c4b0 : decide (x13_1 < (l0.length : Int)) = false := decide_eq_false c4
          clear c4
          obtain rfl := Option.some.inj H
          go_wp2
          repeat (go_quiet (fail); try go_wp2)
          go_ret
          exact ⟨by first | rfl | (simp; done) | (simp [*]; done), by repeat (first | exact Drawn0.refl _ | apply Drawn0.step)⟩
  · rw [if_neg c3] at H
    have c3b0 : ((l0.length : Int) == (l1.length : Int)) = false := beq_eq_false_iff_ne.mpr c3
    have c3b1 : ((l0.length : Int) != (l1.length : Int)) = true := bne_iff_ne.mpr c3
    have c3b2 : (l0.length == l1.length) = false := by first | simpa using c3 | (simp at c3 ⊢; omega)
    obtain rfl := Option.some.inj H
    go_enter Try.func51, Try.ntmps51
    go_wp2
    repeat (go_quiet (fail); try go_wp2)
    go_ret
    exact ⟨by first | rfl | (simp; done) | (simp [*]; done), by repeat (first | exact Drawn0.refl _ | apply Drawn0.step)⟩

end Go.Proofs.Ytfdmfgaiblfbhaa.P
namespace Go.Proofs.Ytfdmfgaiblfbhaa.P
open Go.RowKit Go.Proofs.YtfdmfgaiblfbhaaW.PrintWords Go.Proofs.YtfdmfgaiblfbhaaW.PrintLast Go.Proofs.YtfdmfgaiblfbhaaW.PrintMore
attribute [local go_sem] max2_int min2_int max_two min_two max_three min_three max_four min_four   -- for this text's walks alone
set_option linter.unusedVariables false
set_option linter.unusedSimpArgs false

/-! ### sashref05_IDs: function 63 -/
def sashref05_IDs.l0 : Nat → List Int → List (S26) → Int → Int → Option (List Int)
  | 0, _, _, _, _ => none
  | k + 1, x3, x4, x10, x11 => if x11 < x10 then (if 0 ≤ x11 then (if x11 < (x4.length : Int) then (if x3.length < 17592186044416 then (sashref05_IDs.l0 k (x3 ++ [(rd_T26 x4 x11).f2]) x4 x10 (wrap64 (x11 + 1))) else (none)) else (none)) else (none)) else (some x3)
def sashref05_IDs.f (k : Nat) (a0_0 : Int) (a0_1 : Int) (a0_2 : Int) (a0_3 : Int) (a0_4 : Int) (a0_5 : Int) (l0_6 : List (S26)) : Option (List Int) := (sashref05_Leaves.f k a0_0 a0_1 a0_2 a0_3 a0_4 a0_5 l0_6).bind fun t593 => (sashref05_IDs.l0 k (([] : List Int)) t593 (t593.length : Int) 0)
theorem sashref05_IDs.mono_l : ∀ k, (∀ y0 y1 y2 y3, LeO (sashref05_IDs.l0 k y0 y1 y2 y3) (sashref05_IDs.l0 (k + 1) y0 y1 y2 y3))
  | 0 => fun _ _ _ _ r h => by simp [sashref05_IDs.l0] at h
  | k + 1 => by
    have ih0 := sashref05_IDs.mono_l k
    · intro y0 y1 y2 y3
      unfold sashref05_IDs.l0
      repeat' first
      | (with_reducible exact ih0 _ _ _ _)
      | (with_reducible exact sashref05_Leaves.mono _ _ _ _ _ _ _ _)
      | (with_reducible exact LeO.refl _)
      | (with_reducible exact LeO.none _)
      | (with_reducible refine LeO.ite ?_ ?_)
      | (with_reducible refine LeO.bind ?_ (fun _ => ?_))
      | exact ih0 _ _ _ _
      | exact sashref05_Leaves.mono _ _ _ _ _ _ _ _
      | exact LeO.none _
      | refine LeO.ite ?_ ?_
      | refine LeO.bind ?_ (fun _ => ?_)
theorem sashref05_IDs.mono : ∀ a0 a1 a2 a3 a4 a5 a6 k, LeO (sashref05_IDs.f k a0 a1 a2 a3 a4 a5 a6) (sashref05_IDs.f (k + 1) a0 a1 a2 a3 a4 a5 a6) := by
  intro a0 a1 a2 a3 a4 a5 a6 k
  have ih0 := sashref05_IDs.mono_l k
  unfold sashref05_IDs.f
  repeat' first
      | (with_reducible exact ih0 _ _ _ _)
      | (with_reducible exact sashref05_Leaves.mono _ _ _ _ _ _ _ _)
      | (with_reducible exact LeO.refl _)
      | (with_reducible exact LeO.none _)
      | (with_reducible refine LeO.ite ?_ ?_)
      | (with_reducible refine LeO.bind ?_ (fun _ => ?_))
      | exact ih0 _ _ _ _
      | exact sashref05_Leaves.mono _ _ _ _ _ _ _ _
      | exact LeO.none _
      | refine LeO.ite ?_ ?_
      | refine LeO.bind ?_ (fun _ => ?_)
set_option maxHeartbeats 8000000 in
set_option maxRecDepth 100000 in
theorem sashref05_IDs.calls (k : Nat) (a0_0 : Int) (a0_1 : Int) (a0_2 : Int) (a0_3 : Int) (a0_4 : Int) (a0_5 : Int) (A0_6 : Option Addr) (c0_6 : Nat) (l0_6 : List (S26)) (r : List Int) (w : World) (hr0_6 : Kd.C k26 w A0_6 l0_6.length l0_6) (hc0_6 : l0_6.length ≤ c0_6) (h : sashref05_IDs.f k a0_0 a0_1 a0_2 a0_3 a0_4 a0_5 l0_6 = some r) :
    Calls Try.prog 63 #[.agg #[.int .u8 a0_0, .int .i64 a0_1, .int .i64 a0_2, .int .i64 a0_3, .int .i64 a0_4, .int .i64 a0_5, .slice A0_6 l0_6.length c0_6]] w fun e w' => ∃ v0_ : Value, e = .returned (v0_) ∧ Kd.R (Kd.int .i64) 3 w' w.heap.size (fun _ => True) v0_ r ∧ Below w.heap.size w w' := by
  have hu26 := Try.underlying26
  have HR0_6 := Aside0.mk hr0_6
  have HC0_6 := Aside0.mk hc0_6
  clear hr0_6 hc0_6
  have HB := Aside0.mk (Below.refl w.heap.size w)
  have H : ((sashref05_Leaves.f k a0_0 a0_1 a0_2 a0_3 a0_4 a0_5 l0_6).bind fun t593 => (sashref05_IDs.l0 k (([] : List Int)) t593 (t593.length : Int) 0)) = some r := h
  clear h
  obtain ⟨y590, hy590⟩ : ∃ y_ : List Int, y_ = (([] : List Int)) := ⟨_, rfl⟩
  replace H : ((sashref05_Leaves.f k a0_0 a0_1 a0_2 a0_3 a0_4 a0_5 l0_6).bind fun t593 => (sashref05_IDs.l0 k y590 t593 (t593.length : Int) 0)) = some r := by first | (rw [hy590]; with_reducible exact H) | (have H2_ := (Option.bind_some _ _).symm.trans H; rw [hy590]; with_reducible exact H2_) | (have H2_ := (Option.bind_some _ _).symm.trans H; with_reducible exact H2_) | with_reducible exact H | (rw [hy590]; exact H) | exact H
  have Ny590 := Aside0.mk hy590
  clear hy590
  replace H := Option.bind_eq_some_iff.mp H
  obtain ⟨t593, A20, H⟩ := H
  replace H : (sashref05_IDs.l0 k y590 t593 (t593.length : Int) 0) = some r := H
  have A2 := Aside0.mk A20
  clear A20
  have H' := Aside0.mk H
  clear H
  go_enter Try.func63, Try.ntmps63
  go_wp2_with (first | ((with_reducible refine gate_dst (N := 1) rfl ?_); refine box_event ?hg (N := 1) ?hd (cs := #[.int .u8 a0_0, .int .i64 a0_1, .int .i64 a0_2, .int .i64 a0_3, .int .i64 a0_4, .int .i64 a0_5, .slice A0_6 l0_6.length c0_6]) (t := 26) ?hr ?_; (case hd => rfl); (case hg => rfl); (case hr => first | (go_simp; done) | (go_simp; rfl)); intro gb589 hg w3 hbox hb; have n0_ := Aside0.mk (below_step (by repeat (first | (with_reducible first | exact HB.out | apply below_alloc | apply pw_below_drewN | apply below_drew1) | exact HB.out)) hb); have n1_ := Aside0.mk (hbox); have n2_ := Aside0.mk ((by rw [hg]; exact (below_size (by repeat (first | (with_reducible first | exact HB.out | apply below_alloc | apply pw_below_drewN | apply below_drew1) | exact HB.out))) : w.heap.size ≤ gb589)); have n3_ := Aside0.mk ((by rw [hg]; exact (below_size (by repeat (first | (with_reducible first | exact HB.out | apply below_alloc | apply pw_below_drewN | apply below_drew1) | exact HB.out))) : w.heap.size ≤ gb589)); clear HB; have HB := n0_; have BK589 := n1_; have GW589 := n2_; have GE589 := n3_; clear n0_ n1_ n2_ n3_; clear hb hbox hg) | ((with_reducible refine gate_dst (N := 6) rfl ?_); refine Kd.R_lit (Kd.int .i64) _ 3 ?hg (N := 6) ?hd (xs := ([] : List Int)) (inner := []) (ok := fun _ => True) (okp := fun _ => True) ?hr ?hp (fun _ hk => hk) trivial (Below.refl _ _) (Nat.le_refl _) (by simp) ?_; (case hd => rfl); (case hg => rfl); (case hr => first | (go_simp; done) | (go_simp; rfl)); (case hp => exact (Reps.none _ _)); intro v591 w4 ho5 hb hg_ hnew_; clear hg_ hnew_; (first | rw [← Ny590.out] at ho5 | (simp only [Int.reduceToNat] at ho5; rw [← Ny590.out] at ho5)); have n0_ := Aside0.mk (Kd.R_lower ho5 (below_size (by repeat (first | (with_reducible first | exact HB.out | apply below_alloc | apply pw_below_drewN | apply below_drew1 | refine below_set ?_ GE589.out) | exact HB.out)))); have n1_ := Aside0.mk (blk_below (g := gb589) (o := .cells #[.int .u8 a0_0, .int .i64 a0_1, .int .i64 a0_2, .int .i64 a0_3, .int .i64 a0_4, .int .i64 a0_5, .slice A0_6 l0_6.length c0_6] 26 (0, 0)) (by (with_reducible repeat (first | refine blk_drewN ?_ _ | refine blk_drew ?_ | refine blk_alloc ?_ _)); exact BK589.out) hb); have n2_ := Aside0.mk (below_step (by repeat (first | (with_reducible first | exact HB.out | apply below_alloc | apply pw_below_drewN | apply below_drew1 | refine below_set ?_ GE589.out) | exact HB.out)) hb); clear BK589; clear HB; have HO592 := n0_; have BK589 := n1_; have HB := n2_; clear n0_ n1_ n2_; clear hb ho5; have hcz6_0 : w4.cell? ⟨gb589, 0, none⟩ = some (.int .u8 a0_0) := (blk_cell BK589.out 0).trans rfl; have hcz6_1 : w4.cell? ⟨gb589, 1, none⟩ = some (.int .i64 a0_1) := (blk_cell BK589.out 1).trans rfl; have hcz6_2 : w4.cell? ⟨gb589, 2, none⟩ = some (.int .i64 a0_2) := (blk_cell BK589.out 2).trans rfl; have hcz6_3 : w4.cell? ⟨gb589, 3, none⟩ = some (.int .i64 a0_3) := (blk_cell BK589.out 3).trans rfl; have hcz6_4 : w4.cell? ⟨gb589, 4, none⟩ = some (.int .i64 a0_4) := (blk_cell BK589.out 4).trans rfl; have hcz6_5 : w4.cell? ⟨gb589, 5, none⟩ = some (.int .i64 a0_5) := (blk_cell BK589.out 5).trans rfl; have hcz6_6 : w4.cell? ⟨gb589, 6, none⟩ = some (.slice A0_6 l0_6.length c0_6) := (blk_cell BK589.out 6).trans rfl; have hfz6_0 := blk_frozen BK589.out 0; have hfz6_1 := blk_frozen BK589.out 1; have hfz6_2 := blk_frozen BK589.out 2; have hfz6_3 := blk_frozen BK589.out 3; have hfz6_4 := blk_frozen BK589.out 4; have hfz6_5 := blk_frozen BK589.out 5; have hfz6_6 := blk_frozen BK589.out 6) | ((with_reducible refine gate_callee (f := 126) rfl ?_); refine goesL_ (some 8) rfl rfl Try.func126 (by kernel_rfl) rfl #[.agg #[.int .u8 a0_0, .int .i64 a0_1, .int .i64 a0_2, .int .i64 a0_3, .int .i64 a0_4, .int .i64 a0_5, .slice A0_6 l0_6.length c0_6]] rfl (by (try simp only [List.map_toArray, List.map_cons, List.map_nil]); first | done | rfl | (simp only [List.length_drop, List.length_take]; rfl)) ?_; (with_reducible refine (sashref05_Leaves.calls k a0_0 a0_1 a0_2 a0_3 a0_4 a0_5 (fun k_ => k_ < w.heap.size) _ _ l0_6 t593 _ ?side1 A2.out).mono ?_); (case side1 => exact Kd.V_mk HC0_6.out (Kd.F_below (Kd.C_F k26_heap HR0_6.out) (by repeat (first | (with_reducible first | exact HB.out | apply below_alloc | apply pw_below_drewN | apply below_drew1 | refine below_set ?_ GE589.out) | exact HB.out)))); rintro e w7 ⟨v594, rfl, ho0, hb⟩; refine ⟨_, rfl, ?_⟩; have n0_ := Aside0.mk (Kd.R_below (by (with_reducible repeat (first | apply Kd.R_alloc | apply Kd.R_drewN | apply Kd.R_drew)); exact HO592.out) hb); have n1_ := Aside0.mk (Kd.N_lower (Kd.N_mono (ok' := fun k_ => some k_ ≠ (v591 : Value).ownBlock ∧ k_ ≠ gb589) ho0 (fun k_ hk_ => ⟨Or.elim hk_ (fun hs_ => fun e_ => Nat.not_le.2 hs_ (Kd.R_base HO592.out k_ e_.symm)) (fun hn_ => (Kd.fresh' (Kd.R_lt (by (with_reducible repeat (first | apply Kd.R_alloc | apply Kd.R_drewN | apply Kd.R_drew)); exact HO592.out)) k_ hn_)), Or.elim hk_ (fun hs_ => fun e_ => Nat.not_le.2 hs_ (by rw [e_]; exact GW589.out)) (fun hn_ => (Kd.freshB (g := gb589) (o := .cells #[.int .u8 a0_0, .int .i64 a0_1, .int .i64 a0_2, .int .i64 a0_3, .int .i64 a0_4, .int .i64 a0_5, .slice A0_6 l0_6.length c0_6] 26 (0, 0)) (by (with_reducible repeat (first | refine blk_drewN ?_ _ | refine blk_drew ?_ | refine blk_alloc ?_ _)); exact BK589.out) k_ hn_))⟩)) (below_size (by repeat (first | (with_reducible first | exact HB.out | apply below_alloc | apply pw_below_drewN | apply below_drew1 | refine below_set ?_ GE589.out) | exact HB.out)))); have n2_ := Aside0.mk (blk_below (g := gb589) (o := .cells #[.int .u8 a0_0, .int .i64 a0_1, .int .i64 a0_2, .int .i64 a0_3, .int .i64 a0_4, .int .i64 a0_5, .slice A0_6 l0_6.length c0_6] 26 (0, 0)) (by (with_reducible repeat (first | refine blk_drewN ?_ _ | refine blk_drew ?_ | refine blk_alloc ?_ _)); exact BK589.out) hb); have n3_ := Aside0.mk (below_step (by repeat (first | (with_reducible first | exact HB.out | apply below_alloc | apply pw_below_drewN | apply below_drew1 | refine below_set ?_ GE589.out) | exact HB.out)) hb); clear HO592; clear BK589; clear HB; have HO592 := n0_; have HO595 := n1_; have BK589 := n2_; have HB := n3_; clear n0_ n1_ n2_ n3_; (try clear hb); (try clear hb2); (try clear hk); (try clear hi); (try clear ho0); obtain ⟨Ao8, co8, eo8⟩ := Kd.N_slice HO595.out; subst eo8))
  go_loopg [3, 11] k (fun kq v3 v11 w' => ∃ (x3_1 : List Int) (x11_1 : Int), v11 = .int .i64 x11_1 ∧ Aside0 (sashref05_IDs.l0 kq x3_1 t593 (t593.length : Int) x11_1 = some r) ∧ Aside0 (kq ≤ k) ∧ Aside0 (Kd.R (Kd.int .i64) 3 w' w.heap.size (fun _ => True) v3 x3_1) ∧ Aside0 (Kd.N k26 26 w' w.heap.size (fun k_ => some k_ ≠ (v3 : Value).ownBlock ∧ k_ ≠ gb589) (.slice Ao8 t593.length co8) t593) ∧ Aside0 (w'.heap[gb589]? = some (.cells #[.int .u8 a0_0, .int .i64 a0_1, .int .i64 a0_2, .int .i64 a0_3, .int .i64 a0_4, .int .i64 a0_5, (.slice A0_6 l0_6.length c0_6)] 26 (0, 0))) ∧ Aside0 (Below w.heap.size w w'))
  case atStart => exact ⟨(y590), (0), (by first | rfl | (simp; done) | (simp [*]; done)), H', ⟨Nat.le_refl _⟩, ⟨by (with_reducible repeat (first | apply Kd.R_alloc | apply Kd.R_drewN | apply Kd.R_drew)); exact HO592.out⟩, ⟨by (with_reducible repeat (first | apply Kd.N_alloc | apply Kd.N_drewN | apply Kd.N_drew)); exact HO595.out⟩, ⟨by (with_reducible repeat (first | refine blk_drewN ?_ _ | refine blk_drew ?_ | refine blk_alloc ?_ _)); exact BK589.out⟩, ⟨by repeat (first | (with_reducible first | exact HB.out | apply below_alloc | apply pw_below_drewN | apply below_drew1 | refine below_set ?_ GE589.out) | exact HB.out)⟩⟩
  case round =>
    clear H'
    try clear c1
    try clear p2
    try clear c6
    try clear hcz6_0
    try clear hcz6_1
    try clear hcz6_2
    try clear hcz6_3
    try clear hcz6_4
    try clear hcz6_5
    try clear hcz6_6
    try clear hfz6_0
    try clear hfz6_1
    try clear hfz6_2
    try clear hfz6_3
    try clear hfz6_4
    try clear hfz6_5
    try clear hfz6_6
    obtain ⟨x3_1, x11_1, rfl, HA, HK1, HO_3, HO_4, BK589, HB⟩ := hrel
    cases gk with
    | zero => exact absurd HA.out (by simp [sashref05_IDs.l0])
    | succ k1 =>
      have H := HA.out
      clear HA
      simp only [sashref05_IDs.l0] at H
      by_cases c9 : x11_1 < (t593.length : Int)
      · rw [if_pos c9] at H
        have c9b0 : decide (x11_1 < (t593.length : Int)) = true := decide_eq_true c9
        clear c9
        by_cases c10 : 0 ≤ x11_1
        · rw [if_pos c10] at H
          have c10b0 : decide (0 ≤ x11_1) = true := decide_eq_true c10
          clear c10
          by_cases c11 : x11_1 < (t593.length : Int)
          · rw [if_pos c11] at H
            have c11b0 : decide (x11_1 < (t593.length : Int)) = true := decide_eq_true c11
            clear c11
            by_cases c12 : x3_1.length < 17592186044416
            · rw [if_pos c12] at H
              have LMc12 := Aside0.mk c12
              clear c12
              obtain ⟨y597, hy597⟩ : ∃ y_ : List Int, y_ = (x3_1 ++ [(rd_T26 t593 x11_1).f2]) := ⟨_, rfl⟩
              replace H : (sashref05_IDs.l0 k1 y597 t593 (t593.length : Int) (wrap64 (x11_1 + 1))) = some r := by first | (rw [hy597]; with_reducible exact H) | (have H2_ := (Option.bind_some _ _).symm.trans H; rw [hy597]; with_reducible exact H2_) | (have H2_ := (Option.bind_some _ _).symm.trans H; with_reducible exact H2_) | with_reducible exact H | (rw [hy597]; exact H) | exact H
              have Ny597 := Aside0.mk hy597
              clear hy597
              have H' := Aside0.mk H
              clear H
              have p596 : 0 ≤ (x11_1 : Int) := of_decide_eq_true (by first | (with_reducible assumption) | assumption)
              have q596 : x11_1 < (t593.length : Int) := of_decide_eq_true (by first | (with_reducible assumption) | assumption)
              obtain ⟨ad596, A596_6, c596_6, e596, hx596_0, hx596_1, hx596_2, hx596_3, hx596_4, hx596_5, hx596_6, hl596_6, hi596_6⟩ := at_T26 (Kd.N_reads' HO_4.out).2.2 x11_1 p596 q596
              cases e596
              obtain ⟨ce596, hce596, hMe596, hcc596⟩ := Kd.N_get HO_4.out z26 x11_1 p596 (by first | exact q596 | exact of_decide_eq_true (by first | (with_reducible assumption) | assumption) | (have e_ := (Kd.N_reads' HO_4.out).1; omega))
              obtain ⟨ua596_6, uc596_6, rfl, ul596_6, ge596_6⟩ := k26_openF hMe596
              have hv596_6 := hcc596 6 _ rfl
              rw [add_field _ _ 6 (by omega)] at hv596_6
              replace hv596_6 := Option.some.inj (hv596_6.symm.trans hx596_6)
              injection hv596_6 with hva_ hvn_ hvc_
              rw [hva_] at ge596_6
              rw [hvc_] at ul596_6
              have HL596_6 := Aside0.mk (show Kd.V k26 26 _ w.heap.size _ _ ((rd_T26 t593 x11_1).f3) from Kd.V_mk ul596_6 ge596_6)
              clear hva_ hvn_ hvc_ ge596_6 ul596_6
              clear hcc596 hce596
              have HR596_6 := Aside0.mk hi596_6
              have HC596_6 := Aside0.mk hl596_6
              clear hi596_6 hl596_6
              replace p596 := eq_true p596
              replace q596 := eq_true q596
              go_wp2_with (first | ((with_reducible refine gate_builtin (b := .append) (xs := #[.tmp 14, .tmp 20]) rfl ?_); at_builtin; refine Kd.R_append (Kd.int .i64) (w0 := w) w.heap.size rfl (.tmp 14) (.tmp 20) 41 3 (.int .i64 0) 8 rfl Try.underlying41 info3 rfl (by decide) (by omega) u3 x3_1 ((rd_T26 t593 x11_1).f2) [.int .i64 ((rd_T26 t593 x11_1).f2)] (fun _ => True) (fun _ => False) rfl rfl ?aP (fun _ hk => hk.elim) ?aF ?aO ?aB ?aS ?aL ?_; (case aP => exact rfl); (case aB => exact (by repeat (first | (with_reducible first | exact HB.out | apply below_alloc | apply pw_below_drewN | apply below_drew1 | refine below_set ?_ GE589.out) | exact HB.out))); (case aF => exact (fun _ _ => trivial)); (case aO => exact (by (with_reducible repeat (first | apply Kd.R_alloc | apply Kd.R_drewN | apply Kd.R_drew)); exact HO_3.out)); (case aS => exact (below_size (by repeat (first | (with_reducible first | exact HB.out | apply below_alloc | apply pw_below_drewN | apply below_drew1 | refine below_set ?_ GE589.out) | exact HB.out)))); (case aL => have := LMc12.out; omega); intro v598 w13 ho hb hg hat; rw [← Ny597.out] at ho; have n0_ := Aside0.mk (Kd.N_afterv (ok := (fun k_ => k_ ≠ gb589)) (by (with_reducible repeat (first | apply Kd.N_alloc | apply Kd.N_drewN | apply Kd.N_drew)); exact Kd.N_mono HO_4.out (fun _ hk => ⟨hk.2, hk.1⟩)) hg hat); have n1_ := Aside0.mk (blk_grown (g := gb589) (o := .cells #[.int .u8 a0_0, .int .i64 a0_1, .int .i64 a0_2, .int .i64 a0_3, .int .i64 a0_4, .int .i64 a0_5, .slice A0_6 l0_6.length c0_6] 26 (0, 0)) (by (with_reducible repeat (first | refine blk_drewN ?_ _ | refine blk_drew ?_ | refine blk_alloc ?_ _)); exact BK589.out) hg (Kd.R_ne HO_3.out BK589.out (by decide))); have n2_ := Aside0.mk (Kd.V_afterv (ok := (fun k_ => some k_ ≠ (.slice (some ad596) t593.length co8 : Value).ownBlock ∧ k_ ≠ gb589)) (by (with_reducible repeat (first | apply Kd.V_alloc | apply Kd.V_drewN | apply Kd.V_drew)); exact Kd.V_mono HL596_6.out (fun _ hk => ⟨⟨hk.2, hk.1.2⟩, hk.1.1⟩)) hg hat); have n3_ := Aside0.mk (hb); have n4_ := Aside0.mk (ho); clear HO_4; clear BK589; clear HL596_6; clear HB; clear HO_3; have HO_4 := n0_; have BK589 := n1_; have HL596_6 := n2_; have HB := n3_; have HO599 := n4_; clear n0_ n1_ n2_ n3_ n4_; clear ho hb hg hat))
              go_roundg k1
              case measure => have := HK1.out; omega
              case rel => exact ⟨(y597), (wrap64 (x11_1 + 1)), (by first | rfl | (simp; done) | (simp [*]; done)), H', ⟨by have := HK1.out; omega⟩, ⟨by (with_reducible repeat (first | apply Kd.R_alloc | apply Kd.R_drewN | apply Kd.R_drew)); exact HO599.out⟩, ⟨by (with_reducible repeat (first | apply Kd.N_alloc | apply Kd.N_drewN | apply Kd.N_drew)); exact Kd.N_mono HO_4.out (fun _ hk => ⟨hk.2, hk.1⟩)⟩, ⟨by (with_reducible repeat (first | refine blk_drewN ?_ _ | refine blk_drew ?_ | refine blk_alloc ?_ _)); exact BK589.out⟩, ⟨by repeat (first | (with_reducible first | exact HB.out | apply below_alloc | apply pw_below_drewN | apply below_drew1 | refine below_set ?_ GE589.out) | exact HB.out)⟩⟩
            · rw [if_neg c12] at H
              exact absurd H (by simp)
          · rw [if_neg c11] at H
            exact absurd H (by simp)
        · rw [if_neg c10] at H
          exact absurd H (by simp)
      · rw [if_neg c9] at H
        have c9b0 : decide (x11_1 < (t593.length : Int)) = false := decide_eq_false c9
        clear c9
        obtain rfl := Option.some.inj H
        go_wp2
        go_ret
        exact ⟨_, by first | rfl | (simp [errW_none, errW_some] <;> rfl) | (simp [*, errW_none, errW_some] <;> rfl), by (with_reducible repeat (first | apply Kd.R_alloc | apply Kd.R_drewN | apply Kd.R_drew)); exact HO_3.out, by repeat (first | (with_reducible first | exact HB.out | apply below_alloc | apply pw_below_drewN | apply below_drew1 | refine below_set ?_ GE589.out) | exact HB.out)⟩

end Go.Proofs.Ytfdmfgaiblfbhaa.P
namespace Go.Proofs.Ytfdmfgaiblfbhaa.P
open Go.RowKit Go.Proofs.YtfdmfgaiblfbhaaW.PrintWords Go.Proofs.YtfdmfgaiblfbhaaW.PrintLast Go.Proofs.YtfdmfgaiblfbhaaW.PrintMore
attribute [local go_sem] max2_int min2_int max_two min_two max_three min_three max_four min_four   -- for this text's walks alone
set_option linter.unusedVariables false
set_option linter.unusedSimpArgs false

/-! ### sashref07_Name: function 65 -/
mutual
def sashref07_Name.j0 : Nat → List Int → Int → Int → Int → Int → Int → Int → Int → List (S26) → Option (Int × Int × Int × Int × Int × Int × (List (S26)) × Int)
  | 0, _, _, _, _, _, _, _, _, _ => none
  | k + 1, x1, x6, x606000, x606001, x606002, x606003, x606004, x606005, x606006 => sashref07_Name.l0 k x1 x6 (([] : List (S26))) (x606006.length : Int) 0 x606000 x606001 x606002 x606003 x606004 x606005 x606006
def sashref07_Name.l0 : Nat → List Int → Int → List (S26) → Int → Int → Int → Int → Int → Int → Int → Int → List (S26) → Option (Int × Int × Int × Int × Int × Int × (List (S26)) × Int)
  | 0, _, _, _, _, _, _, _, _, _, _, _, _ => none
  | k + 1, x1, x6, x7, x21, x22, x606000, x606001, x606002, x606003, x606004, x606005, x606006 => if x22 < x21 then (if 0 ≤ x22 then (if x22 < (x606006.length : Int) then (if 0 ≤ x6 then (if x6 ≤ (x1.length : Int) then ((sashref07_Name.f k ((rd_T26 x606006 x22).f0) ((rd_T26 x606006 x22).f1.f0) ((rd_T26 x606006 x22).f1.f1) ((rd_T26 x606006 x22).f1.f2) ((rd_T26 x606006 x22).f1.f3) ((rd_T26 x606006 x22).f2) ((rd_T26 x606006 x22).f3) (x1.drop (x6 : Int).toNat)).bind fun bt613 => (if x7.length < 1954687338268 then (sashref07_Name.l0 k x1 (wrap64 (x6 + bt613.2.2.2.2.2.2.2)) (x7 ++ [(⟨bt613.1, (⟨bt613.2.1, bt613.2.2.1, bt613.2.2.2.1, bt613.2.2.2.2.1⟩ : S23), bt613.2.2.2.2.2.1, bt613.2.2.2.2.2.2.1⟩ : S26)]) x21 (wrap64 (x22 + 1)) x606000 x606001 x606002 x606003 x606004 x606005 x606006) else (none))) else (none)) else (none)) else (none)) else (none)) else (some (x606000, x606001, x606002, x606003, x606004, x606005, x7, x6))
def sashref07_Name.f : Nat → Int → Int → Int → Int → Int → Int → List (S26) → List Int → Option (Int × Int × Int × Int × Int × Int × (List (S26)) × Int)
  | 0, _, _, _, _, _, _, _, _ => none
  | k + 1, a0_0, a0_1, a0_2, a0_3, a0_4, a0_5, l0_6, l1 => if a0_0 = 1 then (if 0 < (l1.length : Int) then (sashref07_Name.j0 k l1 1 a0_0 a0_1 a0_2 a0_3 a0_4 (rd l1 0) l0_6) else (none)) else (sashref07_Name.j0 k l1 0 a0_0 a0_1 a0_2 a0_3 a0_4 a0_5 l0_6)
end
theorem sashref07_Name.mono_l : ∀ k, (∀ y0 y1 y2 y3 y4 y5 y6 y7, LeO (sashref07_Name.f k y0 y1 y2 y3 y4 y5 y6 y7) (sashref07_Name.f (k + 1) y0 y1 y2 y3 y4 y5 y6 y7)) ∧ (∀ y0 y1 y2 y3 y4 y5 y6 y7 y8, LeO (sashref07_Name.j0 k y0 y1 y2 y3 y4 y5 y6 y7 y8) (sashref07_Name.j0 (k + 1) y0 y1 y2 y3 y4 y5 y6 y7 y8)) ∧ (∀ y0 y1 y2 y3 y4 y5 y6 y7 y8 y9 y10 y11, LeO (sashref07_Name.l0 k y0 y1 y2 y3 y4 y5 y6 y7 y8 y9 y10 y11) (sashref07_Name.l0 (k + 1) y0 y1 y2 y3 y4 y5 y6 y7 y8 y9 y10 y11))
  | 0 => ⟨fun _ _ _ _ _ _ _ _ r h => by simp [sashref07_Name.f] at h, fun _ _ _ _ _ _ _ _ _ r h => by simp [sashref07_Name.j0] at h, fun _ _ _ _ _ _ _ _ _ _ _ _ r h => by simp [sashref07_Name.l0] at h⟩
  | k + 1 => by
    obtain ⟨ih0, ih1, ih2⟩ := sashref07_Name.mono_l k
    refine ⟨?_, ?_, ?_⟩
    · intro y0 y1 y2 y3 y4 y5 y6 y7
      unfold sashref07_Name.f
      repeat' first
      | (with_reducible exact ih0 _ _ _ _ _ _ _ _)
      | (with_reducible exact ih1 _ _ _ _ _ _ _ _ _)
      | (with_reducible exact ih2 _ _ _ _ _ _ _ _ _ _ _ _)
      | (with_reducible exact LeO.refl _)
      | (with_reducible exact LeO.none _)
      | (with_reducible refine LeO.ite ?_ ?_)
      | (with_reducible refine LeO.bind ?_ (fun _ => ?_))
      | exact ih0 _ _ _ _ _ _ _ _
      | exact ih1 _ _ _ _ _ _ _ _ _
      | exact ih2 _ _ _ _ _ _ _ _ _ _ _ _
      | exact LeO.none _
      | refine LeO.ite ?_ ?_
      | refine LeO.bind ?_ (fun _ => ?_)
    · intro y0 y1 y2 y3 y4 y5 y6 y7 y8
      unfold sashref07_Name.j0
      repeat' first
      | (with_reducible exact ih0 _ _ _ _ _ _ _ _)
      | (with_reducible exact ih1 _ _ _ _ _ _ _ _ _)
      | (with_reducible exact ih2 _ _ _ _ _ _ _ _ _ _ _ _)
      | (with_reducible exact LeO.refl _)
      | (with_reducible exact LeO.none _)
      | (with_reducible refine LeO.ite ?_ ?_)
      | (with_reducible refine LeO.bind ?_ (fun _ => ?_))
      | exact ih0 _ _ _ _ _ _ _ _
      | exact ih1 _ _ _ _ _ _ _ _ _
      | exact ih2 _ _ _ _ _ _ _ _ _ _ _ _
      | exact LeO.none _
      | refine LeO.ite ?_ ?_
      | refine LeO.bind ?_ (fun _ => ?_)
    · intro y0 y1 y2 y3 y4 y5 y6 y7 y8 y9 y10 y11
      unfold sashref07_Name.l0
      repeat' first
      | (with_reducible exact ih0 _ _ _ _ _ _ _ _)
      | (with_reducible exact ih1 _ _ _ _ _ _ _ _ _)
      | (with_reducible exact ih2 _ _ _ _ _ _ _ _ _ _ _ _)
      | (with_reducible exact LeO.refl _)
      | (with_reducible exact LeO.none _)
      | (with_reducible refine LeO.ite ?_ ?_)
      | (with_reducible refine LeO.bind ?_ (fun _ => ?_))
      | exact ih0 _ _ _ _ _ _ _ _
      | exact ih1 _ _ _ _ _ _ _ _ _
      | exact ih2 _ _ _ _ _ _ _ _ _ _ _ _
      | exact LeO.none _
      | refine LeO.ite ?_ ?_
      | refine LeO.bind ?_ (fun _ => ?_)
theorem sashref07_Name.mono : ∀ a0 a1 a2 a3 a4 a5 a6 a7 k, LeO (sashref07_Name.f k a0 a1 a2 a3 a4 a5 a6 a7) (sashref07_Name.f (k + 1) a0 a1 a2 a3 a4 a5 a6 a7) := by
  intro a0 a1 a2 a3 a4 a5 a6 a7 k
  obtain ⟨ih0, ih1, ih2⟩ := sashref07_Name.mono_l k
  exact ih0 a0 a1 a2 a3 a4 a5 a6 a7
def sashref07_Name.T9 : Bool × List (List Nat × List Nat) := (true, [([], []), ([0], [0]), ([], []), ([1, 2], [1, 2]), ([3], [3]), ([], []), ([], []), ([5, 6], [5, 6]), ([4, 7], [4, 7]), ([8], [8]), ([9], [9]), ([9], [9]), ([], []), ([12, 10, 8, 0, 1, 2, 3, 4, 5, 6, 7, 8, 9, 10, 12], [10, 12]), ([11, 13, 0, 1, 2, 3, 4, 5, 6, 7, 8, 9, 10, 11, 12, 13], [11])])
def sashref07_Name.B9 : List Nat := [0, 1, 0, 7, 15, 0, 0, 96, 255, 511, 1023, 1023, 0, 6143, 16383]
theorem sashref07_Name.tab9 : rtab .any (opsOf Try.f65 9) = sashref07_Name.T9 := by kernel_rfl
theorem sashref07_Name.bits9 : waitsOk sashref07_Name.T9.2 sashref07_Name.B9 = true := by kernel_rfl
set_option maxHeartbeats 8000000 in
set_option maxRecDepth 100000 in
theorem sashref07_Name.calls (k : Nat) : ∀ (a0_0 : Int) (a0_1 : Int) (a0_2 : Int) (a0_3 : Int) (a0_4 : Int) (a0_5 : Int) (A0_6 : Option Addr) (c0_6 : Nat) (l0_6 : List (S26)) (A1 : Option Addr) (c1 : Nat) (l1 : List Int) (r1 : Int) (r2 : Int) (r3 : Int) (r4 : Int) (r5 : Int) (r6 : Int) (r7 : List (S26)) (r8 : Int) (w : World) (hr0_6 : Kd.C k26 w A0_6 l0_6.length l0_6) (hc0_6 : l0_6.length ≤ c0_6) (hr1 : Kd.C (Kd.int .i64) w A1 l1.length l1) (hc1 : l1.length ≤ c1) (h : sashref07_Name.f k a0_0 a0_1 a0_2 a0_3 a0_4 a0_5 l0_6 l1 = some (r1, r2, r3, r4, r5, r6, r7, r8)),
    Calls Try.prog 65 #[.agg #[.int .u8 a0_0, .int .i64 a0_1, .int .i64 a0_2, .int .i64 a0_3, .int .i64 a0_4, .int .i64 a0_5, .slice A0_6 l0_6.length c0_6], .slice A1 l1.length c1] w fun e w' => ∃ v6_ : Value, e = .returned (.tuple #[.agg #[.int .u8 r1, .int .i64 r2, .int .i64 r3, .int .i64 r4, .int .i64 r5, .int .i64 r6, v6_], .int .i64 r8]) ∧ Kd.R k26 26 w' w.heap.size (fun _ => True) v6_ r7 ∧ Below w.heap.size w w' := by
  induction k using Nat.strongRecOn with
  | _ k ih =>
  intro a0_0 a0_1 a0_2 a0_3 a0_4 a0_5 A0_6 c0_6 l0_6 A1 c1 l1 r1 r2 r3 r4 r5 r6 r7 r8 w hr0_6 hc0_6 hr1 hc1 h
  cases k with
  | zero => exact absurd h (by simp [sashref07_Name.f])
  | succ k =>
  simp only [sashref07_Name.f] at h
  have hu26 := Try.underlying26
  have HR0_6 := Aside0.mk hr0_6
  have HC0_6 := Aside0.mk hc0_6
  clear hr0_6 hc0_6
  have HR1 := Aside0.mk hr1
  have HC1 := Aside0.mk hc1
  clear hr1 hc1
  have HB := Aside0.mk (Below.refl w.heap.size w)
  have H : (if a0_0 = 1 then (if 0 < (l1.length : Int) then (sashref07_Name.j0 k l1 1 a0_0 a0_1 a0_2 a0_3 a0_4 (rd l1 0) l0_6) else (none)) else (sashref07_Name.j0 k l1 0 a0_0 a0_1 a0_2 a0_3 a0_4 a0_5 l0_6)) = some (r1, r2, r3, r4, r5, r6, r7, r8) := h
  clear h
  have HC3 := Aside0.mk H
  clear H
  go_enter Try.func65, Try.ntmps65
  go_upto_if 13 with (first | ((with_reducible refine gate_dst (N := 2) rfl ?_); refine box_event ?hg (N := 2) ?hd (cs := #[.int .u8 a0_0, .int .i64 a0_1, .int .i64 a0_2, .int .i64 a0_3, .int .i64 a0_4, .int .i64 a0_5, .slice A0_6 l0_6.length c0_6]) (t := 26) ?hr ?_; (case hd => rfl); (case hg => rfl); (case hr => first | (go_simp; done) | (go_simp; rfl)); intro gb605 hg w4 hbox hb; have n0_ := Aside0.mk (below_step (by repeat (first | (with_reducible first | exact HB.out | apply below_alloc | apply pw_below_drewN | apply below_drew1) | exact HB.out)) hb); have n1_ := Aside0.mk (hbox); have n2_ := Aside0.mk ((by rw [hg]; exact (below_size (by repeat (first | (with_reducible first | exact HB.out | apply below_alloc | apply pw_below_drewN | apply below_drew1) | exact HB.out))) : w.heap.size ≤ gb605)); have n3_ := Aside0.mk ((by rw [hg]; exact (below_size (by repeat (first | (with_reducible first | exact HB.out | apply below_alloc | apply pw_below_drewN | apply below_drew1) | exact HB.out))) : w.heap.size ≤ gb605)); clear HB; have HB := n0_; have BK605 := n1_; have GW605 := n2_; have GE605 := n3_; clear n0_ n1_ n2_ n3_; clear hb hbox hg) | ((with_reducible refine gate_dst (N := 4) rfl ?_); refine box_event ?hg (N := 4) ?hd (cs := #[.int .u8 0, .int .i64 0, .int .i64 0, .int .i64 0, .int .i64 0, .int .i64 0, .slice none 0 0]) (t := 26) ?hr ?_; (case hd => rfl); (case hg => rfl); (case hr => first | (go_simp; done) | (go_simp; rfl)); intro gb606 hg w5 hbox hb; have n0_ := Aside0.mk (blk_below (g := gb605) (o := .cells #[.int .u8 a0_0, .int .i64 a0_1, .int .i64 a0_2, .int .i64 a0_3, .int .i64 a0_4, .int .i64 a0_5, .slice A0_6 l0_6.length c0_6] 26 (0, 0)) (by (with_reducible repeat (first | refine blk_drewN ?_ _ | refine blk_drew ?_ | refine blk_alloc ?_ _)); exact BK605.out) hb); have n1_ := Aside0.mk (below_step (by repeat (first | (with_reducible first | exact HB.out | apply below_alloc | apply pw_below_drewN | apply below_drew1 | refine below_set ?_ GE605.out) | exact HB.out)) hb); have n2_ := Aside0.mk (hbox); have n3_ := Aside0.mk ((by rw [hg]; exact (below_size (by repeat (first | (with_reducible first | exact HB.out | apply below_alloc | apply pw_below_drewN | apply below_drew1 | refine below_set ?_ GE605.out) | exact HB.out))) : w.heap.size ≤ gb606)); have n4_ := Aside0.mk ((by rw [hg]; exact (below_size (by repeat (first | (with_reducible first | exact HB.out | apply below_alloc | apply pw_below_drewN | apply below_drew1 | refine below_set ?_ GE605.out) | exact HB.out))) : w.heap.size ≤ gb606)); have n5_ := Aside0.mk ((by rw [hg]; exact Nat.ne_of_lt (blk_lt (g := gb605) (o := .cells #[.int .u8 a0_0, .int .i64 a0_1, .int .i64 a0_2, .int .i64 a0_3, .int .i64 a0_4, .int .i64 a0_5, .slice A0_6 l0_6.length c0_6] 26 (0, 0)) (by (with_reducible repeat (first | refine blk_drewN ?_ _ | refine blk_drew ?_ | refine blk_alloc ?_ _)); exact BK605.out)) : gb605 ≠ gb606)); have n6_ := Aside0.mk ((by rw [hg]; exact Nat.ne_of_gt (blk_lt (g := gb605) (o := .cells #[.int .u8 a0_0, .int .i64 a0_1, .int .i64 a0_2, .int .i64 a0_3, .int .i64 a0_4, .int .i64 a0_5, .slice A0_6 l0_6.length c0_6] 26 (0, 0)) (by (with_reducible repeat (first | refine blk_drewN ?_ _ | refine blk_drew ?_ | refine blk_alloc ?_ _)); exact BK605.out)) : gb606 ≠ gb605)); clear BK605; clear HB; have BK605 := n0_; have HB := n1_; have BK606 := n2_; have GW606 := n3_; have GE606 := n4_; have NB605_606 := n5_; have NB606_605 := n6_; clear n0_ n1_ n2_ n3_ n4_ n5_ n6_; clear hb hbox hg; have hnb6 := NB605_606.out; have hnc6 := NB606_605.out; have hcz7_0 : w5.cell? ⟨gb605, 0, none⟩ = some (.int .u8 a0_0) := (blk_cell BK605.out 0).trans rfl; have hcz7_1 : w5.cell? ⟨gb605, 1, none⟩ = some (.int .i64 a0_1) := (blk_cell BK605.out 1).trans rfl; have hcz7_2 : w5.cell? ⟨gb605, 2, none⟩ = some (.int .i64 a0_2) := (blk_cell BK605.out 2).trans rfl; have hcz7_3 : w5.cell? ⟨gb605, 3, none⟩ = some (.int .i64 a0_3) := (blk_cell BK605.out 3).trans rfl; have hcz7_4 : w5.cell? ⟨gb605, 4, none⟩ = some (.int .i64 a0_4) := (blk_cell BK605.out 4).trans rfl; have hcz7_5 : w5.cell? ⟨gb605, 5, none⟩ = some (.int .i64 a0_5) := (blk_cell BK605.out 5).trans rfl; have hcz7_6 : w5.cell? ⟨gb605, 6, none⟩ = some (.slice A0_6 l0_6.length c0_6) := (blk_cell BK605.out 6).trans rfl; have hfz7_0 := blk_frozen BK605.out 0; have hfz7_1 := blk_frozen BK605.out 1; have hfz7_2 := blk_frozen BK605.out 2; have hfz7_3 := blk_frozen BK605.out 3; have hfz7_4 := blk_frozen BK605.out 4; have hfz7_5 := blk_frozen BK605.out 5; have hfz7_6 := blk_frozen BK605.out 6))
  (try simp only [Act.put, List.setIfInBounds_toArray, List.set_cons_zero, List.set_cons_succ])
  go_cut [6] (fun v6 wc => ∃ (kq : Nat) (x6_2 : Int) (x606005_2 : Int), v6 = .int .i64 x6_2 ∧ Aside0 (sashref07_Name.j0 kq l1 x6_2 a0_0 a0_1 a0_2 a0_3 a0_4 x606005_2 l0_6 = some (r1, r2, r3, r4, r5, r6, r7, r8)) ∧ Aside0 (kq ≤ k) ∧ Aside0 (wc.heap[gb605]? = some (.cells #[.int .u8 a0_0, .int .i64 a0_1, .int .i64 a0_2, .int .i64 a0_3, .int .i64 a0_4, .int .i64 x606005_2, (.slice A0_6 l0_6.length c0_6)] 26 (0, 0))) ∧ Aside0 (wc.heap[gb606]? = some (.cells #[.int .u8 0, .int .i64 0, .int .i64 0, .int .i64 0, .int .i64 0, .int .i64 0, (.slice none 0 0)] 26 (0, 0))) ∧ Aside0 (Below w.heap.size w wc))
  case first =>
    have H := HC3.out
    clear HC3
    by_cases c8 : a0_0 = 1
    · rw [if_pos c8] at H
      have c8b0 : (a0_0 == 1) = true := beq_iff_eq.mpr c8
      have c8b1 : (a0_0 != 1) = false := bne_eq_false_iff_eq.mpr c8
      clear c8
      (first | rw [c8b0] | (simp only [i64_w, i32_w]; rw [c8b0]) | skip)
      by_cases c9 : 0 < (l1.length : Int)
      · rw [if_pos c9] at H
        have c9b0 : decide (0 < (l1.length : Int)) = true := decide_eq_true c9
        have c9b1 : decide (0 < l1.length) = true := decide_eq_true (by omega)
        clear c9
        have H' := Aside0.mk H
        clear H
        have p607 : 0 ≤ (0 : Int) := (by omega)
        have q607 : 0 < (l1.length : Int) := of_decide_eq_true (by first | (with_reducible assumption) | assumption)
        obtain ⟨ad607, e607, hx607_0⟩ := Kd.at_int HR1.out 0 p607 q607
        cases e607
        have qi607 : (0 < l1.length) = True := eq_true (by omega)
        (try rw [show ((0 : Int)).toNat = 0 from rfl] at hx607_0)
        (try rw [Addr.add_zero'] at hx607_0)
        replace hx607_0 := (HB.out.cell (World.block_lt_of_cell? w _ hx607_0)).trans hx607_0
        replace p607 := eq_true p607
        replace q607 := eq_true q607
        have hnb10 := NB605_606.out
        have hnc10 := NB606_605.out
        have hcz11_0 : w5.cell? ⟨gb605, 0, none⟩ = some (.int .u8 a0_0) := (blk_cell BK605.out 0).trans rfl
        have hcz11_1 : w5.cell? ⟨gb605, 1, none⟩ = some (.int .i64 a0_1) := (blk_cell BK605.out 1).trans rfl
        have hcz11_2 : w5.cell? ⟨gb605, 2, none⟩ = some (.int .i64 a0_2) := (blk_cell BK605.out 2).trans rfl
        have hcz11_3 : w5.cell? ⟨gb605, 3, none⟩ = some (.int .i64 a0_3) := (blk_cell BK605.out 3).trans rfl
        have hcz11_4 : w5.cell? ⟨gb605, 4, none⟩ = some (.int .i64 a0_4) := (blk_cell BK605.out 4).trans rfl
        have hcz11_5 : w5.cell? ⟨gb605, 5, none⟩ = some (.int .i64 a0_5) := (blk_cell BK605.out 5).trans rfl
        have hcz11_6 : w5.cell? ⟨gb605, 6, none⟩ = some (.slice A0_6 l0_6.length c0_6) := (blk_cell BK605.out 6).trans rfl
        have hfz11_0 := blk_frozen BK605.out 0
        have hfz11_1 := blk_frozen BK605.out 1
        have hfz11_2 := blk_frozen BK605.out 2
        have hfz11_3 := blk_frozen BK605.out 3
        have hfz11_4 := blk_frozen BK605.out 4
        have hfz11_5 := blk_frozen BK605.out 5
        have hfz11_6 := blk_frozen BK605.out 6
        go_wp2
        go_meet
        case rel => exact ⟨_, (1), (rd l1 0), (by first | rfl | (simp; done) | (simp [*]; done)), H', ⟨by first | omega | exact Nat.le_refl _⟩, ⟨by (with_reducible repeat (first | refine blk_drewN ?_ _ | refine blk_drew ?_ | refine blk_alloc ?_ _)); refine blk_put (cs := #[.int .u8 a0_0, .int .i64 a0_1, .int .i64 a0_2, .int .i64 a0_3, .int .i64 a0_4, .int .i64 a0_5, .slice A0_6 l0_6.length c0_6]) ?_ 5 _ rfl; (with_reducible repeat (first | refine blk_drewN ?_ _ | refine blk_drew ?_ | refine blk_alloc ?_ _)); exact BK605.out⟩, ⟨by (with_reducible repeat (first | refine blk_drewN ?_ _ | refine blk_drew ?_ | refine blk_alloc ?_ _)); refine blk_far ?_ NB606_605.out _; (with_reducible repeat (first | refine blk_drewN ?_ _ | refine blk_drew ?_ | refine blk_alloc ?_ _)); exact BK606.out⟩, ⟨by repeat (first | (with_reducible first | exact HB.out | apply below_alloc | apply pw_below_drewN | apply below_drew1 | refine below_set ?_ GE605.out | refine below_set ?_ GE606.out) | exact HB.out)⟩⟩
      · rw [if_neg c9] at H
        exact absurd H (by simp)
    · rw [if_neg c8] at H
      have c8b0 : (a0_0 == 1) = false := beq_eq_false_iff_ne.mpr c8
      have c8b1 : (a0_0 != 1) = true := bne_iff_ne.mpr c8
      (first | rw [c8b0] | (simp only [i64_w, i32_w]; rw [c8b0]) | skip)
      have H' := Aside0.mk H
      clear H
      go_wp2
      go_meet
      case rel => exact ⟨_, (0), (a0_5), (by first | rfl | (simp; done) | (simp [*]; done)), H', ⟨by first | omega | exact Nat.le_refl _⟩, ⟨by (with_reducible repeat (first | refine blk_drewN ?_ _ | refine blk_drew ?_ | refine blk_alloc ?_ _)); exact BK605.out⟩, ⟨by (with_reducible repeat (first | refine blk_drewN ?_ _ | refine blk_drew ?_ | refine blk_alloc ?_ _)); exact BK606.out⟩, ⟨by repeat (first | (with_reducible first | exact HB.out | apply below_alloc | apply pw_below_drewN | apply below_drew1 | refine below_set ?_ GE605.out | refine below_set ?_ GE606.out) | exact HB.out)⟩⟩
  case rest =>
    clear HC3
    try clear c1
    try clear p2
    try clear c6
    try clear p6
    try clear q6
    try clear hx6
    try clear qi6
    try clear c8
    try clear c8b0
    try clear c8b1
    try clear c9
    try clear c9b0
    try clear c9b1
    try clear c10
    try clear hcz11_0
    try clear hcz11_1
    try clear hcz11_2
    try clear hcz11_3
    try clear hcz11_4
    try clear hcz11_5
    try clear hcz11_6
    try clear hcz7_0
    try clear hcz7_1
    try clear hcz7_2
    try clear hcz7_3
    try clear hcz7_4
    try clear hcz7_5
    try clear hcz7_6
    try clear hfz11_0
    try clear hfz11_1
    try clear hfz11_2
    try clear hfz11_3
    try clear hfz11_4
    try clear hfz11_5
    try clear hfz11_6
    try clear hfz7_0
    try clear hfz7_1
    try clear hfz7_2
    try clear hfz7_3
    try clear hfz7_4
    try clear hfz7_5
    try clear hfz7_6
    try clear hx607_0
    try clear p607
    try clear q607
    obtain ⟨kq, x6_2, x606005_2, rfl, HA, HJ2, BK605, BK606, HB⟩ := hcut
    cases kq with
    | zero => exact absurd HA.out (by simp [sashref07_Name.j0])
    | succ kj2 =>
      have H := HA.out
      clear HA
      simp only [sashref07_Name.j0] at H
      obtain ⟨y608, hy608⟩ : ∃ y_ : List (S26), y_ = (([] : List (S26))) := ⟨_, rfl⟩
      replace H : (sashref07_Name.l0 kj2 l1 x6_2 y608 (l0_6.length : Int) 0 a0_0 a0_1 a0_2 a0_3 a0_4 x606005_2 l0_6) = some (r1, r2, r3, r4, r5, r6, r7, r8) := by first | (rw [hy608]; with_reducible exact H) | (have H2_ := (Option.bind_some _ _).symm.trans H; rw [hy608]; with_reducible exact H2_) | (have H2_ := (Option.bind_some _ _).symm.trans H; with_reducible exact H2_) | with_reducible exact H | (rw [hy608]; exact H) | exact H
      have Ny608 := Aside0.mk hy608
      clear hy608
      have H' := Aside0.mk H
      clear H
      go_wp2_with (first | ((with_reducible refine gate_dst (N := 18) rfl ?_); refine Kd.R_lit k26 _ 26 ?hg (N := 18) ?hd (xs := ([] : List (S26))) (inner := []) (ok := fun _ => True) (okp := fun _ => True) ?hr ?hp (fun _ hk => hk) trivial (Below.refl _ _) (Nat.le_refl _) (by simp) ?_; (case hd => rfl); (case hg => rfl); (case hr => first | (go_simp; done) | (go_simp; rfl)); (case hp => exact (Reps.none _ _)); intro v609 w12 ho13 hb hg_ hnew_; clear hg_ hnew_; (first | rw [← Ny608.out] at ho13 | (simp only [Int.reduceToNat] at ho13; rw [← Ny608.out] at ho13)); have n0_ := Aside0.mk (Kd.R_lower (Kd.R_newB (Kd.R_newB ho13 (g := gb605) (o := .cells #[.int .u8 a0_0, .int .i64 a0_1, .int .i64 a0_2, .int .i64 a0_3, .int .i64 a0_4, .int .i64 x606005_2, .slice A0_6 l0_6.length c0_6] 26 (0, 0)) (by (with_reducible repeat (first | refine blk_drewN ?_ _ | refine blk_drew ?_ | refine blk_alloc ?_ _)); exact BK605.out)) (g := gb606) (o := .cells #[.int .u8 0, .int .i64 0, .int .i64 0, .int .i64 0, .int .i64 0, .int .i64 0, .slice none 0 0] 26 (0, 0)) (by (with_reducible repeat (first | refine blk_drewN ?_ _ | refine blk_drew ?_ | refine blk_alloc ?_ _)); exact BK606.out)) (below_size (by repeat (first | (with_reducible first | exact HB.out | apply below_alloc | apply pw_below_drewN | apply below_drew1 | refine below_set ?_ GE605.out | refine below_set ?_ GE606.out) | exact HB.out)))); have n1_ := Aside0.mk (blk_below (g := gb605) (o := .cells #[.int .u8 a0_0, .int .i64 a0_1, .int .i64 a0_2, .int .i64 a0_3, .int .i64 a0_4, .int .i64 x606005_2, .slice A0_6 l0_6.length c0_6] 26 (0, 0)) (by (with_reducible repeat (first | refine blk_drewN ?_ _ | refine blk_drew ?_ | refine blk_alloc ?_ _)); exact BK605.out) hb); have n2_ := Aside0.mk (blk_below (g := gb606) (o := .cells #[.int .u8 0, .int .i64 0, .int .i64 0, .int .i64 0, .int .i64 0, .int .i64 0, .slice none 0 0] 26 (0, 0)) (by (with_reducible repeat (first | refine blk_drewN ?_ _ | refine blk_drew ?_ | refine blk_alloc ?_ _)); exact BK606.out) hb); have n3_ := Aside0.mk (below_step (by repeat (first | (with_reducible first | exact HB.out | apply below_alloc | apply pw_below_drewN | apply below_drew1 | refine below_set ?_ GE605.out | refine below_set ?_ GE606.out) | exact HB.out)) hb); clear BK605; clear BK606; clear HB; have HO610 := n0_; have BK605 := n1_; have BK606 := n2_; have HB := n3_; clear n0_ n1_ n2_ n3_; clear hb ho13; have hnb14 := NB605_606.out; have hnc14 := NB606_605.out; have hcz15_0 : w12.cell? ⟨gb605, 0, none⟩ = some (.int .u8 a0_0) := (blk_cell BK605.out 0).trans rfl; have hcz15_1 : w12.cell? ⟨gb605, 1, none⟩ = some (.int .i64 a0_1) := (blk_cell BK605.out 1).trans rfl; have hcz15_2 : w12.cell? ⟨gb605, 2, none⟩ = some (.int .i64 a0_2) := (blk_cell BK605.out 2).trans rfl; have hcz15_3 : w12.cell? ⟨gb605, 3, none⟩ = some (.int .i64 a0_3) := (blk_cell BK605.out 3).trans rfl; have hcz15_4 : w12.cell? ⟨gb605, 4, none⟩ = some (.int .i64 a0_4) := (blk_cell BK605.out 4).trans rfl; have hcz15_5 : w12.cell? ⟨gb605, 5, none⟩ = some (.int .i64 x606005_2) := (blk_cell BK605.out 5).trans rfl; have hcz15_6 : w12.cell? ⟨gb605, 6, none⟩ = some (.slice A0_6 l0_6.length c0_6) := (blk_cell BK605.out 6).trans rfl; have hfz15_0 := blk_frozen BK605.out 0; have hfz15_1 := blk_frozen BK605.out 1; have hfz15_2 := blk_frozen BK605.out 2; have hfz15_3 := blk_frozen BK605.out 3; have hfz15_4 := blk_frozen BK605.out 4; have hfz15_5 := blk_frozen BK605.out 5; have hfz15_6 := blk_frozen BK605.out 6))
      go_loopg [6, 7, 22] kj2 (fun kq v6 v7 v22 w' => ∃ (x6_2 : Int) (x7_2 : List (S26)) (x22_2 : Int), v6 = .int .i64 x6_2 ∧ v22 = .int .i64 x22_2 ∧ Aside0 (sashref07_Name.l0 kq l1 x6_2 x7_2 (l0_6.length : Int) x22_2 a0_0 a0_1 a0_2 a0_3 a0_4 x606005_2 l0_6 = some (r1, r2, r3, r4, r5, r6, r7, r8)) ∧ Aside0 (kq ≤ kj2) ∧ Aside0 (Kd.R k26 26 w' w.heap.size (fun k_ => k_ ≠ gb605 ∧ k_ ≠ gb606) v7 x7_2) ∧ Aside0 (w'.heap[gb605]? = some (.cells #[.int .u8 a0_0, .int .i64 a0_1, .int .i64 a0_2, .int .i64 a0_3, .int .i64 a0_4, .int .i64 x606005_2, (.slice A0_6 l0_6.length c0_6)] 26 (0, 0))) ∧ Aside0 (w'.heap[gb606]? = some (.cells #[.int .u8 0, .int .i64 0, .int .i64 0, .int .i64 0, .int .i64 0, .int .i64 0, (.slice none 0 0)] 26 (0, 0))) ∧ Aside0 (Below w.heap.size w w'))
      case atStart => exact ⟨(x6_2), (y608), (0), (by first | rfl | (simp; done) | (simp [*]; done)), (by first | rfl | (simp; done) | (simp [*]; done)), H', ⟨Nat.le_refl _⟩, ⟨by (with_reducible repeat (first | apply Kd.R_alloc | apply Kd.R_drewN | apply Kd.R_drew)); exact Kd.R_mono HO610.out (fun _ hk => ⟨hk.1.2, hk.2⟩)⟩, ⟨by (with_reducible repeat (first | refine blk_drewN ?_ _ | refine blk_drew ?_ | refine blk_alloc ?_ _)); exact BK605.out⟩, ⟨by (with_reducible repeat (first | refine blk_drewN ?_ _ | refine blk_drew ?_ | refine blk_alloc ?_ _)); exact BK606.out⟩, ⟨by repeat (first | (with_reducible first | exact HB.out | apply below_alloc | apply pw_below_drewN | apply below_drew1 | refine below_set ?_ GE605.out | refine below_set ?_ GE606.out) | exact HB.out)⟩⟩
      case round =>
        clear H'
        try clear c1
        try clear p2
        try clear c6
        try clear p6
        try clear q6
        try clear hx6
        try clear qi6
        try clear c8
        try clear c8b0
        try clear c8b1
        try clear c9
        try clear c9b0
        try clear c9b1
        try clear c10
        try clear c14
        try clear hcz11_0
        try clear hcz11_1
        try clear hcz11_2
        try clear hcz11_3
        try clear hcz11_4
        try clear hcz11_5
        try clear hcz11_6
        try clear hcz15_0
        try clear hcz15_1
        try clear hcz15_2
        try clear hcz15_3
        try clear hcz15_4
        try clear hcz15_5
        try clear hcz15_6
        try clear hcz7_0
        try clear hcz7_1
        try clear hcz7_2
        try clear hcz7_3
        try clear hcz7_4
        try clear hcz7_5
        try clear hcz7_6
        try clear hfz11_0
        try clear hfz11_1
        try clear hfz11_2
        try clear hfz11_3
        try clear hfz11_4
        try clear hfz11_5
        try clear hfz11_6
        try clear hfz15_0
        try clear hfz15_1
        try clear hfz15_2
        try clear hfz15_3
        try clear hfz15_4
        try clear hfz15_5
        try clear hfz15_6
        try clear hfz7_0
        try clear hfz7_1
        try clear hfz7_2
        try clear hfz7_3
        try clear hfz7_4
        try clear hfz7_5
        try clear hfz7_6
        try clear hx607_0
        try clear p2
        try clear p6
        try clear p607
        try clear q6
        try clear q607
        obtain ⟨x6_2, x7_2, x22_2, rfl, rfl, HA, HK2, HO_7, BK605, BK606, HB⟩ := hrel
        cases gk with
        | zero => exact absurd HA.out (by simp [sashref07_Name.l0])
        | succ k2 =>
          have H := HA.out
          clear HA
          simp only [sashref07_Name.l0] at H
          by_cases c16 : x22_2 < (l0_6.length : Int)
          · rw [if_pos c16] at H
            have c16b0 : decide (x22_2 < (l0_6.length : Int)) = true := decide_eq_true c16
            clear c16
            by_cases c17 : 0 ≤ x22_2
            · rw [if_pos c17] at H
              have c17b0 : decide (0 ≤ x22_2) = true := decide_eq_true c17
              clear c17
              by_cases c18 : x22_2 < (l0_6.length : Int)
              · rw [if_pos c18] at H
                have c18b0 : decide (x22_2 < (l0_6.length : Int)) = true := decide_eq_true c18
                clear c18
                by_cases c19 : 0 ≤ x6_2
                · rw [if_pos c19] at H
                  have c19b0 := eq_true c19
                  have c19b1 : decide (0 ≤ x6_2) = true := decide_eq_true c19
                  clear c19
                  by_cases c20 : x6_2 ≤ (l1.length : Int)
                  · rw [if_pos c20] at H
                    have c20b0 := eq_true c20
                    have c20b1 : decide (x6_2 ≤ (l1.length : Int)) = true := decide_eq_true c20
                    clear c20
                    replace H := Option.bind_eq_some_iff.mp H
                    obtain ⟨⟨t613, t614, t615, t616, t617, t618, t619, t622⟩, A210, H⟩ := H
                    replace H : (if x7_2.length < 1954687338268 then (sashref07_Name.l0 k2 l1 (wrap64 (x6_2 + t622)) (x7_2 ++ [(⟨t613, (⟨t614, t615, t616, t617⟩ : S23), t618, t619⟩ : S26)]) (l0_6.length : Int) (wrap64 (x22_2 + 1)) a0_0 a0_1 a0_2 a0_3 a0_4 x606005_2 l0_6) else (none)) = some (r1, r2, r3, r4, r5, r6, r7, r8) := H
                    have A21 := Aside0.mk A210
                    clear A210
                    by_cases c22 : x7_2.length < 1954687338268
                    · rw [if_pos c22] at H
                      have LMc22 := Aside0.mk c22
                      clear c22
                      obtain ⟨y624, hy624⟩ : ∃ y_ : List (S26), y_ = (x7_2 ++ [(⟨t613, (⟨t614, t615, t616, t617⟩ : S23), t618, t619⟩ : S26)]) := ⟨_, rfl⟩
                      replace H : (sashref07_Name.l0 k2 l1 (wrap64 (x6_2 + t622)) y624 (l0_6.length : Int) (wrap64 (x22_2 + 1)) a0_0 a0_1 a0_2 a0_3 a0_4 x606005_2 l0_6) = some (r1, r2, r3, r4, r5, r6, r7, r8) := by first | (rw [hy624]; with_reducible exact H) | (have H2_ := (Option.bind_some _ _).symm.trans H; rw [hy624]; with_reducible exact H2_) | (have H2_ := (Option.bind_some _ _).symm.trans H; with_reducible exact H2_) | with_reducible exact H | (rw [hy624]; exact H) | exact H
                      have Ny624 := Aside0.mk hy624
                      clear hy624
                      have H' := Aside0.mk H
                      clear H
                      try go_wp2
                      have n0_ := Aside0.mk (Kd.R_drew HO_7.out)
                      have n1_ := Aside0.mk (blk_drew BK605.out)
                      have n2_ := Aside0.mk (blk_drew BK606.out)
                      have n3_ := Aside0.mk (below_drew1 HB.out)
                      clear HO_7
                      clear BK605
                      clear BK606
                      clear HB
                      have HO_7 := n0_
                      have BK605 := n1_
                      have BK606 := n2_
                      have HB := n3_
                      clear n0_ n1_ n2_ n3_
                      have p611 : 0 ≤ (x22_2 : Int) := of_decide_eq_true (by first | (with_reducible assumption) | assumption)
                      have q611 : x22_2 < (l0_6.length : Int) := of_decide_eq_true (by first | (with_reducible assumption) | assumption)
                      obtain ⟨ad611, A611_6, c611_6, e611, hx611_0, hx611_1, hx611_2, hx611_3, hx611_4, hx611_5, hx611_6, hl611_6, hi611_6⟩ := at_T26 HR0_6.out x22_2 p611 q611
                      have hw611_6 := hx611_6
                      have hw611_5 := hx611_5
                      have hw611_4 := hx611_4
                      have hw611_3 := hx611_3
                      have hw611_2 := hx611_2
                      have hw611_1 := hx611_1
                      have hw611_0 := hx611_0
                      cases e611
                      replace hx611_0 := (HB.out.cell (World.block_lt_of_cell? w _ hx611_0)).trans hx611_0
                      replace hx611_1 := (HB.out.cell (World.block_lt_of_cell? w _ hx611_1)).trans hx611_1
                      replace hx611_2 := (HB.out.cell (World.block_lt_of_cell? w _ hx611_2)).trans hx611_2
                      replace hx611_3 := (HB.out.cell (World.block_lt_of_cell? w _ hx611_3)).trans hx611_3
                      replace hx611_4 := (HB.out.cell (World.block_lt_of_cell? w _ hx611_4)).trans hx611_4
                      replace hx611_5 := (HB.out.cell (World.block_lt_of_cell? w _ hx611_5)).trans hx611_5
                      replace hx611_6 := (HB.out.cell (World.block_lt_of_cell? w _ hx611_6)).trans hx611_6
                      have HR611_6 := Aside0.mk hi611_6
                      have HC611_6 := Aside0.mk hl611_6
                      clear hi611_6 hl611_6
                      replace p611 := eq_true p611
                      replace q611 := eq_true q611
                      obtain ⟨i024, hi024, _, hsz24, _⟩ := info_parts info3
                      obtain ⟨A24, hcut24, hA24, hC24⟩ := print_drop_of (P := Try.prog) (Value.int .i64) 0 41 3 .i64 Try.underlying41 hi024 hsz24 A1 c1 l1 x6_2 (of_decide_eq_true (by first | (with_reducible assumption) | assumption)) (of_decide_eq_true (by first | (with_reducible assumption) | assumption)) HC1.out
                      have HR612 := Aside0.mk (Kd.C_of_reads (h1 := fun _ => rfl) (hA24 _ (Kd.reads_of_C HR1.out)))
                      have HC612 := Aside0.mk hC24
                      clear hA24 hC24 hi024 hsz24
                      refine start_ (n := 15) (S := fun w' => w'.cell? ⟨gb605, 0, none⟩ = some (.int .u8 a0_0) ∧ w'.cell? ⟨gb605, 1, none⟩ = some (.int .i64 a0_1) ∧ w'.cell? ⟨gb605, 2, none⟩ = some (.int .i64 a0_2) ∧ w'.cell? ⟨gb605, 3, none⟩ = some (.int .i64 a0_3) ∧ w'.cell? ⟨gb605, 4, none⟩ = some (.int .i64 a0_4) ∧ w'.cell? ⟨gb605, 5, none⟩ = some (.int .i64 x606005_2) ∧ w'.cell? ⟨gb605, 6, none⟩ = some (.slice (some ad611) l0_6.length c0_6) ∧ w'.cell? (ad611.add ((x22_2).toNat * 7)) = some (.int .u8 ((rd_T26 l0_6 x22_2).f0)) ∧ w'.cell? ⟨(ad611.add ((x22_2).toNat * 7)).block, (ad611.add ((x22_2).toNat * 7)).off + 1, none⟩ = some (.int .i64 ((rd_T26 l0_6 x22_2).f1.f0)) ∧ w'.cell? ⟨(ad611.add ((x22_2).toNat * 7)).block, (ad611.add ((x22_2).toNat * 7)).off + 2, none⟩ = some (.int .i64 ((rd_T26 l0_6 x22_2).f1.f1)) ∧ w'.cell? ⟨(ad611.add ((x22_2).toNat * 7)).block, (ad611.add ((x22_2).toNat * 7)).off + 3, none⟩ = some (.int .i64 ((rd_T26 l0_6 x22_2).f1.f2)) ∧ w'.cell? ⟨(ad611.add ((x22_2).toNat * 7)).block, (ad611.add ((x22_2).toNat * 7)).off + 4, none⟩ = some (.int .i64 ((rd_T26 l0_6 x22_2).f1.f3)) ∧ w'.cell? ⟨(ad611.add ((x22_2).toNat * 7)).block, (ad611.add ((x22_2).toNat * 7)).off + 5, none⟩ = some (.int .i64 ((rd_T26 l0_6 x22_2).f2)) ∧ w'.cell? ⟨(ad611.add ((x22_2).toNat * 7)).block, (ad611.add ((x22_2).toNat * 7)).off + 6, none⟩ = some (.slice A611_6 ((rd_T26 l0_6 x22_2).f3).length c611_6)) (ds := []) #[false, false, false, false, false, false, false, false, false, false, false, false, false, false, false] (by kernel_rfl) rfl rfl ⟨(blk_cell BK605.out 0).trans rfl, (blk_cell BK605.out 1).trans rfl, (blk_cell BK605.out 2).trans rfl, (blk_cell BK605.out 3).trans rfl, (blk_cell BK605.out 4).trans rfl, (blk_cell BK605.out 5).trans rfl, (blk_cell BK605.out 6).trans rfl, ((HB.out.cell (World.block_lt_of_cell? w _ hw611_0)).trans hw611_0), ((HB.out.cell (World.block_lt_of_cell? w _ hw611_1)).trans hw611_1), ((HB.out.cell (World.block_lt_of_cell? w _ hw611_2)).trans hw611_2), ((HB.out.cell (World.block_lt_of_cell? w _ hw611_3)).trans hw611_3), ((HB.out.cell (World.block_lt_of_cell? w _ hw611_4)).trans hw611_4), ((HB.out.cell (World.block_lt_of_cell? w _ hw611_5)).trans hw611_5), ((HB.out.cell (World.block_lt_of_cell? w _ hw611_6)).trans hw611_6)⟩ (fun hHeld => ?_); refine with_tabW sashref07_Name.tab9 sashref07_Name.bits9 (fun HT_ HW_ => ?_)
                      generalize wr.drew = w23 at HO_7 BK605 BK606 HB HR611_6 HR612 hx611_0 hx611_1 hx611_2 hx611_3 hx611_4 hx611_5 hx611_6 hHeld ⊢
                      refine pure_ (i := 0) (N := some 26) (v := ?_) (a' := ?_) #[true, false, false, false, false, false, false, false, false, false, false, false, false, false, false] rfl rfl (any_of HT_.out (by kernel_rfl)) (fun _ _ _ h => h) (Or.inl ⟨by rfl, ?_⟩) ?_ ?_
                      rotate_left
                      · intro w'
                        go_simp
                        with_reducible rfl
                      rotate_left
                      · simp only [Act.put, List.setIfInBounds_toArray, List.set_cons_zero, List.set_cons_succ, i64_w, i32_w]
                        rfl
                      refine pure_ (i := 2) (N := some 28) (v := ?_) (a' := ?_) #[true, false, true, false, false, false, false, false, false, false, false, false, false, false, false] rfl rfl (any_of HT_.out (by kernel_rfl)) (fun _ _ _ h => h) (Or.inl ⟨by rfl, ?_⟩) ?_ ?_
                      rotate_left
                      · intro w'
                        go_simp
                        with_reducible rfl
                      rotate_left
                      · simp only [Act.put, List.setIfInBounds_toArray, List.set_cons_zero, List.set_cons_succ, i64_w, i32_w]
                        rfl
                      refine pure_ (i := 5) (N := some 31) (v := ?_) (a' := ?_) #[true, false, true, false, false, true, false, false, false, false, false, false, false, false, false] rfl rfl (any_of HT_.out (by kernel_rfl)) (fun _ _ _ h => h) (Or.inl ⟨by rfl, ?_⟩) ?_ ?_
                      rotate_left
                      · intro w'
                        go_simp
                        with_reducible rfl
                      rotate_left
                      · simp only [Act.put, List.setIfInBounds_toArray, List.set_cons_zero, List.set_cons_succ, i64_w, i32_w]
                        rfl
                      refine pure_ (i := 6) (N := some 32) (v := ?_) (a' := ?_) #[true, false, true, false, false, true, true, false, false, false, false, false, false, false, false] rfl rfl (any_of HT_.out (by kernel_rfl)) (fun _ _ _ h => h) (Or.inl ⟨by rfl, ?_⟩) ?_ ?_
                      rotate_left
                      · intro w'
                        go_simp
                        with_reducible rfl
                      rotate_left
                      · simp only [Act.put, List.setIfInBounds_toArray, List.set_cons_zero, List.set_cons_succ, i64_w, i32_w]
                        rfl
                      refine pure_ (i := 7) (N := some 33) (v := ?_) (a' := ?_) #[true, false, true, false, false, true, true, true, false, false, false, false, false, false, false] rfl rfl (any_of HT_.out (by kernel_rfl)) (fun _ _ _ h => h) (Or.inl ⟨by rfl, ?_⟩) ?_ ?_
                      rotate_left
                      · intro w'
                        go_simp
                        with_reducible rfl
                      rotate_left
                      · simp only [Act.put, List.setIfInBounds_toArray, List.set_cons_zero, List.set_cons_succ, i64_w, i32_w]
                        rfl
                      refine take_ (i := 1) (N := some 27) (v := ?_) (a' := ?_) #[true, true, true, false, false, true, true, true, false, false, false, false, false, false, false] rfl rfl (take_ofW HT_.out HW_.out (by kernel_rfl)) (fun _ _ _ h => h) (Or.inl ⟨by rfl, ?_⟩) hHeld ?_ ?_
                      rotate_left
                      · rintro w' ⟨s0, s1, s2, s3, s4, s5, s6, s7, s8, s9, s10, s11, s12, s13⟩
                        go_simp
                        with_reducible rfl
                      rotate_left
                      · simp only [Act.put, List.setIfInBounds_toArray, List.set_cons_zero, List.set_cons_succ, i64_w, i32_w]
                        rfl
                      refine pure_ (i := 3) (N := some 29) (v := ?_) (a' := ?_) #[true, true, true, true, false, true, true, true, false, false, false, false, false, false, false] rfl rfl (any_of HT_.out (by kernel_rfl)) (fun _ _ _ h => h) (Or.inl ⟨by rfl, ?_⟩) ?_ ?_
                      rotate_left
                      · intro w'
                        go_simp
                        with_reducible rfl
                      rotate_left
                      · simp only [Act.put, List.setIfInBounds_toArray, List.set_cons_zero, List.set_cons_succ, i64_w, i32_w]
                        rfl
                      refine take_ (i := 4) (N := some 30) (v := ?_) (a' := ?_) #[true, true, true, true, true, true, true, true, false, false, false, false, false, false, false] rfl rfl (take_ofW HT_.out HW_.out (by kernel_rfl)) (fun _ _ _ h => h) (Or.inl ⟨by rfl, ?_⟩) hHeld ?_ ?_
                      rotate_left
                      · rintro w' ⟨s0, s1, s2, s3, s4, s5, s6, s7, s8, s9, s10, s11, s12, s13⟩
                        go_simp
                        with_reducible rfl
                      rotate_left
                      · simp only [Act.put, List.setIfInBounds_toArray, List.set_cons_zero, List.set_cons_succ, i64_w, i32_w]
                        rfl
                      refine join_ (σ := Value × Nat) 2 #[true, true, true, true, true, true, true, true, true, true, true, true, true, false, false] (fun s_ => [(34, .tuple #[.agg #[.int .u8 t613, .int .i64 t614, .int .i64 t615, .int .i64 t616, .int .i64 t617, .int .i64 t618, s_.1], .int .i64 t622]), (9, .pointer (some ⟨s_.2, 0, none⟩)), (25, .tuple #[.agg #[.int .u8 t613, .int .i64 t614, .int .i64 t615, .int .i64 t616, .int .i64 t617, .int .i64 t618, s_.1], .int .i64 t622]), (35, .agg #[.int .u8 t613, .int .i64 t614, .int .i64 t615, .int .i64 t616, .int .i64 t617, .int .i64 t618, s_.1]), (36, .int .i64 t622)]) (fun s_ w' => (w'.cell? ⟨gb605, 0, none⟩ = some (.int .u8 a0_0) ∧ w'.cell? ⟨gb605, 1, none⟩ = some (.int .i64 a0_1) ∧ w'.cell? ⟨gb605, 2, none⟩ = some (.int .i64 a0_2) ∧ w'.cell? ⟨gb605, 3, none⟩ = some (.int .i64 a0_3) ∧ w'.cell? ⟨gb605, 4, none⟩ = some (.int .i64 a0_4) ∧ w'.cell? ⟨gb605, 5, none⟩ = some (.int .i64 x606005_2) ∧ w'.cell? ⟨gb605, 6, none⟩ = some (.slice (some ad611) l0_6.length c0_6) ∧ w'.cell? (ad611.add ((x22_2).toNat * 7)) = some (.int .u8 ((rd_T26 l0_6 x22_2).f0)) ∧ w'.cell? ⟨(ad611.add ((x22_2).toNat * 7)).block, (ad611.add ((x22_2).toNat * 7)).off + 1, none⟩ = some (.int .i64 ((rd_T26 l0_6 x22_2).f1.f0)) ∧ w'.cell? ⟨(ad611.add ((x22_2).toNat * 7)).block, (ad611.add ((x22_2).toNat * 7)).off + 2, none⟩ = some (.int .i64 ((rd_T26 l0_6 x22_2).f1.f1)) ∧ w'.cell? ⟨(ad611.add ((x22_2).toNat * 7)).block, (ad611.add ((x22_2).toNat * 7)).off + 3, none⟩ = some (.int .i64 ((rd_T26 l0_6 x22_2).f1.f2)) ∧ w'.cell? ⟨(ad611.add ((x22_2).toNat * 7)).block, (ad611.add ((x22_2).toNat * 7)).off + 4, none⟩ = some (.int .i64 ((rd_T26 l0_6 x22_2).f1.f3)) ∧ w'.cell? ⟨(ad611.add ((x22_2).toNat * 7)).block, (ad611.add ((x22_2).toNat * 7)).off + 5, none⟩ = some (.int .i64 ((rd_T26 l0_6 x22_2).f2)) ∧ w'.cell? ⟨(ad611.add ((x22_2).toNat * 7)).block, (ad611.add ((x22_2).toNat * 7)).off + 6, none⟩ = some (.slice A611_6 ((rd_T26 l0_6 x22_2).f3).length c611_6)) ∧ (Kd.R k26 26 w' w.heap.size (fun k_ => some k_ ≠ (u7 : Value).ownBlock ∧ k_ ≠ gb605 ∧ k_ ≠ gb606 ∧ k_ ≠ s_.2) s_.1 t619) ∧ (Kd.R k26 26 w' w.heap.size (fun k_ => some k_ ≠ (s_.1 : Value).ownBlock ∧ k_ ≠ gb605 ∧ k_ ≠ gb606 ∧ k_ ≠ s_.2) u7 x7_2) ∧ (w'.heap[gb605]? = some (.cells #[.int .u8 a0_0, .int .i64 a0_1, .int .i64 a0_2, .int .i64 a0_3, .int .i64 a0_4, .int .i64 x606005_2, .slice (some ad611) l0_6.length c0_6] 26 (0, 0))) ∧ (w'.heap[gb606]? = some (.cells #[.int .u8 0, .int .i64 0, .int .i64 0, .int .i64 0, .int .i64 0, .int .i64 0, .slice none 0 0] 26 (0, 0))) ∧ (w'.heap[s_.2]? = some (.cells #[.int .u8 0, .int .i64 0, .int .i64 0, .int .i64 0, .int .i64 0, .int .i64 0, .slice none 0 0] 26 (0, 0))) ∧ (w.heap.size ≤ s_.2) ∧ (w.heap.size ≤ s_.2) ∧ (gb605 ≠ s_.2) ∧ (s_.2 ≠ gb605) ∧ (gb606 ≠ s_.2) ∧ (s_.2 ≠ gb606) ∧ (Below w.heap.size w w')) ?_ ?_
                      rotate_left
                      · intro hCont
                        refine two_ (i := 8) (j := 12) (Ni := some 34) (Nj := some 9) #[true, true, true, true, true, true, true, true, true, false, false, false, false, false, false] #[true, true, true, true, true, true, true, true, false, false, false, false, true, false, false] rfl rfl rfl rfl (two_of HT_.out (by kernel_rfl)) (by decide) (by decide) (fun K hK => ?_) (fun K hK => ?_)
                        · skip
                          refine goes_ Try.func65 (by kernel_rfl) rfl #[.agg #[.int .u8 ((rd_T26 l0_6 x22_2).f0), .int .i64 ((rd_T26 l0_6 x22_2).f1.f0), .int .i64 ((rd_T26 l0_6 x22_2).f1.f1), .int .i64 ((rd_T26 l0_6 x22_2).f1.f2), .int .i64 ((rd_T26 l0_6 x22_2).f1.f3), .int .i64 ((rd_T26 l0_6 x22_2).f2), .slice A611_6 ((rd_T26 l0_6 x22_2).f3).length c611_6], .slice A24 (l1.drop (x6_2 : Int).toNat).length (c1 - x6_2.toNat)] (by rfl) rfl rfl (by (try simp only [List.map_toArray, List.map_cons, List.map_nil]); first | done | (rw [show (l1.drop (x6_2 : Int).toNat).length = (l1.length - x6_2.toNat) from List.length_drop] <;> rfl) | rfl | (simp only [List.length_drop, List.length_take]; rfl)) ?_
                          with_reducible refine (ih k2 (by have := HJ2.out; have := HK2.out; omega) ((rd_T26 l0_6 x22_2).f0) ((rd_T26 l0_6 x22_2).f1.f0) ((rd_T26 l0_6 x22_2).f1.f1) ((rd_T26 l0_6 x22_2).f1.f2) ((rd_T26 l0_6 x22_2).f1.f3) ((rd_T26 l0_6 x22_2).f2) _ _ ((rd_T26 l0_6 x22_2).f3) _ _ (l1.drop (x6_2 : Int).toNat) t613 t614 t615 t616 t617 t618 t619 t622 _ ?side1 ?side2 ?side3 ?side4 A21.out).mono ?_
                          (case side1 => repeat (first | exact (Kd.C_below HR611_6.out HB.out) | (with_reducible refine Kd.C_alloc ?_ _) | (with_reducible refine Kd.C_drewN ?_ _) | (with_reducible refine Kd.C_drew ?_)))
                          (case side2 => exact HC611_6.out)
                          (case side3 => repeat (first | exact (Kd.C_below HR612.out HB.out) | (with_reducible refine Kd.C_alloc ?_ _) | (with_reducible refine Kd.C_drewN ?_ _) | (with_reducible refine Kd.C_drew ?_)))
                          (case side4 => exact HC612.out)
                          rintro e w25 ⟨v620, rfl, ho0, hb⟩
                          refine ⟨_, rfl, ?_⟩
                          have n0_ := Aside0.mk (Kd.R_elder' (by (with_reducible repeat (first | apply Kd.R_alloc | apply Kd.R_drewN | apply Kd.R_drew)); exact HO_7.out) (Kd.R_base ho0) hb)
                          have n1_ := Aside0.mk (Kd.R_lower (Kd.R_newB (Kd.R_newB (Kd.R_new' ho0 (Kd.R_lt (by (with_reducible repeat (first | apply Kd.R_alloc | apply Kd.R_drewN | apply Kd.R_drew)); exact HO_7.out))) (g := gb605) (o := .cells #[.int .u8 a0_0, .int .i64 a0_1, .int .i64 a0_2, .int .i64 a0_3, .int .i64 a0_4, .int .i64 x606005_2, .slice (some ad611) l0_6.length c0_6] 26 (0, 0)) (by (with_reducible repeat (first | refine blk_drewN ?_ _ | refine blk_drew ?_ | refine blk_alloc ?_ _)); exact BK605.out)) (g := gb606) (o := .cells #[.int .u8 0, .int .i64 0, .int .i64 0, .int .i64 0, .int .i64 0, .int .i64 0, .slice none 0 0] 26 (0, 0)) (by (with_reducible repeat (first | refine blk_drewN ?_ _ | refine blk_drew ?_ | refine blk_alloc ?_ _)); exact BK606.out)) (below_size (by repeat (first | (with_reducible first | exact HB.out | apply below_alloc | apply pw_below_drewN | apply below_drew1 | refine below_set ?_ GE605.out | refine below_set ?_ GE606.out) | exact HB.out))))
                          have n2_ := Aside0.mk (blk_below (g := gb605) (o := .cells #[.int .u8 a0_0, .int .i64 a0_1, .int .i64 a0_2, .int .i64 a0_3, .int .i64 a0_4, .int .i64 x606005_2, .slice (some ad611) l0_6.length c0_6] 26 (0, 0)) (by (with_reducible repeat (first | refine blk_drewN ?_ _ | refine blk_drew ?_ | refine blk_alloc ?_ _)); exact BK605.out) hb)
                          have n3_ := Aside0.mk (blk_below (g := gb606) (o := .cells #[.int .u8 0, .int .i64 0, .int .i64 0, .int .i64 0, .int .i64 0, .int .i64 0, .slice none 0 0] 26 (0, 0)) (by (with_reducible repeat (first | refine blk_drewN ?_ _ | refine blk_drew ?_ | refine blk_alloc ?_ _)); exact BK606.out) hb)
                          have n4_ := Aside0.mk (below_step (by repeat (first | (with_reducible first | exact HB.out | apply below_alloc | apply pw_below_drewN | apply below_drew1 | refine below_set ?_ GE605.out | refine below_set ?_ GE606.out) | exact HB.out)) hb)
                          clear HO_7
                          clear BK605
                          clear BK606
                          clear HB
                          have HO_7 := n0_
                          have HO621 := n1_
                          have BK605 := n2_
                          have BK606 := n3_
                          have HB := n4_
                          clear n0_ n1_ n2_ n3_ n4_
                          (try clear hb)
                          (try clear hb2)
                          (try clear hk)
                          (try clear hi)
                          (try clear ho0)
                          refine hK.out _ _ ⟨(blk_cell BK605.out 0).trans rfl, (blk_cell BK605.out 1).trans rfl, (blk_cell BK605.out 2).trans rfl, (blk_cell BK605.out 3).trans rfl, (blk_cell BK605.out 4).trans rfl, (blk_cell BK605.out 5).trans rfl, (blk_cell BK605.out 6).trans rfl, ((HB.out.cell (World.block_lt_of_cell? w _ hw611_0)).trans hw611_0), ((HB.out.cell (World.block_lt_of_cell? w _ hw611_1)).trans hw611_1), ((HB.out.cell (World.block_lt_of_cell? w _ hw611_2)).trans hw611_2), ((HB.out.cell (World.block_lt_of_cell? w _ hw611_3)).trans hw611_3), ((HB.out.cell (World.block_lt_of_cell? w _ hw611_4)).trans hw611_4), ((HB.out.cell (World.block_lt_of_cell? w _ hw611_5)).trans hw611_5), ((HB.out.cell (World.block_lt_of_cell? w _ hw611_6)).trans hw611_6)⟩ (fun hHeld => ?_)
                          clear hK K
                          refine norm_ (a' := ?_) ?_ ?_
                          rotate_left
                          · show Act.put _ (some 34) _ = _
                            simp only [Act.put, List.setIfInBounds_toArray, List.set_cons_zero, List.set_cons_succ, i64_w, i32_w]
                            rfl
                          refine pure_ (i := 9) (N := some 25) (v := ?_) (a' := ?_) #[true, true, true, true, true, true, true, true, true, true, false, false, false, false, false] rfl rfl (any_of HT_.out (by kernel_rfl)) (fun _ _ _ h => h) (Or.inl ⟨by rfl, ?_⟩) ?_ ?_
                          rotate_left
                          · intro w'
                            go_simp
                            with_reducible rfl
                          rotate_left
                          · simp only [Act.put, List.setIfInBounds_toArray, List.set_cons_zero, List.set_cons_succ, i64_w, i32_w]
                            rfl
                          refine pure_ (i := 10) (N := some 35) (v := ?_) (a' := ?_) #[true, true, true, true, true, true, true, true, true, true, true, false, false, false, false] rfl rfl (any_of HT_.out (by kernel_rfl)) (fun _ _ _ h => h) (Or.inl ⟨by rfl, ?_⟩) ?_ ?_
                          rotate_left
                          · intro w'
                            go_simp
                            with_reducible rfl
                          rotate_left
                          · simp only [Act.put, List.setIfInBounds_toArray, List.set_cons_zero, List.set_cons_succ, i64_w, i32_w]
                            rfl
                          refine pure_ (i := 11) (N := some 36) (v := ?_) (a' := ?_) #[true, true, true, true, true, true, true, true, true, true, true, true, false, false, false] rfl rfl (any_of HT_.out (by kernel_rfl)) (fun _ _ _ h => h) (Or.inl ⟨by rfl, ?_⟩) ?_ ?_
                          rotate_left
                          · intro w'
                            go_simp
                            with_reducible rfl
                          rotate_left
                          · simp only [Act.put, List.setIfInBounds_toArray, List.set_cons_zero, List.set_cons_succ, i64_w, i32_w]
                            rfl
                          refine one_ (i := 12) (N := some 9) #[true, true, true, true, true, true, true, true, true, true, true, true, true, false, false] rfl rfl (one_of HT_.out (by kernel_rfl)) (by decide) (fun K hK => ?_)
                          refine box_step ?hg (N := 9) ?hd (cs := #[.int .u8 0, .int .i64 0, .int .i64 0, .int .i64 0, .int .i64 0, .int .i64 0, .slice none 0 0]) (t := 26) ?hr ?_; (case hd => rfl); (case hg => rfl); (case hr => first | (go_simp; done) | (go_simp; rfl))
                          intro gb623 hg w26 hbox hb
                          have n0_ := Aside0.mk (Kd.R_below (Kd.R_elderB (by (with_reducible repeat (first | apply Kd.R_alloc | apply Kd.R_drewN | apply Kd.R_drew)); exact HO_7.out) gb623 (Nat.le_of_eq hg.symm)) hb)
                          have n1_ := Aside0.mk (Kd.R_below (Kd.R_elderB (by (with_reducible repeat (first | apply Kd.R_alloc | apply Kd.R_drewN | apply Kd.R_drew)); exact HO621.out) gb623 (Nat.le_of_eq hg.symm)) hb)
                          have n2_ := Aside0.mk (blk_below (g := gb605) (o := .cells #[.int .u8 a0_0, .int .i64 a0_1, .int .i64 a0_2, .int .i64 a0_3, .int .i64 a0_4, .int .i64 x606005_2, .slice (some ad611) l0_6.length c0_6] 26 (0, 0)) (by (with_reducible repeat (first | refine blk_drewN ?_ _ | refine blk_drew ?_ | refine blk_alloc ?_ _)); exact BK605.out) hb)
                          have n3_ := Aside0.mk (blk_below (g := gb606) (o := .cells #[.int .u8 0, .int .i64 0, .int .i64 0, .int .i64 0, .int .i64 0, .int .i64 0, .slice none 0 0] 26 (0, 0)) (by (with_reducible repeat (first | refine blk_drewN ?_ _ | refine blk_drew ?_ | refine blk_alloc ?_ _)); exact BK606.out) hb)
                          have n4_ := Aside0.mk (below_step (by repeat (first | (with_reducible first | exact HB.out | apply below_alloc | apply pw_below_drewN | apply below_drew1 | refine below_set ?_ GE605.out | refine below_set ?_ GE606.out) | exact HB.out)) hb)
                          have n5_ := Aside0.mk (hbox)
                          have n6_ := Aside0.mk ((by rw [hg]; exact (below_size (by repeat (first | (with_reducible first | exact HB.out | apply below_alloc | apply pw_below_drewN | apply below_drew1 | refine below_set ?_ GE605.out | refine below_set ?_ GE606.out) | exact HB.out))) : w.heap.size ≤ gb623))
                          have n7_ := Aside0.mk ((by rw [hg]; exact (below_size (by repeat (first | (with_reducible first | exact HB.out | apply below_alloc | apply pw_below_drewN | apply below_drew1 | refine below_set ?_ GE605.out | refine below_set ?_ GE606.out) | exact HB.out))) : w.heap.size ≤ gb623))
                          have n8_ := Aside0.mk ((by rw [hg]; exact Nat.ne_of_lt (blk_lt (g := gb605) (o := .cells #[.int .u8 a0_0, .int .i64 a0_1, .int .i64 a0_2, .int .i64 a0_3, .int .i64 a0_4, .int .i64 x606005_2, .slice (some ad611) l0_6.length c0_6] 26 (0, 0)) (by (with_reducible repeat (first | refine blk_drewN ?_ _ | refine blk_drew ?_ | refine blk_alloc ?_ _)); exact BK605.out)) : gb605 ≠ gb623))
                          have n9_ := Aside0.mk ((by rw [hg]; exact Nat.ne_of_gt (blk_lt (g := gb605) (o := .cells #[.int .u8 a0_0, .int .i64 a0_1, .int .i64 a0_2, .int .i64 a0_3, .int .i64 a0_4, .int .i64 x606005_2, .slice (some ad611) l0_6.length c0_6] 26 (0, 0)) (by (with_reducible repeat (first | refine blk_drewN ?_ _ | refine blk_drew ?_ | refine blk_alloc ?_ _)); exact BK605.out)) : gb623 ≠ gb605))
                          have n10_ := Aside0.mk ((by rw [hg]; exact Nat.ne_of_lt (blk_lt (g := gb606) (o := .cells #[.int .u8 0, .int .i64 0, .int .i64 0, .int .i64 0, .int .i64 0, .int .i64 0, .slice none 0 0] 26 (0, 0)) (by (with_reducible repeat (first | refine blk_drewN ?_ _ | refine blk_drew ?_ | refine blk_alloc ?_ _)); exact BK606.out)) : gb606 ≠ gb623))
                          have n11_ := Aside0.mk ((by rw [hg]; exact Nat.ne_of_gt (blk_lt (g := gb606) (o := .cells #[.int .u8 0, .int .i64 0, .int .i64 0, .int .i64 0, .int .i64 0, .int .i64 0, .slice none 0 0] 26 (0, 0)) (by (with_reducible repeat (first | refine blk_drewN ?_ _ | refine blk_drew ?_ | refine blk_alloc ?_ _)); exact BK606.out)) : gb623 ≠ gb606))
                          clear HO_7
                          clear HO621
                          clear BK605
                          clear BK606
                          clear HB
                          have HO_7 := n0_
                          have HO621 := n1_
                          have BK605 := n2_
                          have BK606 := n3_
                          have HB := n4_
                          have BK623 := n5_
                          have GW623 := n6_
                          have GE623 := n7_
                          have NB605_623 := n8_
                          have NB623_605 := n9_
                          have NB606_623 := n10_
                          have NB623_606 := n11_
                          clear n0_ n1_ n2_ n3_ n4_ n5_ n6_ n7_ n8_ n9_ n10_ n11_
                          clear hb hbox hg
                          refine hK.out _ _ ⟨(blk_cell BK605.out 0).trans rfl, (blk_cell BK605.out 1).trans rfl, (blk_cell BK605.out 2).trans rfl, (blk_cell BK605.out 3).trans rfl, (blk_cell BK605.out 4).trans rfl, (blk_cell BK605.out 5).trans rfl, (blk_cell BK605.out 6).trans rfl, ((HB.out.cell (World.block_lt_of_cell? w _ hw611_0)).trans hw611_0), ((HB.out.cell (World.block_lt_of_cell? w _ hw611_1)).trans hw611_1), ((HB.out.cell (World.block_lt_of_cell? w _ hw611_2)).trans hw611_2), ((HB.out.cell (World.block_lt_of_cell? w _ hw611_3)).trans hw611_3), ((HB.out.cell (World.block_lt_of_cell? w _ hw611_4)).trans hw611_4), ((HB.out.cell (World.block_lt_of_cell? w _ hw611_5)).trans hw611_5), ((HB.out.cell (World.block_lt_of_cell? w _ hw611_6)).trans hw611_6)⟩ (fun hHeld => ?_)
                          clear hK K
                          refine norm_ (a' := ?_) ?_ ?_
                          rotate_left
                          · show Act.put _ (some 9) _ = _
                            simp only [Act.put, List.setIfInBounds_toArray, List.set_cons_zero, List.set_cons_succ, i64_w, i32_w]
                            rfl
                          exact norm_ (by simp only [putAll, Act.put, List.setIfInBounds_toArray, List.set_cons_zero, List.set_cons_succ]) (hCont (v620, gb623) _ ⟨hHeld, (by (with_reducible repeat (first | apply Kd.R_alloc | apply Kd.R_drewN | apply Kd.R_drew)); exact Kd.R_mono HO621.out (fun _ hk => ⟨hk.1.1.1.2, ⟨hk.1.1.2, ⟨hk.1.2, hk.2⟩⟩⟩)), (by (with_reducible repeat (first | apply Kd.R_alloc | apply Kd.R_drewN | apply Kd.R_drew)); exact Kd.R_mono HO_7.out (fun _ hk => ⟨hk.1.2, ⟨hk.1.1.1, ⟨hk.1.1.2, hk.2⟩⟩⟩)), (by (with_reducible repeat (first | refine blk_drewN ?_ _ | refine blk_drew ?_ | refine blk_alloc ?_ _)); exact BK605.out), (by (with_reducible repeat (first | refine blk_drewN ?_ _ | refine blk_drew ?_ | refine blk_alloc ?_ _)); exact BK606.out), (by (with_reducible repeat (first | refine blk_drewN ?_ _ | refine blk_drew ?_ | refine blk_alloc ?_ _)); exact BK623.out), GW623.out, GE623.out, NB605_623.out, NB623_605.out, NB606_623.out, NB623_606.out, (by repeat (first | (with_reducible first | exact HB.out | apply below_alloc | apply pw_below_drewN | apply below_drew1 | refine below_set ?_ GE605.out | refine below_set ?_ GE606.out | refine below_set ?_ GE623.out) | exact HB.out))⟩)
                        · skip
                          refine box_step ?hg (N := 9) ?hd (cs := #[.int .u8 0, .int .i64 0, .int .i64 0, .int .i64 0, .int .i64 0, .int .i64 0, .slice none 0 0]) (t := 26) ?hr ?_; (case hd => rfl); (case hg => rfl); (case hr => first | (go_simp; done) | (go_simp; rfl))
                          intro gb623 hg w25 hbox hb
                          have n0_ := Aside0.mk (Kd.R_below (Kd.R_elderB (by (with_reducible repeat (first | apply Kd.R_alloc | apply Kd.R_drewN | apply Kd.R_drew)); exact HO_7.out) gb623 (Nat.le_of_eq hg.symm)) hb)
                          have n1_ := Aside0.mk (blk_below (g := gb605) (o := .cells #[.int .u8 a0_0, .int .i64 a0_1, .int .i64 a0_2, .int .i64 a0_3, .int .i64 a0_4, .int .i64 x606005_2, .slice (some ad611) l0_6.length c0_6] 26 (0, 0)) (by (with_reducible repeat (first | refine blk_drewN ?_ _ | refine blk_drew ?_ | refine blk_alloc ?_ _)); exact BK605.out) hb)
                          have n2_ := Aside0.mk (blk_below (g := gb606) (o := .cells #[.int .u8 0, .int .i64 0, .int .i64 0, .int .i64 0, .int .i64 0, .int .i64 0, .slice none 0 0] 26 (0, 0)) (by (with_reducible repeat (first | refine blk_drewN ?_ _ | refine blk_drew ?_ | refine blk_alloc ?_ _)); exact BK606.out) hb)
                          have n3_ := Aside0.mk (below_step (by repeat (first | (with_reducible first | exact HB.out | apply below_alloc | apply pw_below_drewN | apply below_drew1 | refine below_set ?_ GE605.out | refine below_set ?_ GE606.out) | exact HB.out)) hb)
                          have n4_ := Aside0.mk (hbox)
                          have n5_ := Aside0.mk ((by rw [hg]; exact (below_size (by repeat (first | (with_reducible first | exact HB.out | apply below_alloc | apply pw_below_drewN | apply below_drew1 | refine below_set ?_ GE605.out | refine below_set ?_ GE606.out) | exact HB.out))) : w.heap.size ≤ gb623))
                          have n6_ := Aside0.mk ((by rw [hg]; exact (below_size (by repeat (first | (with_reducible first | exact HB.out | apply below_alloc | apply pw_below_drewN | apply below_drew1 | refine below_set ?_ GE605.out | refine below_set ?_ GE606.out) | exact HB.out))) : w.heap.size ≤ gb623))
                          have n7_ := Aside0.mk ((by rw [hg]; exact Nat.ne_of_lt (blk_lt (g := gb605) (o := .cells #[.int .u8 a0_0, .int .i64 a0_1, .int .i64 a0_2, .int .i64 a0_3, .int .i64 a0_4, .int .i64 x606005_2, .slice (some ad611) l0_6.length c0_6] 26 (0, 0)) (by (with_reducible repeat (first | refine blk_drewN ?_ _ | refine blk_drew ?_ | refine blk_alloc ?_ _)); exact BK605.out)) : gb605 ≠ gb623))
                          have n8_ := Aside0.mk ((by rw [hg]; exact Nat.ne_of_gt (blk_lt (g := gb605) (o := .cells #[.int .u8 a0_0, .int .i64 a0_1, .int .i64 a0_2, .int .i64 a0_3, .int .i64 a0_4, .int .i64 x606005_2, .slice (some ad611) l0_6.length c0_6] 26 (0, 0)) (by (with_reducible repeat (first | refine blk_drewN ?_ _ | refine blk_drew ?_ | refine blk_alloc ?_ _)); exact BK605.out)) : gb623 ≠ gb605))
                          have n9_ := Aside0.mk ((by rw [hg]; exact Nat.ne_of_lt (blk_lt (g := gb606) (o := .cells #[.int .u8 0, .int .i64 0, .int .i64 0, .int .i64 0, .int .i64 0, .int .i64 0, .slice none 0 0] 26 (0, 0)) (by (with_reducible repeat (first | refine blk_drewN ?_ _ | refine blk_drew ?_ | refine blk_alloc ?_ _)); exact BK606.out)) : gb606 ≠ gb623))
                          have n10_ := Aside0.mk ((by rw [hg]; exact Nat.ne_of_gt (blk_lt (g := gb606) (o := .cells #[.int .u8 0, .int .i64 0, .int .i64 0, .int .i64 0, .int .i64 0, .int .i64 0, .slice none 0 0] 26 (0, 0)) (by (with_reducible repeat (first | refine blk_drewN ?_ _ | refine blk_drew ?_ | refine blk_alloc ?_ _)); exact BK606.out)) : gb623 ≠ gb606))
                          clear HO_7
                          clear BK605
                          clear BK606
                          clear HB
                          have HO_7 := n0_
                          have BK605 := n1_
                          have BK606 := n2_
                          have HB := n3_
                          have BK623 := n4_
                          have GW623 := n5_
                          have GE623 := n6_
                          have NB605_623 := n7_
                          have NB623_605 := n8_
                          have NB606_623 := n9_
                          have NB623_606 := n10_
                          clear n0_ n1_ n2_ n3_ n4_ n5_ n6_ n7_ n8_ n9_ n10_
                          clear hb hbox hg
                          refine hK.out _ _ ⟨(blk_cell BK605.out 0).trans rfl, (blk_cell BK605.out 1).trans rfl, (blk_cell BK605.out 2).trans rfl, (blk_cell BK605.out 3).trans rfl, (blk_cell BK605.out 4).trans rfl, (blk_cell BK605.out 5).trans rfl, (blk_cell BK605.out 6).trans rfl, ((HB.out.cell (World.block_lt_of_cell? w _ hw611_0)).trans hw611_0), ((HB.out.cell (World.block_lt_of_cell? w _ hw611_1)).trans hw611_1), ((HB.out.cell (World.block_lt_of_cell? w _ hw611_2)).trans hw611_2), ((HB.out.cell (World.block_lt_of_cell? w _ hw611_3)).trans hw611_3), ((HB.out.cell (World.block_lt_of_cell? w _ hw611_4)).trans hw611_4), ((HB.out.cell (World.block_lt_of_cell? w _ hw611_5)).trans hw611_5), ((HB.out.cell (World.block_lt_of_cell? w _ hw611_6)).trans hw611_6)⟩ (fun hHeld => ?_)
                          clear hK K
                          refine norm_ (a' := ?_) ?_ ?_
                          rotate_left
                          · show Act.put _ (some 9) _ = _
                            simp only [Act.put, List.setIfInBounds_toArray, List.set_cons_zero, List.set_cons_succ, i64_w, i32_w]
                            rfl
                          refine one_ (i := 8) (N := some 34) #[true, true, true, true, true, true, true, true, true, false, false, false, true, false, false] rfl rfl (one_of HT_.out (by kernel_rfl)) (by decide) (fun K hK => ?_)
                          refine goes_ Try.func65 (by kernel_rfl) rfl #[.agg #[.int .u8 ((rd_T26 l0_6 x22_2).f0), .int .i64 ((rd_T26 l0_6 x22_2).f1.f0), .int .i64 ((rd_T26 l0_6 x22_2).f1.f1), .int .i64 ((rd_T26 l0_6 x22_2).f1.f2), .int .i64 ((rd_T26 l0_6 x22_2).f1.f3), .int .i64 ((rd_T26 l0_6 x22_2).f2), .slice A611_6 ((rd_T26 l0_6 x22_2).f3).length c611_6], .slice A24 (l1.drop (x6_2 : Int).toNat).length (c1 - x6_2.toNat)] (by rfl) rfl rfl (by (try simp only [List.map_toArray, List.map_cons, List.map_nil]); first | done | (rw [show (l1.drop (x6_2 : Int).toNat).length = (l1.length - x6_2.toNat) from List.length_drop] <;> rfl) | rfl | (simp only [List.length_drop, List.length_take]; rfl)) ?_
                          with_reducible refine (ih k2 (by have := HJ2.out; have := HK2.out; omega) ((rd_T26 l0_6 x22_2).f0) ((rd_T26 l0_6 x22_2).f1.f0) ((rd_T26 l0_6 x22_2).f1.f1) ((rd_T26 l0_6 x22_2).f1.f2) ((rd_T26 l0_6 x22_2).f1.f3) ((rd_T26 l0_6 x22_2).f2) _ _ ((rd_T26 l0_6 x22_2).f3) _ _ (l1.drop (x6_2 : Int).toNat) t613 t614 t615 t616 t617 t618 t619 t622 _ ?side1 ?side2 ?side3 ?side4 A21.out).mono ?_
                          (case side1 => repeat (first | exact (Kd.C_below HR611_6.out HB.out) | (with_reducible refine Kd.C_alloc ?_ _) | (with_reducible refine Kd.C_drewN ?_ _) | (with_reducible refine Kd.C_drew ?_)))
                          (case side2 => exact HC611_6.out)
                          (case side3 => repeat (first | exact (Kd.C_below HR612.out HB.out) | (with_reducible refine Kd.C_alloc ?_ _) | (with_reducible refine Kd.C_drewN ?_ _) | (with_reducible refine Kd.C_drew ?_)))
                          (case side4 => exact HC612.out)
                          rintro e w26 ⟨v620, rfl, ho0, hb⟩
                          refine ⟨_, rfl, ?_⟩
                          have n0_ := Aside0.mk (Kd.R_elder' (by (with_reducible repeat (first | apply Kd.R_alloc | apply Kd.R_drewN | apply Kd.R_drew)); exact HO_7.out) (Kd.R_base ho0) hb)
                          have n1_ := Aside0.mk (Kd.R_lower (Kd.R_newB (Kd.R_newB (Kd.R_newB (Kd.R_new' ho0 (Kd.R_lt (by (with_reducible repeat (first | apply Kd.R_alloc | apply Kd.R_drewN | apply Kd.R_drew)); exact HO_7.out))) (g := gb605) (o := .cells #[.int .u8 a0_0, .int .i64 a0_1, .int .i64 a0_2, .int .i64 a0_3, .int .i64 a0_4, .int .i64 x606005_2, .slice (some ad611) l0_6.length c0_6] 26 (0, 0)) (by (with_reducible repeat (first | refine blk_drewN ?_ _ | refine blk_drew ?_ | refine blk_alloc ?_ _)); exact BK605.out)) (g := gb606) (o := .cells #[.int .u8 0, .int .i64 0, .int .i64 0, .int .i64 0, .int .i64 0, .int .i64 0, .slice none 0 0] 26 (0, 0)) (by (with_reducible repeat (first | refine blk_drewN ?_ _ | refine blk_drew ?_ | refine blk_alloc ?_ _)); exact BK606.out)) (g := gb623) (o := .cells #[.int .u8 0, .int .i64 0, .int .i64 0, .int .i64 0, .int .i64 0, .int .i64 0, .slice none 0 0] 26 (0, 0)) (by (with_reducible repeat (first | refine blk_drewN ?_ _ | refine blk_drew ?_ | refine blk_alloc ?_ _)); exact BK623.out)) (below_size (by repeat (first | (with_reducible first | exact HB.out | apply below_alloc | apply pw_below_drewN | apply below_drew1 | refine below_set ?_ GE605.out | refine below_set ?_ GE606.out | refine below_set ?_ GE623.out) | exact HB.out))))
                          have n2_ := Aside0.mk (blk_below (g := gb605) (o := .cells #[.int .u8 a0_0, .int .i64 a0_1, .int .i64 a0_2, .int .i64 a0_3, .int .i64 a0_4, .int .i64 x606005_2, .slice (some ad611) l0_6.length c0_6] 26 (0, 0)) (by (with_reducible repeat (first | refine blk_drewN ?_ _ | refine blk_drew ?_ | refine blk_alloc ?_ _)); exact BK605.out) hb)
                          have n3_ := Aside0.mk (blk_below (g := gb606) (o := .cells #[.int .u8 0, .int .i64 0, .int .i64 0, .int .i64 0, .int .i64 0, .int .i64 0, .slice none 0 0] 26 (0, 0)) (by (with_reducible repeat (first | refine blk_drewN ?_ _ | refine blk_drew ?_ | refine blk_alloc ?_ _)); exact BK606.out) hb)
                          have n4_ := Aside0.mk (blk_below (g := gb623) (o := .cells #[.int .u8 0, .int .i64 0, .int .i64 0, .int .i64 0, .int .i64 0, .int .i64 0, .slice none 0 0] 26 (0, 0)) (by (with_reducible repeat (first | refine blk_drewN ?_ _ | refine blk_drew ?_ | refine blk_alloc ?_ _)); exact BK623.out) hb)
                          have n5_ := Aside0.mk (below_step (by repeat (first | (with_reducible first | exact HB.out | apply below_alloc | apply pw_below_drewN | apply below_drew1 | refine below_set ?_ GE605.out | refine below_set ?_ GE606.out | refine below_set ?_ GE623.out) | exact HB.out)) hb)
                          clear HO_7
                          clear BK605
                          clear BK606
                          clear BK623
                          clear HB
                          have HO_7 := n0_
                          have HO621 := n1_
                          have BK605 := n2_
                          have BK606 := n3_
                          have BK623 := n4_
                          have HB := n5_
                          clear n0_ n1_ n2_ n3_ n4_ n5_
                          (try clear hb)
                          (try clear hb2)
                          (try clear hk)
                          (try clear hi)
                          (try clear ho0)
                          refine hK.out _ _ ⟨(blk_cell BK605.out 0).trans rfl, (blk_cell BK605.out 1).trans rfl, (blk_cell BK605.out 2).trans rfl, (blk_cell BK605.out 3).trans rfl, (blk_cell BK605.out 4).trans rfl, (blk_cell BK605.out 5).trans rfl, (blk_cell BK605.out 6).trans rfl, ((HB.out.cell (World.block_lt_of_cell? w _ hw611_0)).trans hw611_0), ((HB.out.cell (World.block_lt_of_cell? w _ hw611_1)).trans hw611_1), ((HB.out.cell (World.block_lt_of_cell? w _ hw611_2)).trans hw611_2), ((HB.out.cell (World.block_lt_of_cell? w _ hw611_3)).trans hw611_3), ((HB.out.cell (World.block_lt_of_cell? w _ hw611_4)).trans hw611_4), ((HB.out.cell (World.block_lt_of_cell? w _ hw611_5)).trans hw611_5), ((HB.out.cell (World.block_lt_of_cell? w _ hw611_6)).trans hw611_6)⟩ (fun hHeld => ?_)
                          clear hK K
                          refine norm_ (a' := ?_) ?_ ?_
                          rotate_left
                          · show Act.put _ (some 34) _ = _
                            simp only [Act.put, List.setIfInBounds_toArray, List.set_cons_zero, List.set_cons_succ, i64_w, i32_w]
                            rfl
                          refine pure_ (i := 9) (N := some 25) (v := ?_) (a' := ?_) #[true, true, true, true, true, true, true, true, true, true, false, false, true, false, false] rfl rfl (any_of HT_.out (by kernel_rfl)) (fun _ _ _ h => h) (Or.inl ⟨by rfl, ?_⟩) ?_ ?_
                          rotate_left
                          · intro w'
                            go_simp
                            with_reducible rfl
                          rotate_left
                          · simp only [Act.put, List.setIfInBounds_toArray, List.set_cons_zero, List.set_cons_succ, i64_w, i32_w]
                            rfl
                          refine pure_ (i := 10) (N := some 35) (v := ?_) (a' := ?_) #[true, true, true, true, true, true, true, true, true, true, true, false, true, false, false] rfl rfl (any_of HT_.out (by kernel_rfl)) (fun _ _ _ h => h) (Or.inl ⟨by rfl, ?_⟩) ?_ ?_
                          rotate_left
                          · intro w'
                            go_simp
                            with_reducible rfl
                          rotate_left
                          · simp only [Act.put, List.setIfInBounds_toArray, List.set_cons_zero, List.set_cons_succ, i64_w, i32_w]
                            rfl
                          refine pure_ (i := 11) (N := some 36) (v := ?_) (a' := ?_) #[true, true, true, true, true, true, true, true, true, true, true, true, true, false, false] rfl rfl (any_of HT_.out (by kernel_rfl)) (fun _ _ _ h => h) (Or.inl ⟨by rfl, ?_⟩) ?_ ?_
                          rotate_left
                          · intro w'
                            go_simp
                            with_reducible rfl
                          rotate_left
                          · simp only [Act.put, List.setIfInBounds_toArray, List.set_cons_zero, List.set_cons_succ, i64_w, i32_w]
                            rfl
                          exact norm_ (by simp only [putAll, Act.put, List.setIfInBounds_toArray, List.set_cons_zero, List.set_cons_succ]) (hCont (v620, gb623) _ ⟨hHeld, (by (with_reducible repeat (first | apply Kd.R_alloc | apply Kd.R_drewN | apply Kd.R_drew)); exact Kd.R_mono HO621.out (fun _ hk => ⟨hk.1.1.1.2, ⟨hk.1.1.2, ⟨hk.1.2, hk.2⟩⟩⟩)), (by (with_reducible repeat (first | apply Kd.R_alloc | apply Kd.R_drewN | apply Kd.R_drew)); exact Kd.R_mono HO_7.out (fun _ hk => ⟨hk.2, ⟨hk.1.1.1, ⟨hk.1.1.2, hk.1.2⟩⟩⟩)), (by (with_reducible repeat (first | refine blk_drewN ?_ _ | refine blk_drew ?_ | refine blk_alloc ?_ _)); exact BK605.out), (by (with_reducible repeat (first | refine blk_drewN ?_ _ | refine blk_drew ?_ | refine blk_alloc ?_ _)); exact BK606.out), (by (with_reducible repeat (first | refine blk_drewN ?_ _ | refine blk_drew ?_ | refine blk_alloc ?_ _)); exact BK623.out), GW623.out, GE623.out, NB605_623.out, NB623_605.out, NB606_623.out, NB623_606.out, (by repeat (first | (with_reducible first | exact HB.out | apply below_alloc | apply pw_below_drewN | apply below_drew1 | refine below_set ?_ GE605.out | refine below_set ?_ GE606.out | refine below_set ?_ GE623.out) | exact HB.out))⟩)
                      rintro ⟨v620, gb623⟩ w27 ⟨hS_, h0_, h1_, h2_, h3_, h4_, h5_, h6_, h7_, h8_, h9_, h10_, h11_⟩
                      have n0_ : Aside0 (Kd.R k26 26 w27 w.heap.size (fun k_ => some k_ ≠ (u7 : Value).ownBlock ∧ k_ ≠ gb605 ∧ k_ ≠ gb606 ∧ k_ ≠ gb623) v620 t619) := ⟨h0_⟩
                      have n1_ : Aside0 (Kd.R k26 26 w27 w.heap.size (fun k_ => some k_ ≠ (v620 : Value).ownBlock ∧ k_ ≠ gb605 ∧ k_ ≠ gb606 ∧ k_ ≠ gb623) u7 x7_2) := ⟨h1_⟩
                      have n2_ : Aside0 (w27.heap[gb605]? = some (.cells #[.int .u8 a0_0, .int .i64 a0_1, .int .i64 a0_2, .int .i64 a0_3, .int .i64 a0_4, .int .i64 x606005_2, .slice (some ad611) l0_6.length c0_6] 26 (0, 0))) := ⟨h2_⟩
                      have n3_ : Aside0 (w27.heap[gb606]? = some (.cells #[.int .u8 0, .int .i64 0, .int .i64 0, .int .i64 0, .int .i64 0, .int .i64 0, .slice none 0 0] 26 (0, 0))) := ⟨h3_⟩
                      have n4_ : Aside0 (w27.heap[gb623]? = some (.cells #[.int .u8 0, .int .i64 0, .int .i64 0, .int .i64 0, .int .i64 0, .int .i64 0, .slice none 0 0] 26 (0, 0))) := ⟨h4_⟩
                      have n5_ : Aside0 (w.heap.size ≤ gb623) := ⟨h5_⟩
                      have n6_ : Aside0 (w.heap.size ≤ gb623) := ⟨h6_⟩
                      have n7_ : Aside0 (gb605 ≠ gb623) := ⟨h7_⟩
                      have n8_ : Aside0 (gb623 ≠ gb605) := ⟨h8_⟩
                      have n9_ : Aside0 (gb606 ≠ gb623) := ⟨h9_⟩
                      have n10_ : Aside0 (gb623 ≠ gb606) := ⟨h10_⟩
                      have n11_ : Aside0 (Below w.heap.size w w27) := ⟨h11_⟩
                      clear HO_7
                      clear BK605
                      clear BK606
                      clear HB
                      clear h0_ h1_ h2_ h3_ h4_ h5_ h6_ h7_ h8_ h9_ h10_ h11_
                      have HO621 := n0_
                      have HO_7 := n1_
                      have BK605 := n2_
                      have BK606 := n3_
                      have BK623 := n4_
                      have GW623 := n5_
                      have GE623 := n6_
                      have NB605_623 := n7_
                      have NB623_605 := n8_
                      have NB606_623 := n9_
                      have NB623_606 := n10_
                      have HB := n11_
                      clear n0_ n1_ n2_ n3_ n4_ n5_ n6_ n7_ n8_ n9_ n10_ n11_
                      have hHeld : w27.cell? ⟨gb605, 0, none⟩ = some (.int .u8 a0_0) ∧ w27.cell? ⟨gb605, 1, none⟩ = some (.int .i64 a0_1) ∧ w27.cell? ⟨gb605, 2, none⟩ = some (.int .i64 a0_2) ∧ w27.cell? ⟨gb605, 3, none⟩ = some (.int .i64 a0_3) ∧ w27.cell? ⟨gb605, 4, none⟩ = some (.int .i64 a0_4) ∧ w27.cell? ⟨gb605, 5, none⟩ = some (.int .i64 x606005_2) ∧ w27.cell? ⟨gb605, 6, none⟩ = some (.slice (some ad611) l0_6.length c0_6) ∧ w27.cell? (ad611.add ((x22_2).toNat * 7)) = some (.int .u8 ((rd_T26 l0_6 x22_2).f0)) ∧ w27.cell? ⟨(ad611.add ((x22_2).toNat * 7)).block, (ad611.add ((x22_2).toNat * 7)).off + 1, none⟩ = some (.int .i64 ((rd_T26 l0_6 x22_2).f1.f0)) ∧ w27.cell? ⟨(ad611.add ((x22_2).toNat * 7)).block, (ad611.add ((x22_2).toNat * 7)).off + 2, none⟩ = some (.int .i64 ((rd_T26 l0_6 x22_2).f1.f1)) ∧ w27.cell? ⟨(ad611.add ((x22_2).toNat * 7)).block, (ad611.add ((x22_2).toNat * 7)).off + 3, none⟩ = some (.int .i64 ((rd_T26 l0_6 x22_2).f1.f2)) ∧ w27.cell? ⟨(ad611.add ((x22_2).toNat * 7)).block, (ad611.add ((x22_2).toNat * 7)).off + 4, none⟩ = some (.int .i64 ((rd_T26 l0_6 x22_2).f1.f3)) ∧ w27.cell? ⟨(ad611.add ((x22_2).toNat * 7)).block, (ad611.add ((x22_2).toNat * 7)).off + 5, none⟩ = some (.int .i64 ((rd_T26 l0_6 x22_2).f2)) ∧ w27.cell? ⟨(ad611.add ((x22_2).toNat * 7)).block, (ad611.add ((x22_2).toNat * 7)).off + 6, none⟩ = some (.slice A611_6 ((rd_T26 l0_6 x22_2).f3).length c611_6) := hS_
                      obtain ⟨Ao34, co34, eo34⟩ := Kd.R_slice HO621.out
                      (first | subst eo34 | (injection eo34 with f1_ f2_ f3_; have f4_ := f1_.symm; have f5_ := f3_.symm; clear f1_ f2_ f3_; subst f4_; subst f5_))
                      refine norm_ (a' := ?_) ?_ ?_
                      rotate_left
                      · simp only [putAll, Act.put, List.setIfInBounds_toArray, List.set_cons_zero, List.set_cons_succ]
                        rfl
                      refine one_ (i := 13) (N := none) #[true, true, true, true, true, true, true, true, true, true, true, true, true, true, false] rfl rfl (one_of HT_.out (by kernel_rfl)) (by decide) (fun K hK => ?_)
                      have hs28 : w27.cell? ⟨gb623, 0, none⟩ = some (.int .u8 0) := (blk_cell BK623.out 0).trans rfl
                      have hfs28 := blk_frozen BK623.out 0
                      have hns28_0 := NB605_623.out
                      have hns28_1 := NB606_623.out
                      have hms28_0 := NB623_605.out
                      have hms28_1 := NB623_606.out
                      have hs29 : w27.cell? ⟨gb623, 1, none⟩ = some (.int .i64 0) := (blk_cell BK623.out 1).trans rfl
                      have hfs29 := blk_frozen BK623.out 1
                      have hns29_0 := NB605_623.out
                      have hns29_1 := NB606_623.out
                      have hms29_0 := NB623_605.out
                      have hms29_1 := NB623_606.out
                      have hs30 : w27.cell? ⟨gb623, 2, none⟩ = some (.int .i64 0) := (blk_cell BK623.out 2).trans rfl
                      have hfs30 := blk_frozen BK623.out 2
                      have hns30_0 := NB605_623.out
                      have hns30_1 := NB606_623.out
                      have hms30_0 := NB623_605.out
                      have hms30_1 := NB623_606.out
                      have hs31 : w27.cell? ⟨gb623, 3, none⟩ = some (.int .i64 0) := (blk_cell BK623.out 3).trans rfl
                      have hfs31 := blk_frozen BK623.out 3
                      have hns31_0 := NB605_623.out
                      have hns31_1 := NB606_623.out
                      have hms31_0 := NB623_605.out
                      have hms31_1 := NB623_606.out
                      have hs32 : w27.cell? ⟨gb623, 4, none⟩ = some (.int .i64 0) := (blk_cell BK623.out 4).trans rfl
                      have hfs32 := blk_frozen BK623.out 4
                      have hns32_0 := NB605_623.out
                      have hns32_1 := NB606_623.out
                      have hms32_0 := NB623_605.out
                      have hms32_1 := NB623_606.out
                      have hs33 : w27.cell? ⟨gb623, 5, none⟩ = some (.int .i64 0) := (blk_cell BK623.out 5).trans rfl
                      have hfs33 := blk_frozen BK623.out 5
                      have hns33_0 := NB605_623.out
                      have hns33_1 := NB606_623.out
                      have hms33_0 := NB623_605.out
                      have hms33_1 := NB623_606.out
                      have hs35 : w27.cell? ⟨gb623, 6, none⟩ = some (.slice none 0 0) := (blk_cell BK623.out 6).trans rfl
                      have hfs35 := blk_frozen BK623.out 6
                      have hns35_0 := NB605_623.out
                      have hns35_1 := NB606_623.out
                      have hms35_0 := NB623_605.out
                      have hms35_1 := NB623_606.out
                      refine skip_ (w1 := ?_) (by rfl) rfl ?_ ?_
                      rotate_left
                      · go_simp
                        rfl
                      refine hK.out _ _ ⟨((cell_far (p := ⟨gb623, _, none⟩) NB605_623.out _).trans (((cell_far (p := ⟨gb623, _, none⟩) NB605_623.out _).trans (((cell_far (p := ⟨gb623, _, none⟩) NB605_623.out _).trans (((cell_far (p := ⟨gb623, _, none⟩) NB605_623.out _).trans (((cell_far (p := ⟨gb623, _, none⟩) NB605_623.out _).trans (((cell_far (p := ⟨gb623, _, none⟩) NB605_623.out _).trans (((cell_far (p := ⟨gb623, _, none⟩) NB605_623.out _).trans (hHeld.1)))))))))))))), ((cell_far (p := ⟨gb623, _, none⟩) NB605_623.out _).trans (((cell_far (p := ⟨gb623, _, none⟩) NB605_623.out _).trans (((cell_far (p := ⟨gb623, _, none⟩) NB605_623.out _).trans (((cell_far (p := ⟨gb623, _, none⟩) NB605_623.out _).trans (((cell_far (p := ⟨gb623, _, none⟩) NB605_623.out _).trans (((cell_far (p := ⟨gb623, _, none⟩) NB605_623.out _).trans (((cell_far (p := ⟨gb623, _, none⟩) NB605_623.out _).trans (hHeld.2.1)))))))))))))), ((cell_far (p := ⟨gb623, _, none⟩) NB605_623.out _).trans (((cell_far (p := ⟨gb623, _, none⟩) NB605_623.out _).trans (((cell_far (p := ⟨gb623, _, none⟩) NB605_623.out _).trans (((cell_far (p := ⟨gb623, _, none⟩) NB605_623.out _).trans (((cell_far (p := ⟨gb623, _, none⟩) NB605_623.out _).trans (((cell_far (p := ⟨gb623, _, none⟩) NB605_623.out _).trans (((cell_far (p := ⟨gb623, _, none⟩) NB605_623.out _).trans (hHeld.2.2.1)))))))))))))), ((cell_far (p := ⟨gb623, _, none⟩) NB605_623.out _).trans (((cell_far (p := ⟨gb623, _, none⟩) NB605_623.out _).trans (((cell_far (p := ⟨gb623, _, none⟩) NB605_623.out _).trans (((cell_far (p := ⟨gb623, _, none⟩) NB605_623.out _).trans (((cell_far (p := ⟨gb623, _, none⟩) NB605_623.out _).trans (((cell_far (p := ⟨gb623, _, none⟩) NB605_623.out _).trans (((cell_far (p := ⟨gb623, _, none⟩) NB605_623.out _).trans (hHeld.2.2.2.1)))))))))))))), ((cell_far (p := ⟨gb623, _, none⟩) NB605_623.out _).trans (((cell_far (p := ⟨gb623, _, none⟩) NB605_623.out _).trans (((cell_far (p := ⟨gb623, _, none⟩) NB605_623.out _).trans (((cell_far (p := ⟨gb623, _, none⟩) NB605_623.out _).trans (((cell_far (p := ⟨gb623, _, none⟩) NB605_623.out _).trans (((cell_far (p := ⟨gb623, _, none⟩) NB605_623.out _).trans (((cell_far (p := ⟨gb623, _, none⟩) NB605_623.out _).trans (hHeld.2.2.2.2.1)))))))))))))), ((cell_far (p := ⟨gb623, _, none⟩) NB605_623.out _).trans (((cell_far (p := ⟨gb623, _, none⟩) NB605_623.out _).trans (((cell_far (p := ⟨gb623, _, none⟩) NB605_623.out _).trans (((cell_far (p := ⟨gb623, _, none⟩) NB605_623.out _).trans (((cell_far (p := ⟨gb623, _, none⟩) NB605_623.out _).trans (((cell_far (p := ⟨gb623, _, none⟩) NB605_623.out _).trans (((cell_far (p := ⟨gb623, _, none⟩) NB605_623.out _).trans (hHeld.2.2.2.2.2.1)))))))))))))), ((cell_far (p := ⟨gb623, _, none⟩) NB605_623.out _).trans (((cell_far (p := ⟨gb623, _, none⟩) NB605_623.out _).trans (((cell_far (p := ⟨gb623, _, none⟩) NB605_623.out _).trans (((cell_far (p := ⟨gb623, _, none⟩) NB605_623.out _).trans (((cell_far (p := ⟨gb623, _, none⟩) NB605_623.out _).trans (((cell_far (p := ⟨gb623, _, none⟩) NB605_623.out _).trans (((cell_far (p := ⟨gb623, _, none⟩) NB605_623.out _).trans (hHeld.2.2.2.2.2.2.1)))))))))))))), ((cell_far (p := ⟨gb623, _, none⟩) (by first | exact Nat.ne_of_lt (Nat.lt_of_lt_of_le (by have := World.block_lt_of_cell? _ _ hw611_0; first | rwa [add_block] at this | exact this) GW623.out) | (rw [add_block]; exact Nat.ne_of_lt (Nat.lt_of_lt_of_le (by have := World.block_lt_of_cell? _ _ hw611_0; first | rwa [add_block] at this | exact this) GW623.out)) | (show (Addr.add _ _).block ≠ _; rw [add_block]; exact Nat.ne_of_lt (Nat.lt_of_lt_of_le (by have := World.block_lt_of_cell? _ _ hw611_0; first | rwa [add_block] at this | exact this) GW623.out)) | (dsimp only; exact Nat.ne_of_lt (Nat.lt_of_lt_of_le (by have := World.block_lt_of_cell? _ _ hw611_0; first | rwa [add_block] at this | exact this) GW623.out))) _).trans (((cell_far (p := ⟨gb623, _, none⟩) (by first | exact Nat.ne_of_lt (Nat.lt_of_lt_of_le (by have := World.block_lt_of_cell? _ _ hw611_0; first | rwa [add_block] at this | exact this) GW623.out) | (rw [add_block]; exact Nat.ne_of_lt (Nat.lt_of_lt_of_le (by have := World.block_lt_of_cell? _ _ hw611_0; first | rwa [add_block] at this | exact this) GW623.out)) | (show (Addr.add _ _).block ≠ _; rw [add_block]; exact Nat.ne_of_lt (Nat.lt_of_lt_of_le (by have := World.block_lt_of_cell? _ _ hw611_0; first | rwa [add_block] at this | exact this) GW623.out)) | (dsimp only; exact Nat.ne_of_lt (Nat.lt_of_lt_of_le (by have := World.block_lt_of_cell? _ _ hw611_0; first | rwa [add_block] at this | exact this) GW623.out))) _).trans (((cell_far (p := ⟨gb623, _, none⟩) (by first | exact Nat.ne_of_lt (Nat.lt_of_lt_of_le (by have := World.block_lt_of_cell? _ _ hw611_0; first | rwa [add_block] at this | exact this) GW623.out) | (rw [add_block]; exact Nat.ne_of_lt (Nat.lt_of_lt_of_le (by have := World.block_lt_of_cell? _ _ hw611_0; first | rwa [add_block] at this | exact this) GW623.out)) | (show (Addr.add _ _).block ≠ _; rw [add_block]; exact Nat.ne_of_lt (Nat.lt_of_lt_of_le (by have := World.block_lt_of_cell? _ _ hw611_0; first | rwa [add_block] at this | exact this) GW623.out)) | (dsimp only; exact Nat.ne_of_lt (Nat.lt_of_lt_of_le (by have := World.block_lt_of_cell? _ _ hw611_0; first | rwa [add_block] at this | exact this) GW623.out))) _).trans (((cell_far (p := ⟨gb623, _, none⟩) (by first | exact Nat.ne_of_lt (Nat.lt_of_lt_of_le (by have := World.block_lt_of_cell? _ _ hw611_0; first | rwa [add_block] at this | exact this) GW623.out) | (rw [add_block]; exact Nat.ne_of_lt (Nat.lt_of_lt_of_le (by have := World.block_lt_of_cell? _ _ hw611_0; first | rwa [add_block] at this | exact this) GW623.out)) | (show (Addr.add _ _).block ≠ _; rw [add_block]; exact Nat.ne_of_lt (Nat.lt_of_lt_of_le (by have := World.block_lt_of_cell? _ _ hw611_0; first | rwa [add_block] at this | exact this) GW623.out)) | (dsimp only; exact Nat.ne_of_lt (Nat.lt_of_lt_of_le (by have := World.block_lt_of_cell? _ _ hw611_0; first | rwa [add_block] at this | exact this) GW623.out))) _).trans (((cell_far (p := ⟨gb623, _, none⟩) (by first | exact Nat.ne_of_lt (Nat.lt_of_lt_of_le (by have := World.block_lt_of_cell? _ _ hw611_0; first | rwa [add_block] at this | exact this) GW623.out) | (rw [add_block]; exact Nat.ne_of_lt (Nat.lt_of_lt_of_le (by have := World.block_lt_of_cell? _ _ hw611_0; first | rwa [add_block] at this | exact this) GW623.out)) | (show (Addr.add _ _).block ≠ _; rw [add_block]; exact Nat.ne_of_lt (Nat.lt_of_lt_of_le (by have := World.block_lt_of_cell? _ _ hw611_0; first | rwa [add_block] at this | exact this) GW623.out)) | (dsimp only; exact Nat.ne_of_lt (Nat.lt_of_lt_of_le (by have := World.block_lt_of_cell? _ _ hw611_0; first | rwa [add_block] at this | exact this) GW623.out))) _).trans (((cell_far (p := ⟨gb623, _, none⟩) (by first | exact Nat.ne_of_lt (Nat.lt_of_lt_of_le (by have := World.block_lt_of_cell? _ _ hw611_0; first | rwa [add_block] at this | exact this) GW623.out) | (rw [add_block]; exact Nat.ne_of_lt (Nat.lt_of_lt_of_le (by have := World.block_lt_of_cell? _ _ hw611_0; first | rwa [add_block] at this | exact this) GW623.out)) | (show (Addr.add _ _).block ≠ _; rw [add_block]; exact Nat.ne_of_lt (Nat.lt_of_lt_of_le (by have := World.block_lt_of_cell? _ _ hw611_0; first | rwa [add_block] at this | exact this) GW623.out)) | (dsimp only; exact Nat.ne_of_lt (Nat.lt_of_lt_of_le (by have := World.block_lt_of_cell? _ _ hw611_0; first | rwa [add_block] at this | exact this) GW623.out))) _).trans (((cell_far (p := ⟨gb623, _, none⟩) (by first | exact Nat.ne_of_lt (Nat.lt_of_lt_of_le (by have := World.block_lt_of_cell? _ _ hw611_0; first | rwa [add_block] at this | exact this) GW623.out) | (rw [add_block]; exact Nat.ne_of_lt (Nat.lt_of_lt_of_le (by have := World.block_lt_of_cell? _ _ hw611_0; first | rwa [add_block] at this | exact this) GW623.out)) | (show (Addr.add _ _).block ≠ _; rw [add_block]; exact Nat.ne_of_lt (Nat.lt_of_lt_of_le (by have := World.block_lt_of_cell? _ _ hw611_0; first | rwa [add_block] at this | exact this) GW623.out)) | (dsimp only; exact Nat.ne_of_lt (Nat.lt_of_lt_of_le (by have := World.block_lt_of_cell? _ _ hw611_0; first | rwa [add_block] at this | exact this) GW623.out))) _).trans (hHeld.2.2.2.2.2.2.2.1)))))))))))))), ((cell_far (p := ⟨gb623, _, none⟩) (by first | exact Nat.ne_of_lt (Nat.lt_of_lt_of_le (by have := World.block_lt_of_cell? _ _ hw611_1; first | rwa [add_block] at this | exact this) GW623.out) | (rw [add_block]; exact Nat.ne_of_lt (Nat.lt_of_lt_of_le (by have := World.block_lt_of_cell? _ _ hw611_1; first | rwa [add_block] at this | exact this) GW623.out)) | (show (Addr.add _ _).block ≠ _; rw [add_block]; exact Nat.ne_of_lt (Nat.lt_of_lt_of_le (by have := World.block_lt_of_cell? _ _ hw611_1; first | rwa [add_block] at this | exact this) GW623.out)) | (dsimp only; exact Nat.ne_of_lt (Nat.lt_of_lt_of_le (by have := World.block_lt_of_cell? _ _ hw611_1; first | rwa [add_block] at this | exact this) GW623.out))) _).trans (((cell_far (p := ⟨gb623, _, none⟩) (by first | exact Nat.ne_of_lt (Nat.lt_of_lt_of_le (by have := World.block_lt_of_cell? _ _ hw611_1; first | rwa [add_block] at this | exact this) GW623.out) | (rw [add_block]; exact Nat.ne_of_lt (Nat.lt_of_lt_of_le (by have := World.block_lt_of_cell? _ _ hw611_1; first | rwa [add_block] at this | exact this) GW623.out)) | (show (Addr.add _ _).block ≠ _; rw [add_block]; exact Nat.ne_of_lt (Nat.lt_of_lt_of_le (by have := World.block_lt_of_cell? _ _ hw611_1; first | rwa [add_block] at this | exact this) GW623.out)) | (dsimp only; exact Nat.ne_of_lt (Nat.lt_of_lt_of_le (by have := World.block_lt_of_cell? _ _ hw611_1; first | rwa [add_block] at this | exact this) GW623.out))) _).trans (((cell_far (p := ⟨gb623, _, none⟩) (by first | exact Nat.ne_of_lt (Nat.lt_of_lt_of_le (by have := World.block_lt_of_cell? _ _ hw611_1; first | rwa [add_block] at this | exact this) GW623.out) | (rw [add_block]; exact Nat.ne_of_lt (Nat.lt_of_lt_of_le (by have := World.block_lt_of_cell? _ _ hw611_1; first | rwa [add_block] at this | exact this) GW623.out)) | (show (Addr.add _ _).block ≠ _; rw [add_block]; exact Nat.ne_of_lt (Nat.lt_of_lt_of_le (by have := World.block_lt_of_cell? _ _ hw611_1; first | rwa [add_block] at this | exact this) GW623.out)) | (dsimp only; exact Nat.ne_of_lt (Nat.lt_of_lt_of_le (by have := World.block_lt_of_cell? _ _ hw611_1; first | rwa [add_block] at this | exact this) GW623.out))) _).trans (((cell_far (p := ⟨gb623, _, none⟩) (by first | exact Nat.ne_of_lt (Nat.lt_of_lt_of_le (by have := World.block_lt_of_cell? _ _ hw611_1; first | rwa [add_block] at this | exact this) GW623.out) | (rw [add_block]; exact Nat.ne_of_lt (Nat.lt_of_lt_of_le (by have := World.block_lt_of_cell? _ _ hw611_1; first | rwa [add_block] at this | exact this) GW623.out)) | (show (Addr.add _ _).block ≠ _; rw [add_block]; exact Nat.ne_of_lt (Nat.lt_of_lt_of_le (by have := World.block_lt_of_cell? _ _ hw611_1; first | rwa [add_block] at this | exact this) GW623.out)) | (dsimp only; exact Nat.ne_of_lt (Nat.lt_of_lt_of_le (by have := World.block_lt_of_cell? _ _ hw611_1; first | rwa [add_block] at this | exact this) GW623.out))) _).trans (((cell_far (p := ⟨gb623, _, none⟩) (by first | exact Nat.ne_of_lt (Nat.lt_of_lt_of_le (by have := World.block_lt_of_cell? _ _ hw611_1; first | rwa [add_block] at this | exact this) GW623.out) | (rw [add_block]; exact Nat.ne_of_lt (Nat.lt_of_lt_of_le (by have := World.block_lt_of_cell? _ _ hw611_1; first | rwa [add_block] at this | exact this) GW623.out)) | (show (Addr.add _ _).block ≠ _; rw [add_block]; exact Nat.ne_of_lt (Nat.lt_of_lt_of_le (by have := World.block_lt_of_cell? _ _ hw611_1; first | rwa [add_block] at this | exact this) GW623.out)) | (dsimp only; exact Nat.ne_of_lt (Nat.lt_of_lt_of_le (by have := World.block_lt_of_cell? _ _ hw611_1; first | rwa [add_block] at this | exact this) GW623.out))) _).trans (((cell_far (p := ⟨gb623, _, none⟩) (by first | exact Nat.ne_of_lt (Nat.lt_of_lt_of_le (by have := World.block_lt_of_cell? _ _ hw611_1; first | rwa [add_block] at this | exact this) GW623.out) | (rw [add_block]; exact Nat.ne_of_lt (Nat.lt_of_lt_of_le (by have := World.block_lt_of_cell? _ _ hw611_1; first | rwa [add_block] at this | exact this) GW623.out)) | (show (Addr.add _ _).block ≠ _; rw [add_block]; exact Nat.ne_of_lt (Nat.lt_of_lt_of_le (by have := World.block_lt_of_cell? _ _ hw611_1; first | rwa [add_block] at this | exact this) GW623.out)) | (dsimp only; exact Nat.ne_of_lt (Nat.lt_of_lt_of_le (by have := World.block_lt_of_cell? _ _ hw611_1; first | rwa [add_block] at this | exact this) GW623.out))) _).trans (((cell_far (p := ⟨gb623, _, none⟩) (by first | exact Nat.ne_of_lt (Nat.lt_of_lt_of_le (by have := World.block_lt_of_cell? _ _ hw611_1; first | rwa [add_block] at this | exact this) GW623.out) | (rw [add_block]; exact Nat.ne_of_lt (Nat.lt_of_lt_of_le (by have := World.block_lt_of_cell? _ _ hw611_1; first | rwa [add_block] at this | exact this) GW623.out)) | (show (Addr.add _ _).block ≠ _; rw [add_block]; exact Nat.ne_of_lt (Nat.lt_of_lt_of_le (by have := World.block_lt_of_cell? _ _ hw611_1; first | rwa [add_block] at this | exact this) GW623.out)) | (dsimp only; exact Nat.ne_of_lt (Nat.lt_of_lt_of_le (by have := World.block_lt_of_cell? _ _ hw611_1; first | rwa [add_block] at this | exact this) GW623.out))) _).trans (hHeld.2.2.2.2.2.2.2.2.1)))))))))))))), ((cell_far (p := ⟨gb623, _, none⟩) (by first | exact Nat.ne_of_lt (Nat.lt_of_lt_of_le (by have := World.block_lt_of_cell? _ _ hw611_2; first | rwa [add_block] at this | exact this) GW623.out) | (rw [add_block]; exact Nat.ne_of_lt (Nat.lt_of_lt_of_le (by have := World.block_lt_of_cell? _ _ hw611_2; first | rwa [add_block] at this | exact this) GW623.out)) | (show (Addr.add _ _).block ≠ _; rw [add_block]; exact Nat.ne_of_lt (Nat.lt_of_lt_of_le (by have := World.block_lt_of_cell? _ _ hw611_2; first | rwa [add_block] at this | exact this) GW623.out)) | (dsimp only; exact Nat.ne_of_lt (Nat.lt_of_lt_of_le (by have := World.block_lt_of_cell? _ _ hw611_2; first | rwa [add_block] at this | exact this) GW623.out))) _).trans (((cell_far (p := ⟨gb623, _, none⟩) (by first | exact Nat.ne_of_lt (Nat.lt_of_lt_of_le (by have := World.block_lt_of_cell? _ _ hw611_2; first | rwa [add_block] at this | exact this) GW623.out) | (rw [add_block]; exact Nat.ne_of_lt (Nat.lt_of_lt_of_le (by have := World.block_lt_of_cell? _ _ hw611_2; first | rwa [add_block] at this | exact this) GW623.out)) | (show (Addr.add _ _).block ≠ _; rw [add_block]; exact Nat.ne_of_lt (Nat.lt_of_lt_of_le (by have := World.block_lt_of_cell? _ _ hw611_2; first | rwa [add_block] at this | exact this) GW623.out)) | (dsimp only; exact Nat.ne_of_lt (Nat.lt_of_lt_of_le (by have := World.block_lt_of_cell? _ _ hw611_2; first | rwa [add_block] at this | exact this) GW623.out))) _).trans (((cell_far (p := ⟨gb623, _, none⟩) (by first | exact Nat.ne_of_lt (Nat.lt_of_lt_of_le (by have := World.block_lt_of_cell? _ _ hw611_2; first | rwa [add_block] at this | exact this) GW623.out) | (rw [add_block]; exact Nat.ne_of_lt (Nat.lt_of_lt_of_le (by have := World.block_lt_of_cell? _ _ hw611_2; first | rwa [add_block] at this | exact this) GW623.out)) | (show (Addr.add _ _).block ≠ _; rw [add_block]; exact Nat.ne_of_lt (Nat.lt_of_lt_of_le (by have := World.block_lt_of_cell? _ _ hw611_2; first | rwa [add_block] at this | exact this) GW623.out)) | (dsimp only; exact Nat.ne_of_lt (Nat.lt_of_lt_of_le (by have := World.block_lt_of_cell? _ _ hw611_2; first | rwa [add_block] at this | exact this) GW623.out))) _).trans (((cell_far (p := ⟨gb623, _, none⟩) (by first | exact Nat.ne_of_lt (Nat.lt_of_lt_of_le (by have := World.block_lt_of_cell? _ _ hw611_2; first | rwa [add_block] at this | exact this) GW623.out) | (rw [add_block]; exact Nat.ne_of_lt (Nat.lt_of_lt_of_le (by have := World.block_lt_of_cell? _ _ hw611_2; first | rwa [add_block] at this | exact this) GW623.out)) | (show (Addr.add _ _).block ≠ _; rw [add_block]; exact Nat.ne_of_lt (Nat.lt_of_lt_of_le (by have := World.block_lt_of_cell? _ _ hw611_2; first | rwa [add_block] at this | exact this) GW623.out)) | (dsimp only; exact Nat.ne_of_lt (Nat.lt_of_lt_of_le (by have := World.block_lt_of_cell? _ _ hw611_2; first | rwa [add_block] at this | exact this) GW623.out))) _).trans (((cell_far (p := ⟨gb623, _, none⟩) (by first | exact Nat.ne_of_lt (Nat.lt_of_lt_of_le (by have := World.block_lt_of_cell? _ _ hw611_2; first | rwa [add_block] at this | exact this) GW623.out) | (rw [add_block]; exact Nat.ne_of_lt (Nat.lt_of_lt_of_le (by have := World.block_lt_of_cell? _ _ hw611_2; first | rwa [add_block] at this | exact this) GW623.out)) | (show (Addr.add _ _).block ≠ _; rw [add_block]; exact Nat.ne_of_lt (Nat.lt_of_lt_of_le (by have := World.block_lt_of_cell? _ _ hw611_2; first | rwa [add_block] at this | exact this) GW623.out)) | (dsimp only; exact Nat.ne_of_lt (Nat.lt_of_lt_of_le (by have := World.block_lt_of_cell? _ _ hw611_2; first | rwa [add_block] at this | exact this) GW623.out))) _).trans (((cell_far (p := ⟨gb623, _, none⟩) (by first | exact Nat.ne_of_lt (Nat.lt_of_lt_of_le (by have := World.block_lt_of_cell? _ _ hw611_2; first | rwa [add_block] at this | exact this) GW623.out) | (rw [add_block]; exact Nat.ne_of_lt (Nat.lt_of_lt_of_le (by have := World.block_lt_of_cell? _ _ hw611_2; first | rwa [add_block] at this | exact this) GW623.out)) | (show (Addr.add _ _).block ≠ _; rw [add_block]; exact Nat.ne_of_lt (Nat.lt_of_lt_of_le (by have := World.block_lt_of_cell? _ _ hw611_2; first | rwa [add_block] at this | exact this) GW623.out)) | (dsimp only; exact Nat.ne_of_lt (Nat.lt_of_lt_of_le (by have := World.block_lt_of_cell? _ _ hw611_2; first | rwa [add_block] at this | exact this) GW623.out))) _).trans (((cell_far (p := ⟨gb623, _, none⟩) (by first | exact Nat.ne_of_lt (Nat.lt_of_lt_of_le (by have := World.block_lt_of_cell? _ _ hw611_2; first | rwa [add_block] at this | exact this) GW623.out) | (rw [add_block]; exact Nat.ne_of_lt (Nat.lt_of_lt_of_le (by have := World.block_lt_of_cell? _ _ hw611_2; first | rwa [add_block] at this | exact this) GW623.out)) | (show (Addr.add _ _).block ≠ _; rw [add_block]; exact Nat.ne_of_lt (Nat.lt_of_lt_of_le (by have := World.block_lt_of_cell? _ _ hw611_2; first | rwa [add_block] at this | exact this) GW623.out)) | (dsimp only; exact Nat.ne_of_lt (Nat.lt_of_lt_of_le (by have := World.block_lt_of_cell? _ _ hw611_2; first | rwa [add_block] at this | exact this) GW623.out))) _).trans (hHeld.2.2.2.2.2.2.2.2.2.1)))))))))))))), ((cell_far (p := ⟨gb623, _, none⟩) (by first | exact Nat.ne_of_lt (Nat.lt_of_lt_of_le (by have := World.block_lt_of_cell? _ _ hw611_3; first | rwa [add_block] at this | exact this) GW623.out) | (rw [add_block]; exact Nat.ne_of_lt (Nat.lt_of_lt_of_le (by have := World.block_lt_of_cell? _ _ hw611_3; first | rwa [add_block] at this | exact this) GW623.out)) | (show (Addr.add _ _).block ≠ _; rw [add_block]; exact Nat.ne_of_lt (Nat.lt_of_lt_of_le (by have := World.block_lt_of_cell? _ _ hw611_3; first | rwa [add_block] at this | exact this) GW623.out)) | (dsimp only; exact Nat.ne_of_lt (Nat.lt_of_lt_of_le (by have := World.block_lt_of_cell? _ _ hw611_3; first | rwa [add_block] at this | exact this) GW623.out))) _).trans (((cell_far (p := ⟨gb623, _, none⟩) (by first | exact Nat.ne_of_lt (Nat.lt_of_lt_of_le (by have := World.block_lt_of_cell? _ _ hw611_3; first | rwa [add_block] at this | exact this) GW623.out) | (rw [add_block]; exact Nat.ne_of_lt (Nat.lt_of_lt_of_le (by have := World.block_lt_of_cell? _ _ hw611_3; first | rwa [add_block] at this | exact this) GW623.out)) | (show (Addr.add _ _).block ≠ _; rw [add_block]; exact Nat.ne_of_lt (Nat.lt_of_lt_of_le (by have := World.block_lt_of_cell? _ _ hw611_3; first | rwa [add_block] at this | exact this) GW623.out)) | (dsimp only; exact Nat.ne_of_lt (Nat.lt_of_lt_of_le (by have := World.block_lt_of_cell? _ _ hw611_3; first | rwa [add_block] at this | exact this) GW623.out))) _).trans (((cell_far (p := ⟨gb623, _, none⟩) (by first | exact Nat.ne_of_lt (Nat.lt_of_lt_of_le (by have := World.block_lt_of_cell? _ _ hw611_3; first | rwa [add_block] at this | exact this) GW623.out) | (rw [add_block]; exact Nat.ne_of_lt (Nat.lt_of_lt_of_le (by have := World.block_lt_of_cell? _ _ hw611_3; first | rwa [add_block] at this | exact this) GW623.out)) | (show (Addr.add _ _).block ≠ _; rw [add_block]; exact Nat.ne_of_lt (Nat.lt_of_lt_of_le (by have := World.block_lt_of_cell? _ _ hw611_3; first | rwa [add_block] at this | exact this) GW623.out)) | (dsimp only; exact Nat.ne_of_lt (Nat.lt_of_lt_of_le (by have := World.block_lt_of_cell? _ _ hw611_3; first | rwa [add_block] at this | exact this) GW623.out))) _).trans (((cell_far (p := ⟨gb623, _, none⟩) (by first | exact Nat.ne_of_lt (Nat.lt_of_lt_of_le (by have := World.block_lt_of_cell? _ _ hw611_3; first | rwa [add_block] at this | exact this) GW623.out) | (rw [add_block]; exact Nat.ne_of_lt (Nat.lt_of_lt_of_le (by have := World.block_lt_of_cell? _ _ hw611_3; first | rwa [add_block] at this | exact this) GW623.out)) | (show (Addr.add _ _).block ≠ _; rw [add_block]; exact Nat.ne_of_lt (Nat.lt_of_lt_of_le (by have := World.block_lt_of_cell? _ _ hw611_3; first | rwa [add_block] at this | exact this) GW623.out)) | (dsimp only; exact Nat.ne_of_lt (Nat.lt_of_lt_of_le (by have := World.block_lt_of_cell? _ _ hw611_3; first | rwa [add_block] at this | exact this) GW623.out))) _).trans (((cell_far (p := ⟨gb623, _, none⟩) (by first | exact Nat.ne_of_lt (Nat.lt_of_lt_of_le (by have := World.block_lt_of_cell? _ _ hw611_3; first | rwa [add_block] at this | exact this) GW623.out) | (rw [add_block]; exact Nat.ne_of_lt (Nat.lt_of_lt_of_le (by have := World.block_lt_of_cell? _ _ hw611_3; first | rwa [add_block] at this | exact this) GW623.out)) | (show (Addr.add _ _).block ≠ _; rw [add_block]; exact Nat.ne_of_lt (Nat.lt_of_lt_of_le (by have := World.block_lt_of_cell? _ _ hw611_3; first | rwa [add_block] at this | exact this) GW623.out)) | (dsimp only; exact Nat.ne_of_lt (Nat.lt_of_lt_of_le (by have := World.block_lt_of_cell? _ _ hw611_3; first | rwa [add_block] at this | exact this) GW623.out))) _).trans (((cell_far (p := ⟨gb623, _, none⟩) (by first | exact Nat.ne_of_lt (Nat.lt_of_lt_of_le (by have := World.block_lt_of_cell? _ _ hw611_3; first | rwa [add_block] at this | exact this) GW623.out) | (rw [add_block]; exact Nat.ne_of_lt (Nat.lt_of_lt_of_le (by have := World.block_lt_of_cell? _ _ hw611_3; first | rwa [add_block] at this | exact this) GW623.out)) | (show (Addr.add _ _).block ≠ _; rw [add_block]; exact Nat.ne_of_lt (Nat.lt_of_lt_of_le (by have := World.block_lt_of_cell? _ _ hw611_3; first | rwa [add_block] at this | exact this) GW623.out)) | (dsimp only; exact Nat.ne_of_lt (Nat.lt_of_lt_of_le (by have := World.block_lt_of_cell? _ _ hw611_3; first | rwa [add_block] at this | exact this) GW623.out))) _).trans (((cell_far (p := ⟨gb623, _, none⟩) (by first | exact Nat.ne_of_lt (Nat.lt_of_lt_of_le (by have := World.block_lt_of_cell? _ _ hw611_3; first | rwa [add_block] at this | exact this) GW623.out) | (rw [add_block]; exact Nat.ne_of_lt (Nat.lt_of_lt_of_le (by have := World.block_lt_of_cell? _ _ hw611_3; first | rwa [add_block] at this | exact this) GW623.out)) | (show (Addr.add _ _).block ≠ _; rw [add_block]; exact Nat.ne_of_lt (Nat.lt_of_lt_of_le (by have := World.block_lt_of_cell? _ _ hw611_3; first | rwa [add_block] at this | exact this) GW623.out)) | (dsimp only; exact Nat.ne_of_lt (Nat.lt_of_lt_of_le (by have := World.block_lt_of_cell? _ _ hw611_3; first | rwa [add_block] at this | exact this) GW623.out))) _).trans (hHeld.2.2.2.2.2.2.2.2.2.2.1)))))))))))))), ((cell_far (p := ⟨gb623, _, none⟩) (by first | exact Nat.ne_of_lt (Nat.lt_of_lt_of_le (by have := World.block_lt_of_cell? _ _ hw611_4; first | rwa [add_block] at this | exact this) GW623.out) | (rw [add_block]; exact Nat.ne_of_lt (Nat.lt_of_lt_of_le (by have := World.block_lt_of_cell? _ _ hw611_4; first | rwa [add_block] at this | exact this) GW623.out)) | (show (Addr.add _ _).block ≠ _; rw [add_block]; exact Nat.ne_of_lt (Nat.lt_of_lt_of_le (by have := World.block_lt_of_cell? _ _ hw611_4; first | rwa [add_block] at this | exact this) GW623.out)) | (dsimp only; exact Nat.ne_of_lt (Nat.lt_of_lt_of_le (by have := World.block_lt_of_cell? _ _ hw611_4; first | rwa [add_block] at this | exact this) GW623.out))) _).trans (((cell_far (p := ⟨gb623, _, none⟩) (by first | exact Nat.ne_of_lt (Nat.lt_of_lt_of_le (by have := World.block_lt_of_cell? _ _ hw611_4; first | rwa [add_block] at this | exact this) GW623.out) | (rw [add_block]; exact Nat.ne_of_lt (Nat.lt_of_lt_of_le (by have := World.block_lt_of_cell? _ _ hw611_4; first | rwa [add_block] at this | exact this) GW623.out)) | (show (Addr.add _ _).block ≠ _; rw [add_block]; exact Nat.ne_of_lt (Nat.lt_of_lt_of_le (by have := World.block_lt_of_cell? _ _ hw611_4; first | rwa [add_block] at this | exact this) GW623.out)) | (dsimp only; exact Nat.ne_of_lt (Nat.lt_of_lt_of_le (by have := World.block_lt_of_cell? _ _ hw611_4; first | rwa [add_block] at this | exact this) GW623.out))) _).trans (((cell_far (p := ⟨gb623, _, none⟩) (by first | exact Nat.ne_of_lt (Nat.lt_of_lt_of_le (by have := World.block_lt_of_cell? _ _ hw611_4; first | rwa [add_block] at this | exact this) GW623.out) | (rw [add_block]; exact Nat.ne_of_lt (Nat.lt_of_lt_of_le (by have := World.block_lt_of_cell? _ _ hw611_4; first | rwa [add_block] at this | exact this) GW623.out)) | (show (Addr.add _ _).block ≠ _; rw [add_block]; exact Nat.ne_of_lt (Nat.lt_of_lt_of_le (by have := World.block_lt_of_cell? _ _ hw611_4; first | rwa [add_block] at this | exact this) GW623.out)) | (dsimp only; exact Nat.ne_of_lt (Nat.lt_of_lt_of_le (by have := World.block_lt_of_cell? _ _ hw611_4; first | rwa [add_block] at this | exact this) GW623.out))) _).trans (((cell_far (p := ⟨gb623, _, none⟩) (by first | exact Nat.ne_of_lt (Nat.lt_of_lt_of_le (by have := World.block_lt_of_cell? _ _ hw611_4; first | rwa [add_block] at this | exact this) GW623.out) | (rw [add_block]; exact Nat.ne_of_lt (Nat.lt_of_lt_of_le (by have := World.block_lt_of_cell? _ _ hw611_4; first | rwa [add_block] at this | exact this) GW623.out)) | (show (Addr.add _ _).block ≠ _; rw [add_block]; exact Nat.ne_of_lt (Nat.lt_of_lt_of_le (by have := World.block_lt_of_cell? _ _ hw611_4; first | rwa [add_block] at this | exact this) GW623.out)) | (dsimp only; exact Nat.ne_of_lt (Nat.lt_of_lt_of_le (by have := World.block_lt_of_cell? _ _ hw611_4; first | rwa [add_block] at this | exact this) GW623.out))) _).trans (((cell_far (p := ⟨gb623, _, none⟩) (by first | exact Nat.ne_of_lt (Nat.lt_of_lt_of_le (by have := World.block_lt_of_cell? _ _ hw611_4; first | rwa [add_block] at this | exact this) GW623.out) | (rw [add_block]; exact Nat.ne_of_lt (Nat.lt_of_lt_of_le (by have := World.block_lt_of_cell? _ _ hw611_4; first | rwa [add_block] at this | exact this) GW623.out)) | (show (Addr.add _ _).block ≠ _; rw [add_block]; exact Nat.ne_of_lt (Nat.lt_of_lt_of_le (by have := World.block_lt_of_cell? _ _ hw611_4; first | rwa [add_block] at this | exact this) GW623.out)) | (dsimp only; exact Nat.ne_of_lt (Nat.lt_of_lt_of_le (by have := World.block_lt_of_cell? _ _ hw611_4; first | rwa [add_block] at this | exact this) GW623.out))) _).trans (((cell_far (p := ⟨gb623, _, none⟩) (by first | exact Nat.ne_of_lt (Nat.lt_of_lt_of_le (by have := World.block_lt_of_cell? _ _ hw611_4; first | rwa [add_block] at this | exact this) GW623.out) | (rw [add_block]; exact Nat.ne_of_lt (Nat.lt_of_lt_of_le (by have := World.block_lt_of_cell? _ _ hw611_4; first | rwa [add_block] at this | exact this) GW623.out)) | (show (Addr.add _ _).block ≠ _; rw [add_block]; exact Nat.ne_of_lt (Nat.lt_of_lt_of_le (by have := World.block_lt_of_cell? _ _ hw611_4; first | rwa [add_block] at this | exact this) GW623.out)) | (dsimp only; exact Nat.ne_of_lt (Nat.lt_of_lt_of_le (by have := World.block_lt_of_cell? _ _ hw611_4; first | rwa [add_block] at this | exact this) GW623.out))) _).trans (((cell_far (p := ⟨gb623, _, none⟩) (by first | exact Nat.ne_of_lt (Nat.lt_of_lt_of_le (by have := World.block_lt_of_cell? _ _ hw611_4; first | rwa [add_block] at this | exact this) GW623.out) | (rw [add_block]; exact Nat.ne_of_lt (Nat.lt_of_lt_of_le (by have := World.block_lt_of_cell? _ _ hw611_4; first | rwa [add_block] at this | exact this) GW623.out)) | (show (Addr.add _ _).block ≠ _; rw [add_block]; exact Nat.ne_of_lt (Nat.lt_of_lt_of_le (by have := World.block_lt_of_cell? _ _ hw611_4; first | rwa [add_block] at this | exact this) GW623.out)) | (dsimp only; exact Nat.ne_of_lt (Nat.lt_of_lt_of_le (by have := World.block_lt_of_cell? _ _ hw611_4; first | rwa [add_block] at this | exact this) GW623.out))) _).trans (hHeld.2.2.2.2.2.2.2.2.2.2.2.1)))))))))))))), ((cell_far (p := ⟨gb623, _, none⟩) (by first | exact Nat.ne_of_lt (Nat.lt_of_lt_of_le (by have := World.block_lt_of_cell? _ _ hw611_5; first | rwa [add_block] at this | exact this) GW623.out) | (rw [add_block]; exact Nat.ne_of_lt (Nat.lt_of_lt_of_le (by have := World.block_lt_of_cell? _ _ hw611_5; first | rwa [add_block] at this | exact this) GW623.out)) | (show (Addr.add _ _).block ≠ _; rw [add_block]; exact Nat.ne_of_lt (Nat.lt_of_lt_of_le (by have := World.block_lt_of_cell? _ _ hw611_5; first | rwa [add_block] at this | exact this) GW623.out)) | (dsimp only; exact Nat.ne_of_lt (Nat.lt_of_lt_of_le (by have := World.block_lt_of_cell? _ _ hw611_5; first | rwa [add_block] at this | exact this) GW623.out))) _).trans (((cell_far (p := ⟨gb623, _, none⟩) (by first | exact Nat.ne_of_lt (Nat.lt_of_lt_of_le (by have := World.block_lt_of_cell? _ _ hw611_5; first | rwa [add_block] at this | exact this) GW623.out) | (rw [add_block]; exact Nat.ne_of_lt (Nat.lt_of_lt_of_le (by have := World.block_lt_of_cell? _ _ hw611_5; first | rwa [add_block] at this | exact this) GW623.out)) | (show (Addr.add _ _).block ≠ _; rw [add_block]; exact Nat.ne_of_lt (Nat.lt_of_lt_of_le (by have := World.block_lt_of_cell? _ _ hw611_5; first | rwa [add_block] at this | exact this) GW623.out)) | (dsimp only; exact Nat.ne_of_lt (Nat.lt_of_lt_of_le (by have := World.block_lt_of_cell? _ _ hw611_5; first | rwa [add_block] at this | exact this) GW623.out))) _).trans (((cell_far (p := ⟨gb623, _, none⟩) (by first | exact Nat.ne_of_lt (Nat.lt_of_lt_of_le (by have := World.block_lt_of_cell? _ _ hw611_5; first | rwa [add_block] at this | exact this) GW623.out) | (rw [add_block]; exact Nat.ne_of_lt (Nat.lt_of_lt_of_le (by have := World.block_lt_of_cell? _ _ hw611_5; first | rwa [add_block] at this | exact this) GW623.out)) | (show (Addr.add _ _).block ≠ _; rw [add_block]; exact Nat.ne_of_lt (Nat.lt_of_lt_of_le (by have := World.block_lt_of_cell? _ _ hw611_5; first | rwa [add_block] at this | exact this) GW623.out)) | (dsimp only; exact Nat.ne_of_lt (Nat.lt_of_lt_of_le (by have := World.block_lt_of_cell? _ _ hw611_5; first | rwa [add_block] at this | exact this) GW623.out))) _).trans (((cell_far (p := ⟨gb623, _, none⟩) (by first | exact Nat.ne_of_lt (Nat.lt_of_lt_of_le (by have := World.block_lt_of_cell? _ _ hw611_5; first | rwa [add_block] at this | exact this) GW623.out) | (rw [add_block]; exact Nat.ne_of_lt (Nat.lt_of_lt_of_le (by have := World.block_lt_of_cell? _ _ hw611_5; first | rwa [add_block] at this | exact this) GW623.out)) | (show (Addr.add _ _).block ≠ _; rw [add_block]; exact Nat.ne_of_lt (Nat.lt_of_lt_of_le (by have := World.block_lt_of_cell? _ _ hw611_5; first | rwa [add_block] at this | exact this) GW623.out)) | (dsimp only; exact Nat.ne_of_lt (Nat.lt_of_lt_of_le (by have := World.block_lt_of_cell? _ _ hw611_5; first | rwa [add_block] at this | exact this) GW623.out))) _).trans (((cell_far (p := ⟨gb623, _, none⟩) (by first | exact Nat.ne_of_lt (Nat.lt_of_lt_of_le (by have := World.block_lt_of_cell? _ _ hw611_5; first | rwa [add_block] at this | exact this) GW623.out) | (rw [add_block]; exact Nat.ne_of_lt (Nat.lt_of_lt_of_le (by have := World.block_lt_of_cell? _ _ hw611_5; first | rwa [add_block] at this | exact this) GW623.out)) | (show (Addr.add _ _).block ≠ _; rw [add_block]; exact Nat.ne_of_lt (Nat.lt_of_lt_of_le (by have := World.block_lt_of_cell? _ _ hw611_5; first | rwa [add_block] at this | exact this) GW623.out)) | (dsimp only; exact Nat.ne_of_lt (Nat.lt_of_lt_of_le (by have := World.block_lt_of_cell? _ _ hw611_5; first | rwa [add_block] at this | exact this) GW623.out))) _).trans (((cell_far (p := ⟨gb623, _, none⟩) (by first | exact Nat.ne_of_lt (Nat.lt_of_lt_of_le (by have := World.block_lt_of_cell? _ _ hw611_5; first | rwa [add_block] at this | exact this) GW623.out) | (rw [add_block]; exact Nat.ne_of_lt (Nat.lt_of_lt_of_le (by have := World.block_lt_of_cell? _ _ hw611_5; first | rwa [add_block] at this | exact this) GW623.out)) | (show (Addr.add _ _).block ≠ _; rw [add_block]; exact Nat.ne_of_lt (Nat.lt_of_lt_of_le (by have := World.block_lt_of_cell? _ _ hw611_5; first | rwa [add_block] at this | exact this) GW623.out)) | (dsimp only; exact Nat.ne_of_lt (Nat.lt_of_lt_of_le (by have := World.block_lt_of_cell? _ _ hw611_5; first | rwa [add_block] at this | exact this) GW623.out))) _).trans (((cell_far (p := ⟨gb623, _, none⟩) (by first | exact Nat.ne_of_lt (Nat.lt_of_lt_of_le (by have := World.block_lt_of_cell? _ _ hw611_5; first | rwa [add_block] at this | exact this) GW623.out) | (rw [add_block]; exact Nat.ne_of_lt (Nat.lt_of_lt_of_le (by have := World.block_lt_of_cell? _ _ hw611_5; first | rwa [add_block] at this | exact this) GW623.out)) | (show (Addr.add _ _).block ≠ _; rw [add_block]; exact Nat.ne_of_lt (Nat.lt_of_lt_of_le (by have := World.block_lt_of_cell? _ _ hw611_5; first | rwa [add_block] at this | exact this) GW623.out)) | (dsimp only; exact Nat.ne_of_lt (Nat.lt_of_lt_of_le (by have := World.block_lt_of_cell? _ _ hw611_5; first | rwa [add_block] at this | exact this) GW623.out))) _).trans (hHeld.2.2.2.2.2.2.2.2.2.2.2.2.1)))))))))))))), ((cell_far (p := ⟨gb623, _, none⟩) (by first | exact Nat.ne_of_lt (Nat.lt_of_lt_of_le (by have := World.block_lt_of_cell? _ _ hw611_6; first | rwa [add_block] at this | exact this) GW623.out) | (rw [add_block]; exact Nat.ne_of_lt (Nat.lt_of_lt_of_le (by have := World.block_lt_of_cell? _ _ hw611_6; first | rwa [add_block] at this | exact this) GW623.out)) | (show (Addr.add _ _).block ≠ _; rw [add_block]; exact Nat.ne_of_lt (Nat.lt_of_lt_of_le (by have := World.block_lt_of_cell? _ _ hw611_6; first | rwa [add_block] at this | exact this) GW623.out)) | (dsimp only; exact Nat.ne_of_lt (Nat.lt_of_lt_of_le (by have := World.block_lt_of_cell? _ _ hw611_6; first | rwa [add_block] at this | exact this) GW623.out))) _).trans (((cell_far (p := ⟨gb623, _, none⟩) (by first | exact Nat.ne_of_lt (Nat.lt_of_lt_of_le (by have := World.block_lt_of_cell? _ _ hw611_6; first | rwa [add_block] at this | exact this) GW623.out) | (rw [add_block]; exact Nat.ne_of_lt (Nat.lt_of_lt_of_le (by have := World.block_lt_of_cell? _ _ hw611_6; first | rwa [add_block] at this | exact this) GW623.out)) | (show (Addr.add _ _).block ≠ _; rw [add_block]; exact Nat.ne_of_lt (Nat.lt_of_lt_of_le (by have := World.block_lt_of_cell? _ _ hw611_6; first | rwa [add_block] at this | exact this) GW623.out)) | (dsimp only; exact Nat.ne_of_lt (Nat.lt_of_lt_of_le (by have := World.block_lt_of_cell? _ _ hw611_6; first | rwa [add_block] at this | exact this) GW623.out))) _).trans (((cell_far (p := ⟨gb623, _, none⟩) (by first | exact Nat.ne_of_lt (Nat.lt_of_lt_of_le (by have := World.block_lt_of_cell? _ _ hw611_6; first | rwa [add_block] at this | exact this) GW623.out) | (rw [add_block]; exact Nat.ne_of_lt (Nat.lt_of_lt_of_le (by have := World.block_lt_of_cell? _ _ hw611_6; first | rwa [add_block] at this | exact this) GW623.out)) | (show (Addr.add _ _).block ≠ _; rw [add_block]; exact Nat.ne_of_lt (Nat.lt_of_lt_of_le (by have := World.block_lt_of_cell? _ _ hw611_6; first | rwa [add_block] at this | exact this) GW623.out)) | (dsimp only; exact Nat.ne_of_lt (Nat.lt_of_lt_of_le (by have := World.block_lt_of_cell? _ _ hw611_6; first | rwa [add_block] at this | exact this) GW623.out))) _).trans (((cell_far (p := ⟨gb623, _, none⟩) (by first | exact Nat.ne_of_lt (Nat.lt_of_lt_of_le (by have := World.block_lt_of_cell? _ _ hw611_6; first | rwa [add_block] at this | exact this) GW623.out) | (rw [add_block]; exact Nat.ne_of_lt (Nat.lt_of_lt_of_le (by have := World.block_lt_of_cell? _ _ hw611_6; first | rwa [add_block] at this | exact this) GW623.out)) | (show (Addr.add _ _).block ≠ _; rw [add_block]; exact Nat.ne_of_lt (Nat.lt_of_lt_of_le (by have := World.block_lt_of_cell? _ _ hw611_6; first | rwa [add_block] at this | exact this) GW623.out)) | (dsimp only; exact Nat.ne_of_lt (Nat.lt_of_lt_of_le (by have := World.block_lt_of_cell? _ _ hw611_6; first | rwa [add_block] at this | exact this) GW623.out))) _).trans (((cell_far (p := ⟨gb623, _, none⟩) (by first | exact Nat.ne_of_lt (Nat.lt_of_lt_of_le (by have := World.block_lt_of_cell? _ _ hw611_6; first | rwa [add_block] at this | exact this) GW623.out) | (rw [add_block]; exact Nat.ne_of_lt (Nat.lt_of_lt_of_le (by have := World.block_lt_of_cell? _ _ hw611_6; first | rwa [add_block] at this | exact this) GW623.out)) | (show (Addr.add _ _).block ≠ _; rw [add_block]; exact Nat.ne_of_lt (Nat.lt_of_lt_of_le (by have := World.block_lt_of_cell? _ _ hw611_6; first | rwa [add_block] at this | exact this) GW623.out)) | (dsimp only; exact Nat.ne_of_lt (Nat.lt_of_lt_of_le (by have := World.block_lt_of_cell? _ _ hw611_6; first | rwa [add_block] at this | exact this) GW623.out))) _).trans (((cell_far (p := ⟨gb623, _, none⟩) (by first | exact Nat.ne_of_lt (Nat.lt_of_lt_of_le (by have := World.block_lt_of_cell? _ _ hw611_6; first | rwa [add_block] at this | exact this) GW623.out) | (rw [add_block]; exact Nat.ne_of_lt (Nat.lt_of_lt_of_le (by have := World.block_lt_of_cell? _ _ hw611_6; first | rwa [add_block] at this | exact this) GW623.out)) | (show (Addr.add _ _).block ≠ _; rw [add_block]; exact Nat.ne_of_lt (Nat.lt_of_lt_of_le (by have := World.block_lt_of_cell? _ _ hw611_6; first | rwa [add_block] at this | exact this) GW623.out)) | (dsimp only; exact Nat.ne_of_lt (Nat.lt_of_lt_of_le (by have := World.block_lt_of_cell? _ _ hw611_6; first | rwa [add_block] at this | exact this) GW623.out))) _).trans (((cell_far (p := ⟨gb623, _, none⟩) (by first | exact Nat.ne_of_lt (Nat.lt_of_lt_of_le (by have := World.block_lt_of_cell? _ _ hw611_6; first | rwa [add_block] at this | exact this) GW623.out) | (rw [add_block]; exact Nat.ne_of_lt (Nat.lt_of_lt_of_le (by have := World.block_lt_of_cell? _ _ hw611_6; first | rwa [add_block] at this | exact this) GW623.out)) | (show (Addr.add _ _).block ≠ _; rw [add_block]; exact Nat.ne_of_lt (Nat.lt_of_lt_of_le (by have := World.block_lt_of_cell? _ _ hw611_6; first | rwa [add_block] at this | exact this) GW623.out)) | (dsimp only; exact Nat.ne_of_lt (Nat.lt_of_lt_of_le (by have := World.block_lt_of_cell? _ _ hw611_6; first | rwa [add_block] at this | exact this) GW623.out))) _).trans (hHeld.2.2.2.2.2.2.2.2.2.2.2.2.2))))))))))))))⟩ (fun hHeld => ?_)
                      clear hK K
                      refine pure_ (i := 14) (N := some 10) (v := ?_) (a' := ?_) #[true, true, true, true, true, true, true, true, true, true, true, true, true, true, true] rfl rfl (any_of HT_.out (by kernel_rfl)) (fun _ _ _ h => h) (Or.inl ⟨by rfl, ?_⟩) ?_ ?_
                      rotate_left
                      · intro w'
                        go_simp
                        with_reducible rfl
                      rotate_left
                      · simp only [Act.put, List.setIfInBounds_toArray, List.set_cons_zero, List.set_cons_succ, i64_w, i32_w]
                        rfl
                      refine done_ (done_of HT_.out (by kernel_rfl)) ?_
                      have n0_ : Aside0 (Kd.R k26 26 (((((((w27.setCell ⟨gb623, 0, none⟩ (.int .u8 t613)).setCell ⟨gb623, 1, none⟩ (.int .i64 t614)).setCell ⟨gb623, 2, none⟩ (.int .i64 t615)).setCell ⟨gb623, 3, none⟩ (.int .i64 t616)).setCell ⟨gb623, 4, none⟩ (.int .i64 t617)).setCell ⟨gb623, 5, none⟩ (.int .i64 t618)).setCell ⟨gb623, 6, none⟩ (.slice Ao34 t619.length co34)) w.heap.size (fun k_ => some k_ ≠ (.slice Ao34 t619.length co34 : Value).ownBlock ∧ k_ ≠ gb605 ∧ k_ ≠ gb606 ∧ k_ ≠ gb623) u7 x7_2) := ⟨by (with_reducible repeat (first | apply Kd.R_alloc | apply Kd.R_drewN | apply Kd.R_drew)); exact Kd.R_mono (Kd.R_far (p := ⟨gb623, 6, none⟩) (Kd.R_far (p := ⟨gb623, 5, none⟩) (Kd.R_far (p := ⟨gb623, 4, none⟩) (Kd.R_far (p := ⟨gb623, 3, none⟩) (Kd.R_far (p := ⟨gb623, 2, none⟩) (Kd.R_far (p := ⟨gb623, 1, none⟩) (Kd.R_far (p := ⟨gb623, 0, none⟩) (Kd.R_mono HO_7.out (fun k_ hk => (⟨hk, hk.2.2.2⟩ : _ ∧ k_ ≠ gb623))) (fun _ hk => hk.2) (.int .u8 t613)) (fun _ hk => hk.2) (.int .i64 t614)) (fun _ hk => hk.2) (.int .i64 t615)) (fun _ hk => hk.2) (.int .i64 t616)) (fun _ hk => hk.2) (.int .i64 t617)) (fun _ hk => hk.2) (.int .i64 t618)) (fun _ hk => hk.2) (.slice Ao34 t619.length co34)) (fun _ hk => ⟨hk.1.1, ⟨hk.1.2.1, ⟨hk.1.2.2.1, hk.1.2.2.2⟩⟩⟩)⟩
                      have n1_ : Aside0 (Kd.R k26 26 (((((((w27.setCell ⟨gb623, 0, none⟩ (.int .u8 t613)).setCell ⟨gb623, 1, none⟩ (.int .i64 t614)).setCell ⟨gb623, 2, none⟩ (.int .i64 t615)).setCell ⟨gb623, 3, none⟩ (.int .i64 t616)).setCell ⟨gb623, 4, none⟩ (.int .i64 t617)).setCell ⟨gb623, 5, none⟩ (.int .i64 t618)).setCell ⟨gb623, 6, none⟩ (.slice Ao34 t619.length co34)) w.heap.size (fun k_ => some k_ ≠ (u7 : Value).ownBlock ∧ k_ ≠ gb605 ∧ k_ ≠ gb606 ∧ k_ ≠ gb623) (.slice Ao34 t619.length co34) t619) := ⟨by (with_reducible repeat (first | apply Kd.R_alloc | apply Kd.R_drewN | apply Kd.R_drew)); exact Kd.R_mono (Kd.R_far (p := ⟨gb623, 6, none⟩) (Kd.R_far (p := ⟨gb623, 5, none⟩) (Kd.R_far (p := ⟨gb623, 4, none⟩) (Kd.R_far (p := ⟨gb623, 3, none⟩) (Kd.R_far (p := ⟨gb623, 2, none⟩) (Kd.R_far (p := ⟨gb623, 1, none⟩) (Kd.R_far (p := ⟨gb623, 0, none⟩) (Kd.R_mono HO621.out (fun k_ hk => (⟨hk, hk.2.2.2⟩ : _ ∧ k_ ≠ gb623))) (fun _ hk => hk.2) (.int .u8 t613)) (fun _ hk => hk.2) (.int .i64 t614)) (fun _ hk => hk.2) (.int .i64 t615)) (fun _ hk => hk.2) (.int .i64 t616)) (fun _ hk => hk.2) (.int .i64 t617)) (fun _ hk => hk.2) (.int .i64 t618)) (fun _ hk => hk.2) (.slice Ao34 t619.length co34)) (fun _ hk => ⟨hk.1.1, ⟨hk.1.2.1, ⟨hk.1.2.2.1, hk.1.2.2.2⟩⟩⟩)⟩
                      have n2_ : Aside0 ((((((((w27.setCell ⟨gb623, 0, none⟩ (.int .u8 t613)).setCell ⟨gb623, 1, none⟩ (.int .i64 t614)).setCell ⟨gb623, 2, none⟩ (.int .i64 t615)).setCell ⟨gb623, 3, none⟩ (.int .i64 t616)).setCell ⟨gb623, 4, none⟩ (.int .i64 t617)).setCell ⟨gb623, 5, none⟩ (.int .i64 t618)).setCell ⟨gb623, 6, none⟩ (.slice Ao34 t619.length co34)).heap[gb605]? = some (.cells #[.int .u8 a0_0, .int .i64 a0_1, .int .i64 a0_2, .int .i64 a0_3, .int .i64 a0_4, .int .i64 x606005_2, .slice (some ad611) l0_6.length c0_6] 26 (0, 0))) := ⟨by (with_reducible repeat (first | refine blk_drewN ?_ _ | refine blk_drew ?_ | refine blk_alloc ?_ _)); refine blk_far ?_ NB605_623.out _; (with_reducible repeat (first | refine blk_drewN ?_ _ | refine blk_drew ?_ | refine blk_alloc ?_ _)); refine blk_far ?_ NB605_623.out _; (with_reducible repeat (first | refine blk_drewN ?_ _ | refine blk_drew ?_ | refine blk_alloc ?_ _)); refine blk_far ?_ NB605_623.out _; (with_reducible repeat (first | refine blk_drewN ?_ _ | refine blk_drew ?_ | refine blk_alloc ?_ _)); refine blk_far ?_ NB605_623.out _; (with_reducible repeat (first | refine blk_drewN ?_ _ | refine blk_drew ?_ | refine blk_alloc ?_ _)); refine blk_far ?_ NB605_623.out _; (with_reducible repeat (first | refine blk_drewN ?_ _ | refine blk_drew ?_ | refine blk_alloc ?_ _)); refine blk_far ?_ NB605_623.out _; (with_reducible repeat (first | refine blk_drewN ?_ _ | refine blk_drew ?_ | refine blk_alloc ?_ _)); refine blk_far ?_ NB605_623.out _; (with_reducible repeat (first | refine blk_drewN ?_ _ | refine blk_drew ?_ | refine blk_alloc ?_ _)); exact BK605.out⟩
                      have n3_ : Aside0 ((((((((w27.setCell ⟨gb623, 0, none⟩ (.int .u8 t613)).setCell ⟨gb623, 1, none⟩ (.int .i64 t614)).setCell ⟨gb623, 2, none⟩ (.int .i64 t615)).setCell ⟨gb623, 3, none⟩ (.int .i64 t616)).setCell ⟨gb623, 4, none⟩ (.int .i64 t617)).setCell ⟨gb623, 5, none⟩ (.int .i64 t618)).setCell ⟨gb623, 6, none⟩ (.slice Ao34 t619.length co34)).heap[gb606]? = some (.cells #[.int .u8 0, .int .i64 0, .int .i64 0, .int .i64 0, .int .i64 0, .int .i64 0, .slice none 0 0] 26 (0, 0))) := ⟨by (with_reducible repeat (first | refine blk_drewN ?_ _ | refine blk_drew ?_ | refine blk_alloc ?_ _)); refine blk_far ?_ NB606_623.out _; (with_reducible repeat (first | refine blk_drewN ?_ _ | refine blk_drew ?_ | refine blk_alloc ?_ _)); refine blk_far ?_ NB606_623.out _; (with_reducible repeat (first | refine blk_drewN ?_ _ | refine blk_drew ?_ | refine blk_alloc ?_ _)); refine blk_far ?_ NB606_623.out _; (with_reducible repeat (first | refine blk_drewN ?_ _ | refine blk_drew ?_ | refine blk_alloc ?_ _)); refine blk_far ?_ NB606_623.out _; (with_reducible repeat (first | refine blk_drewN ?_ _ | refine blk_drew ?_ | refine blk_alloc ?_ _)); refine blk_far ?_ NB606_623.out _; (with_reducible repeat (first | refine blk_drewN ?_ _ | refine blk_drew ?_ | refine blk_alloc ?_ _)); refine blk_far ?_ NB606_623.out _; (with_reducible repeat (first | refine blk_drewN ?_ _ | refine blk_drew ?_ | refine blk_alloc ?_ _)); refine blk_far ?_ NB606_623.out _; (with_reducible repeat (first | refine blk_drewN ?_ _ | refine blk_drew ?_ | refine blk_alloc ?_ _)); exact BK606.out⟩
                      have n4_ : Aside0 ((((((((w27.setCell ⟨gb623, 0, none⟩ (.int .u8 t613)).setCell ⟨gb623, 1, none⟩ (.int .i64 t614)).setCell ⟨gb623, 2, none⟩ (.int .i64 t615)).setCell ⟨gb623, 3, none⟩ (.int .i64 t616)).setCell ⟨gb623, 4, none⟩ (.int .i64 t617)).setCell ⟨gb623, 5, none⟩ (.int .i64 t618)).setCell ⟨gb623, 6, none⟩ (.slice Ao34 t619.length co34)).heap[gb623]? = some (.cells #[.int .u8 t613, .int .i64 t614, .int .i64 t615, .int .i64 t616, .int .i64 t617, .int .i64 t618, .slice Ao34 t619.length co34] 26 (0, 0))) := ⟨by (with_reducible repeat (first | refine blk_drewN ?_ _ | refine blk_drew ?_ | refine blk_alloc ?_ _)); refine blk_put (cs := #[.int .u8 t613, .int .i64 t614, .int .i64 t615, .int .i64 t616, .int .i64 t617, .int .i64 t618, .slice none 0 0]) ?_ 6 _ rfl; (with_reducible repeat (first | refine blk_drewN ?_ _ | refine blk_drew ?_ | refine blk_alloc ?_ _)); refine blk_put (cs := #[.int .u8 t613, .int .i64 t614, .int .i64 t615, .int .i64 t616, .int .i64 t617, .int .i64 0, .slice none 0 0]) ?_ 5 _ rfl; (with_reducible repeat (first | refine blk_drewN ?_ _ | refine blk_drew ?_ | refine blk_alloc ?_ _)); refine blk_put (cs := #[.int .u8 t613, .int .i64 t614, .int .i64 t615, .int .i64 t616, .int .i64 0, .int .i64 0, .slice none 0 0]) ?_ 4 _ rfl; (with_reducible repeat (first | refine blk_drewN ?_ _ | refine blk_drew ?_ | refine blk_alloc ?_ _)); refine blk_put (cs := #[.int .u8 t613, .int .i64 t614, .int .i64 t615, .int .i64 0, .int .i64 0, .int .i64 0, .slice none 0 0]) ?_ 3 _ rfl; (with_reducible repeat (first | refine blk_drewN ?_ _ | refine blk_drew ?_ | refine blk_alloc ?_ _)); refine blk_put (cs := #[.int .u8 t613, .int .i64 t614, .int .i64 0, .int .i64 0, .int .i64 0, .int .i64 0, .slice none 0 0]) ?_ 2 _ rfl; (with_reducible repeat (first | refine blk_drewN ?_ _ | refine blk_drew ?_ | refine blk_alloc ?_ _)); refine blk_put (cs := #[.int .u8 t613, .int .i64 0, .int .i64 0, .int .i64 0, .int .i64 0, .int .i64 0, .slice none 0 0]) ?_ 1 _ rfl; (with_reducible repeat (first | refine blk_drewN ?_ _ | refine blk_drew ?_ | refine blk_alloc ?_ _)); refine blk_put (cs := #[.int .u8 0, .int .i64 0, .int .i64 0, .int .i64 0, .int .i64 0, .int .i64 0, .slice none 0 0]) ?_ 0 _ rfl; (with_reducible repeat (first | refine blk_drewN ?_ _ | refine blk_drew ?_ | refine blk_alloc ?_ _)); exact BK623.out⟩
                      have n5_ : Aside0 (Below w.heap.size w (((((((w27.setCell ⟨gb623, 0, none⟩ (.int .u8 t613)).setCell ⟨gb623, 1, none⟩ (.int .i64 t614)).setCell ⟨gb623, 2, none⟩ (.int .i64 t615)).setCell ⟨gb623, 3, none⟩ (.int .i64 t616)).setCell ⟨gb623, 4, none⟩ (.int .i64 t617)).setCell ⟨gb623, 5, none⟩ (.int .i64 t618)).setCell ⟨gb623, 6, none⟩ (.slice Ao34 t619.length co34))) := ⟨by repeat (first | (with_reducible first | exact HB.out | apply below_alloc | apply pw_below_drewN | apply below_drew1 | refine below_set ?_ GE605.out | refine below_set ?_ GE606.out | refine below_set ?_ GE623.out) | exact HB.out)⟩
                      (try clear HO_7)
                      (try clear HO621)
                      (try clear BK605)
                      (try clear BK606)
                      (try clear BK623)
                      (try clear HB)
                      generalize (((((((w27.setCell ⟨gb623, 0, none⟩ (.int .u8 t613)).setCell ⟨gb623, 1, none⟩ (.int .i64 t614)).setCell ⟨gb623, 2, none⟩ (.int .i64 t615)).setCell ⟨gb623, 3, none⟩ (.int .i64 t616)).setCell ⟨gb623, 4, none⟩ (.int .i64 t617)).setCell ⟨gb623, 5, none⟩ (.int .i64 t618)).setCell ⟨gb623, 6, none⟩ (.slice Ao34 t619.length co34)) = w36 at n0_ n1_ n2_ n3_ n4_ n5_ ⊢
                      have HO_7 := n0_
                      have HO621 := n1_
                      have BK605 := n2_
                      have BK606 := n3_
                      have BK623 := n4_
                      have HB := n5_
                      clear n0_ n1_ n2_ n3_ n4_ n5_
                      have hnb37 := NB623_605.out
                      have hnc37 := NB605_623.out
                      have hnb38 := NB623_606.out
                      have hnc38 := NB606_623.out
                      have hcz39_0 : w36.cell? ⟨gb623, 0, none⟩ = some (.int .u8 t613) := (blk_cell BK623.out 0).trans rfl
                      have hcz39_1 : w36.cell? ⟨gb623, 1, none⟩ = some (.int .i64 t614) := (blk_cell BK623.out 1).trans rfl
                      have hcz39_2 : w36.cell? ⟨gb623, 2, none⟩ = some (.int .i64 t615) := (blk_cell BK623.out 2).trans rfl
                      have hcz39_3 : w36.cell? ⟨gb623, 3, none⟩ = some (.int .i64 t616) := (blk_cell BK623.out 3).trans rfl
                      have hcz39_4 : w36.cell? ⟨gb623, 4, none⟩ = some (.int .i64 t617) := (blk_cell BK623.out 4).trans rfl
                      have hcz39_5 : w36.cell? ⟨gb623, 5, none⟩ = some (.int .i64 t618) := (blk_cell BK623.out 5).trans rfl
                      have hcz39_6 : w36.cell? ⟨gb623, 6, none⟩ = some (.slice Ao34 t619.length co34) := (blk_cell BK623.out 6).trans rfl
                      have hfz39_0 := blk_frozen BK623.out 0
                      have hfz39_1 := blk_frozen BK623.out 1
                      have hfz39_2 := blk_frozen BK623.out 2
                      have hfz39_3 := blk_frozen BK623.out 3
                      have hfz39_4 := blk_frozen BK623.out 4
                      have hfz39_5 := blk_frozen BK623.out 5
                      have hfz39_6 := blk_frozen BK623.out 6
                      try go_wp2_with (first | ((with_reducible refine gate_builtin (b := .append) (xs := #[.tmp 37, .tmp 39]) rfl ?_); at_builtin; refine Kd.R_append k26 (w0 := w) w.heap.size rfl (.tmp 37) (.tmp 39) 24 26 (.agg #[(.int .u8 0), (.int .i64 0), (.int .i64 0), (.int .i64 0), (.int .i64 0), (.int .i64 0), (.slice none 0 0)]) 72 rfl Try.underlying24 info26 rfl (by decide) (by omega) u7 x7_2 (⟨t613, (⟨t614, t615, t616, t617⟩ : S23), t618, t619⟩ : S26) [.int .u8 t613, .int .i64 t614, .int .i64 t615, .int .i64 t616, .int .i64 t617, .int .i64 t618, .slice Ao34 t619.length co34] (fun k_ => k_ ≠ gb605 ∧ k_ ≠ gb606 ∧ k_ ≠ gb623) (fun k_ => ((fun k_ => k_ ≠ gb605 ∧ k_ ≠ gb606 ∧ k_ ≠ gb623)) k_ ∧ some k_ ≠ (u7 : Value).ownBlock) rfl rfl ?aP (fun _ hk => hk) ?aF ?aO ?aB ?aS ?aL ?_; (case aP => exact k26_mkM _ _ _ (⟨t613, (⟨t614, t615, t616, t617⟩ : S23), t618, t619⟩ : S26) (Kd.R_mono (HO621.out) (fun k_ hk => ⟨⟨hk.2.1, ⟨hk.2.2.1, hk.2.2.2⟩⟩, hk.1⟩))); (case aB => exact (by repeat (first | (with_reducible first | exact HB.out | apply below_alloc | apply pw_below_drewN | apply below_drew1 | refine below_set ?_ GE605.out | refine below_set ?_ GE606.out | refine below_set ?_ GE623.out) | exact HB.out))); (case aF => exact (fun k_ hk => ⟨Kd.freshB (g := gb605) (o := .cells #[.int .u8 a0_0, .int .i64 a0_1, .int .i64 a0_2, .int .i64 a0_3, .int .i64 a0_4, .int .i64 x606005_2, .slice (some ad611) l0_6.length c0_6] 26 (0, 0)) (by (with_reducible repeat (first | refine blk_drewN ?_ _ | refine blk_drew ?_ | refine blk_alloc ?_ _)); exact BK605.out) k_ hk, Kd.freshB (g := gb606) (o := .cells #[.int .u8 0, .int .i64 0, .int .i64 0, .int .i64 0, .int .i64 0, .int .i64 0, .slice none 0 0] 26 (0, 0)) (by (with_reducible repeat (first | refine blk_drewN ?_ _ | refine blk_drew ?_ | refine blk_alloc ?_ _)); exact BK606.out) k_ hk, Kd.freshB (g := gb623) (o := .cells #[.int .u8 t613, .int .i64 t614, .int .i64 t615, .int .i64 t616, .int .i64 t617, .int .i64 t618, .slice Ao34 t619.length co34] 26 (0, 0)) (by (with_reducible repeat (first | refine blk_drewN ?_ _ | refine blk_drew ?_ | refine blk_alloc ?_ _)); exact BK623.out) k_ hk⟩)); (case aO => exact (by (with_reducible repeat (first | apply Kd.R_alloc | apply Kd.R_drewN | apply Kd.R_drew)); exact Kd.R_mono HO_7.out (fun _ hk => ⟨hk.2.1, ⟨hk.2.2.1, hk.2.2.2⟩⟩))); (case aS => exact (below_size (by repeat (first | (with_reducible first | exact HB.out | apply below_alloc | apply pw_below_drewN | apply below_drew1 | refine below_set ?_ GE605.out | refine below_set ?_ GE606.out | refine below_set ?_ GE623.out) | exact HB.out)))); (case aL => have := LMc22.out; omega); intro v625 w40 ho hb hg hat; rw [← Ny624.out] at ho; have n0_ := Aside0.mk (blk_grown (g := gb605) (o := .cells #[.int .u8 a0_0, .int .i64 a0_1, .int .i64 a0_2, .int .i64 a0_3, .int .i64 a0_4, .int .i64 x606005_2, .slice (some ad611) l0_6.length c0_6] 26 (0, 0)) (by (with_reducible repeat (first | refine blk_drewN ?_ _ | refine blk_drew ?_ | refine blk_alloc ?_ _)); exact BK605.out) hg (Kd.R_away HO_7.out (fun _ hk => hk.2.1))); have n1_ := Aside0.mk (blk_grown (g := gb606) (o := .cells #[.int .u8 0, .int .i64 0, .int .i64 0, .int .i64 0, .int .i64 0, .int .i64 0, .slice none 0 0] 26 (0, 0)) (by (with_reducible repeat (first | refine blk_drewN ?_ _ | refine blk_drew ?_ | refine blk_alloc ?_ _)); exact BK606.out) hg (Kd.R_away HO_7.out (fun _ hk => hk.2.2.1))); have n2_ := Aside0.mk (blk_grown (g := gb623) (o := .cells #[.int .u8 t613, .int .i64 t614, .int .i64 t615, .int .i64 t616, .int .i64 t617, .int .i64 t618, .slice Ao34 t619.length co34] 26 (0, 0)) (by (with_reducible repeat (first | refine blk_drewN ?_ _ | refine blk_drew ?_ | refine blk_alloc ?_ _)); exact BK623.out) hg (Kd.R_away HO_7.out (fun _ hk => hk.2.2.2))); have n3_ := Aside0.mk (hb); have n4_ := Aside0.mk (ho); clear BK605; clear BK606; clear BK623; clear HB; clear HO_7; clear HO621; have BK605 := n0_; have BK606 := n1_; have BK623 := n2_; have HB := n3_; have HO626 := n4_; clear n0_ n1_ n2_ n3_ n4_; clear ho hb hg hat))
                      go_roundg k2
                      case measure => have := HJ2.out; have := HK2.out; omega
                      case rel => exact ⟨(wrap64 (x6_2 + t622)), (y624), (wrap64 (x22_2 + 1)), (by first | rfl | (simp; done) | (simp [*]; done)), (by first | rfl | (simp; done) | (simp [*]; done)), H', ⟨by have := HJ2.out; have := HK2.out; omega⟩, ⟨by (with_reducible repeat (first | apply Kd.R_alloc | apply Kd.R_drewN | apply Kd.R_drew)); exact Kd.R_mono HO626.out (fun _ hk => ⟨hk.1, hk.2.1⟩)⟩, ⟨by (with_reducible repeat (first | refine blk_drewN ?_ _ | refine blk_drew ?_ | refine blk_alloc ?_ _)); exact BK605.out⟩, ⟨by (with_reducible repeat (first | refine blk_drewN ?_ _ | refine blk_drew ?_ | refine blk_alloc ?_ _)); exact BK606.out⟩, ⟨by repeat (first | (with_reducible first | exact HB.out | apply below_alloc | apply pw_below_drewN | apply below_drew1 | refine below_set ?_ GE605.out | refine below_set ?_ GE606.out | refine below_set ?_ GE623.out) | exact HB.out)⟩⟩
                    · rw [if_neg c22] at H
                      exact absurd H (by simp)
                  · rw [if_neg c20] at H
                    exact absurd H (by simp)
                · rw [if_neg c19] at H
                  exact absurd H (by simp)
              · rw [if_neg c18] at H
                exact absurd H (by simp)
            · rw [if_neg c17] at H
              exact absurd H (by simp)
          · rw [if_neg c16] at H
            have c16b0 : decide (x22_2 < (l0_6.length : Int)) = false := decide_eq_false c16
            clear c16
            simp only [Option.some.injEq, Prod.mk.injEq] at H
            obtain ⟨rfl, rfl, rfl, rfl, rfl, rfl, rfl, rfl⟩ := H
            obtain ⟨Ao41, co41, eo41⟩ := Kd.R_slice HO_7.out
            subst eo41
            have hnb42 := NB605_606.out
            have hnc42 := NB606_605.out
            have hcz43_0 : wr.cell? ⟨gb605, 0, none⟩ = some (.int .u8 a0_0) := (blk_cell BK605.out 0).trans rfl
            have hcz43_1 : wr.cell? ⟨gb605, 1, none⟩ = some (.int .i64 a0_1) := (blk_cell BK605.out 1).trans rfl
            have hcz43_2 : wr.cell? ⟨gb605, 2, none⟩ = some (.int .i64 a0_2) := (blk_cell BK605.out 2).trans rfl
            have hcz43_3 : wr.cell? ⟨gb605, 3, none⟩ = some (.int .i64 a0_3) := (blk_cell BK605.out 3).trans rfl
            have hcz43_4 : wr.cell? ⟨gb605, 4, none⟩ = some (.int .i64 a0_4) := (blk_cell BK605.out 4).trans rfl
            have hcz43_5 : wr.cell? ⟨gb605, 5, none⟩ = some (.int .i64 x606005_2) := (blk_cell BK605.out 5).trans rfl
            have hcz43_6 : wr.cell? ⟨gb605, 6, none⟩ = some (.slice A0_6 l0_6.length c0_6) := (blk_cell BK605.out 6).trans rfl
            have hfz43_0 := blk_frozen BK605.out 0
            have hfz43_1 := blk_frozen BK605.out 1
            have hfz43_2 := blk_frozen BK605.out 2
            have hfz43_3 := blk_frozen BK605.out 3
            have hfz43_4 := blk_frozen BK605.out 4
            have hfz43_5 := blk_frozen BK605.out 5
            have hfz43_6 := blk_frozen BK605.out 6
            have hcz44_0 : wr.cell? ⟨gb606, 0, none⟩ = some (.int .u8 0) := (blk_cell BK606.out 0).trans rfl
            have hcz44_1 : wr.cell? ⟨gb606, 1, none⟩ = some (.int .i64 0) := (blk_cell BK606.out 1).trans rfl
            have hcz44_2 : wr.cell? ⟨gb606, 2, none⟩ = some (.int .i64 0) := (blk_cell BK606.out 2).trans rfl
            have hcz44_3 : wr.cell? ⟨gb606, 3, none⟩ = some (.int .i64 0) := (blk_cell BK606.out 3).trans rfl
            have hcz44_4 : wr.cell? ⟨gb606, 4, none⟩ = some (.int .i64 0) := (blk_cell BK606.out 4).trans rfl
            have hcz44_5 : wr.cell? ⟨gb606, 5, none⟩ = some (.int .i64 0) := (blk_cell BK606.out 5).trans rfl
            have hcz44_6 : wr.cell? ⟨gb606, 6, none⟩ = some (.slice none 0 0) := (blk_cell BK606.out 6).trans rfl
            have hfz44_0 := blk_frozen BK606.out 0
            have hfz44_1 := blk_frozen BK606.out 1
            have hfz44_2 := blk_frozen BK606.out 2
            have hfz44_3 := blk_frozen BK606.out 3
            have hfz44_4 := blk_frozen BK606.out 4
            have hfz44_5 := blk_frozen BK606.out 5
            have hfz44_6 := blk_frozen BK606.out 6
            go_wp2
            refine bodyPost_ret (results_ct rfl _ _ gb606 26 #[.int .u8 a0_0, .int .i64 a0_1, .int .i64 a0_2, .int .i64 a0_3, .int .i64 a0_4, .int .i64 x606005_2, .slice Ao41 x7_2.length co41] (0, 0) _ rfl (by (with_reducible repeat (first | refine blk_drewN ?_ _ | refine blk_drew ?_ | refine blk_alloc ?_ _)); refine blk_put (cs := #[.int .u8 a0_0, .int .i64 a0_1, .int .i64 a0_2, .int .i64 a0_3, .int .i64 a0_4, .int .i64 x606005_2, .slice none 0 0]) ?_ 6 _ rfl; (with_reducible repeat (first | refine blk_drewN ?_ _ | refine blk_drew ?_ | refine blk_alloc ?_ _)); refine blk_put (cs := #[.int .u8 a0_0, .int .i64 a0_1, .int .i64 a0_2, .int .i64 a0_3, .int .i64 a0_4, .int .i64 0, .slice none 0 0]) ?_ 5 _ rfl; (with_reducible repeat (first | refine blk_drewN ?_ _ | refine blk_drew ?_ | refine blk_alloc ?_ _)); refine blk_put (cs := #[.int .u8 a0_0, .int .i64 a0_1, .int .i64 a0_2, .int .i64 a0_3, .int .i64 0, .int .i64 0, .slice none 0 0]) ?_ 4 _ rfl; (with_reducible repeat (first | refine blk_drewN ?_ _ | refine blk_drew ?_ | refine blk_alloc ?_ _)); refine blk_put (cs := #[.int .u8 a0_0, .int .i64 a0_1, .int .i64 a0_2, .int .i64 0, .int .i64 0, .int .i64 0, .slice none 0 0]) ?_ 3 _ rfl; (with_reducible repeat (first | refine blk_drewN ?_ _ | refine blk_drew ?_ | refine blk_alloc ?_ _)); refine blk_put (cs := #[.int .u8 a0_0, .int .i64 a0_1, .int .i64 0, .int .i64 0, .int .i64 0, .int .i64 0, .slice none 0 0]) ?_ 2 _ rfl; (with_reducible repeat (first | refine blk_drewN ?_ _ | refine blk_drew ?_ | refine blk_alloc ?_ _)); refine blk_put (cs := #[.int .u8 a0_0, .int .i64 0, .int .i64 0, .int .i64 0, .int .i64 0, .int .i64 0, .slice none 0 0]) ?_ 1 _ rfl; (with_reducible repeat (first | refine blk_drewN ?_ _ | refine blk_drew ?_ | refine blk_alloc ?_ _)); refine blk_put (cs := #[.int .u8 0, .int .i64 0, .int .i64 0, .int .i64 0, .int .i64 0, .int .i64 0, .slice none 0 0]) ?_ 0 _ rfl; (with_reducible repeat (first | refine blk_drewN ?_ _ | refine blk_drew ?_ | refine blk_alloc ?_ _)); refine blk_far ?_ NB606_605.out _; (with_reducible repeat (first | refine blk_drewN ?_ _ | refine blk_drew ?_ | refine blk_alloc ?_ _)); exact BK606.out) Try.underlying26 rfl (by kernel_rfl)) rfl ?_
            exact ⟨_, by first | rfl | (simp [errW_none, errW_some] <;> rfl) | (simp [*, errW_none, errW_some] <;> rfl), by (with_reducible repeat (first | apply Kd.R_alloc | apply Kd.R_drewN | apply Kd.R_drew)); exact Kd.R_mono (Kd.R_far (p := ⟨gb606, 6, none⟩) (Kd.R_far (p := ⟨gb606, 5, none⟩) (Kd.R_far (p := ⟨gb606, 4, none⟩) (Kd.R_far (p := ⟨gb606, 3, none⟩) (Kd.R_far (p := ⟨gb606, 2, none⟩) (Kd.R_far (p := ⟨gb606, 1, none⟩) (Kd.R_far (p := ⟨gb606, 0, none⟩) (Kd.R_far (p := ⟨gb605, 6, none⟩) (Kd.R_mono (Kd.R_mono HO_7.out (fun k_ hk => (⟨hk, hk.1⟩ : _ ∧ k_ ≠ gb605))) (fun k_ hk => (⟨hk, hk.1.2⟩ : _ ∧ k_ ≠ gb606))) (fun _ hk => hk.1.2) (.slice Ao41 x7_2.length co41)) (fun _ hk => hk.2) (.int .u8 a0_0)) (fun _ hk => hk.2) (.int .i64 a0_1)) (fun _ hk => hk.2) (.int .i64 a0_2)) (fun _ hk => hk.2) (.int .i64 a0_3)) (fun _ hk => hk.2) (.int .i64 a0_4)) (fun _ hk => hk.2) (.int .i64 x606005_2)) (fun _ hk => hk.2) (.slice Ao41 x7_2.length co41)) (fun _ hk => trivial), by repeat (first | (with_reducible first | exact HB.out | apply below_alloc | apply pw_below_drewN | apply below_drew1 | refine below_set ?_ GE605.out | refine below_set ?_ GE606.out) | exact HB.out)⟩

end Go.Proofs.Ytfdmfgaiblfbhaa.P
