-- Written by a program for this claim; Lean checks it.
import Derived.Test.YtfdmfgaiblfbhaaPK
namespace Go.Proofs.Ytfdmfgaiblfbhaa.P
open Go.RowKit Go.Proofs.YtfdmfgaiblfbhaaW.PrintWords Go.Proofs.YtfdmfgaiblfbhaaW.PrintLast Go.Proofs.YtfdmfgaiblfbhaaW.PrintMore
attribute [local go_sem] max2_int min2_int max_two min_two max_three min_three max_four min_four   -- for this text's walks alone
set_option linter.unusedVariables false
set_option linter.unusedSimpArgs false

/-! ### sashref05_All: function 79 -/
mutual
def sashref05_All.l0 : Nat → List (S26) → Int → Int → Int → Int → Int → Int → Int → Int → List (S26) → Option ((List (S26)))
  | 0, _, _, _, _, _, _, _, _, _, _ => none
  | k + 1, x3, x9, x10, x132000, x132001, x132002, x132003, x132004, x132005, x132006 => if x10 < x9 then (if 0 ≤ x10 then (if x10 < (x132006.length : Int) then ((sashref05_All.f k ((rd_T26 x132006 x10).f0) ((rd_T26 x132006 x10).f1.f0) ((rd_T26 x132006 x10).f1.f1) ((rd_T26 x132006 x10).f1.f2) ((rd_T26 x132006 x10).f1.f3) ((rd_T26 x132006 x10).f2) ((rd_T26 x132006 x10).f3)).bind fun t136 => (if x3.length + t136.length < 1954687338268 then (sashref05_All.l0 k (x3 ++ t136) x9 (wrap64 (x10 + 1)) x132000 x132001 x132002 x132003 x132004 x132005 x132006) else (none))) else (none)) else (none)) else (some x3)
def sashref05_All.f : Nat → Int → Int → Int → Int → Int → Int → List (S26) → Option ((List (S26)))
  | 0, _, _, _, _, _, _, _ => none
  | k + 1, a0_0, a0_1, a0_2, a0_3, a0_4, a0_5, l0_6 => sashref05_All.l0 k (([(⟨a0_0, (⟨a0_1, a0_2, a0_3, a0_4⟩ : S23), a0_5, l0_6⟩ : S26)] : List (S26))) (l0_6.length : Int) 0 a0_0 a0_1 a0_2 a0_3 a0_4 a0_5 l0_6
end
theorem sashref05_All.mono_l : ∀ k, (∀ y0 y1 y2 y3 y4 y5 y6, LeO (sashref05_All.f k y0 y1 y2 y3 y4 y5 y6) (sashref05_All.f (k + 1) y0 y1 y2 y3 y4 y5 y6)) ∧ (∀ y0 y1 y2 y3 y4 y5 y6 y7 y8 y9, LeO (sashref05_All.l0 k y0 y1 y2 y3 y4 y5 y6 y7 y8 y9) (sashref05_All.l0 (k + 1) y0 y1 y2 y3 y4 y5 y6 y7 y8 y9))
  | 0 => ⟨fun _ _ _ _ _ _ _ r h => by simp [sashref05_All.f] at h, fun _ _ _ _ _ _ _ _ _ _ r h => by simp [sashref05_All.l0] at h⟩
  | k + 1 => by
    obtain ⟨ih0, ih1⟩ := sashref05_All.mono_l k
    refine ⟨?_, ?_⟩
    · intro y0 y1 y2 y3 y4 y5 y6
      unfold sashref05_All.f
      repeat' first
      | (with_reducible exact ih0 _ _ _ _ _ _ _)
      | (with_reducible exact ih1 _ _ _ _ _ _ _ _ _ _)
      | (with_reducible exact LeO.refl _)
      | (with_reducible exact LeO.none _)
      | (with_reducible refine LeO.ite ?_ ?_)
      | (with_reducible refine LeO.bind ?_ (fun _ => ?_))
      | exact ih0 _ _ _ _ _ _ _
      | exact ih1 _ _ _ _ _ _ _ _ _ _
      | exact LeO.none _
      | refine LeO.ite ?_ ?_
      | refine LeO.bind ?_ (fun _ => ?_)
    · intro y0 y1 y2 y3 y4 y5 y6 y7 y8 y9
      unfold sashref05_All.l0
      repeat' first
      | (with_reducible exact ih0 _ _ _ _ _ _ _)
      | (with_reducible exact ih1 _ _ _ _ _ _ _ _ _ _)
      | (with_reducible exact LeO.refl _)
      | (with_reducible exact LeO.none _)
      | (with_reducible refine LeO.ite ?_ ?_)
      | (with_reducible refine LeO.bind ?_ (fun _ => ?_))
      | exact ih0 _ _ _ _ _ _ _
      | exact ih1 _ _ _ _ _ _ _ _ _ _
      | exact LeO.none _
      | refine LeO.ite ?_ ?_
      | refine LeO.bind ?_ (fun _ => ?_)
theorem sashref05_All.mono : ∀ a0 a1 a2 a3 a4 a5 a6 k, LeO (sashref05_All.f k a0 a1 a2 a3 a4 a5 a6) (sashref05_All.f (k + 1) a0 a1 a2 a3 a4 a5 a6) := by
  intro a0 a1 a2 a3 a4 a5 a6 k
  obtain ⟨ih0, ih1⟩ := sashref05_All.mono_l k
  exact ih0 a0 a1 a2 a3 a4 a5 a6
set_option maxHeartbeats 8000000 in
set_option maxRecDepth 100000 in
theorem sashref05_All.calls (k : Nat) : ∀ (a0_0 : Int) (a0_1 : Int) (a0_2 : Int) (a0_3 : Int) (a0_4 : Int) (a0_5 : Int) (P0_6_ : Nat → Prop) (A0_6 : Option Addr) (c0_6 : Nat) (l0_6 : List (S26)) (r : List (S26)) (w : World) (hs0_6 : Kd.V k26 26 w w.heap.size (fun k_ => P0_6_ k_) (.slice A0_6 l0_6.length c0_6) l0_6) (h : sashref05_All.f k a0_0 a0_1 a0_2 a0_3 a0_4 a0_5 l0_6 = some r),
    Calls Try.prog 79 #[.agg #[.int .u8 a0_0, .int .i64 a0_1, .int .i64 a0_2, .int .i64 a0_3, .int .i64 a0_4, .int .i64 a0_5, .slice A0_6 l0_6.length c0_6]] w fun e w' => ∃ v0_ : Value, e = .returned (v0_) ∧ Kd.N k26 26 w' w.heap.size (fun k_ => (P0_6_ k_ ∨ w.heap.size ≤ k_)) v0_ r ∧ Below w.heap.size w w' := by
  induction k using Nat.strongRecOn with
  | _ k ih =>
  intro a0_0 a0_1 a0_2 a0_3 a0_4 a0_5 P0_6_ A0_6 c0_6 l0_6 r w hs0_6 h
  cases k with
  | zero => exact absurd h (by simp [sashref05_All.f])
  | succ k =>
  simp only [sashref05_All.f] at h
  have hu26 := Try.underlying26
  have HO0_6 := Aside0.mk (show Kd.V k26 26 w w.heap.size (fun k_ => (P0_6_ k_ ∨ w.heap.size ≤ k_)) (.slice A0_6 l0_6.length c0_6) l0_6 from Kd.V_mono hs0_6 (fun k_ hk => .inl hk))
  have HB := Aside0.mk (Below.refl w.heap.size w)
  have H : (sashref05_All.l0 k (([(⟨a0_0, (⟨a0_1, a0_2, a0_3, a0_4⟩ : S23), a0_5, l0_6⟩ : S26)] : List (S26))) (l0_6.length : Int) 0 a0_0 a0_1 a0_2 a0_3 a0_4 a0_5 l0_6) = some r := h
  clear h
  obtain ⟨y132, hy132⟩ : ∃ y_ : List (S26), y_ = (([(⟨a0_0, (⟨a0_1, a0_2, a0_3, a0_4⟩ : S23), a0_5, l0_6⟩ : S26)] : List (S26))) := ⟨_, rfl⟩
  replace H : (sashref05_All.l0 k y132 (l0_6.length : Int) 0 a0_0 a0_1 a0_2 a0_3 a0_4 a0_5 l0_6) = some r := by first | (rw [hy132]; with_reducible exact H) | (have H2_ := (Option.bind_some _ _).symm.trans H; rw [hy132]; with_reducible exact H2_) | (have H2_ := (Option.bind_some _ _).symm.trans H; with_reducible exact H2_) | with_reducible exact H | (rw [hy132]; exact H) | exact H
  have Ny132 := Aside0.mk hy132
  clear hy132
  have H' := Aside0.mk H
  clear H
  go_enter Try.func79, Try.ntmps79
  go_wp2_with (first | ((with_reducible refine gate_dst (N := 1) rfl ?_); refine box_event ?hg (N := 1) ?hd (cs := #[.int .u8 a0_0, .int .i64 a0_1, .int .i64 a0_2, .int .i64 a0_3, .int .i64 a0_4, .int .i64 a0_5, .slice A0_6 l0_6.length c0_6]) (t := 26) ?hr ?_; (case hd => rfl); (case hg => rfl); (case hr => first | (go_simp; done) | (go_simp; rfl)); intro gb131 hg w2 hbox hb; have n0_ := Aside0.mk (Kd.V_below (Kd.V_elderB (by (with_reducible repeat (first | apply Kd.V_alloc | apply Kd.V_drewN | apply Kd.V_drew)); exact HO0_6.out) gb131 (Nat.le_of_eq hg.symm)) hb); have n1_ := Aside0.mk (below_step (by repeat (first | (with_reducible first | exact HB.out | apply below_alloc | apply pw_below_drewN | apply below_drew1) | exact HB.out)) hb); have n2_ := Aside0.mk (hbox); have n3_ := Aside0.mk ((by rw [hg]; exact (below_size (by repeat (first | (with_reducible first | exact HB.out | apply below_alloc | apply pw_below_drewN | apply below_drew1) | exact HB.out))) : w.heap.size ≤ gb131)); have n4_ := Aside0.mk ((by rw [hg]; exact (below_size (by repeat (first | (with_reducible first | exact HB.out | apply below_alloc | apply pw_below_drewN | apply below_drew1) | exact HB.out))) : w.heap.size ≤ gb131)); clear HO0_6; clear HB; have HO0_6 := n0_; have HB := n1_; have BK131 := n2_; have GW131 := n3_; have GE131 := n4_; clear n0_ n1_ n2_ n3_ n4_; clear hb hbox hg; have hcz3_0 : w2.cell? ⟨gb131, 0, none⟩ = some (.int .u8 a0_0) := (blk_cell BK131.out 0).trans rfl; have hcz3_1 : w2.cell? ⟨gb131, 1, none⟩ = some (.int .i64 a0_1) := (blk_cell BK131.out 1).trans rfl; have hcz3_2 : w2.cell? ⟨gb131, 2, none⟩ = some (.int .i64 a0_2) := (blk_cell BK131.out 2).trans rfl; have hcz3_3 : w2.cell? ⟨gb131, 3, none⟩ = some (.int .i64 a0_3) := (blk_cell BK131.out 3).trans rfl; have hcz3_4 : w2.cell? ⟨gb131, 4, none⟩ = some (.int .i64 a0_4) := (blk_cell BK131.out 4).trans rfl; have hcz3_5 : w2.cell? ⟨gb131, 5, none⟩ = some (.int .i64 a0_5) := (blk_cell BK131.out 5).trans rfl; have hcz3_6 : w2.cell? ⟨gb131, 6, none⟩ = some (.slice A0_6 l0_6.length c0_6) := (blk_cell BK131.out 6).trans rfl; have hfz3_0 := blk_frozen BK131.out 0; have hfz3_1 := blk_frozen BK131.out 1; have hfz3_2 := blk_frozen BK131.out 2; have hfz3_3 := blk_frozen BK131.out 3; have hfz3_4 := blk_frozen BK131.out 4; have hfz3_5 := blk_frozen BK131.out 5; have hfz3_6 := blk_frozen BK131.out 6) | ((with_reducible refine gate_dst (N := 6) rfl ?_); refine Kd.N_lit k26 _ 26 ?hg (N' := 6) ?hd (xs := ([(⟨a0_0, (⟨a0_1, a0_2, a0_3, a0_4⟩ : S23), a0_5, l0_6⟩ : S26)] : List (S26))) (inner := [.int .u8 a0_0, .int .i64 a0_1, .int .i64 a0_2, .int .i64 a0_3, .int .i64 a0_4, .int .i64 a0_5, .slice A0_6 l0_6.length c0_6]) (ok := (fun k_ => (P0_6_ k_ ∨ w.heap.size ≤ k_) ∧ k_ ≠ gb131)) (okp := (fun k_ => (P0_6_ k_ ∨ w.heap.size ≤ k_) ∧ k_ ≠ gb131)) ?hr ?hp (fun _ hk => hk) ((show ∀ k_, w2.heap.size ≤ k_ → (fun k_ => (P0_6_ k_ ∨ w.heap.size ≤ k_) ∧ k_ ≠ gb131) k_ from fun k_ hk => ⟨(.inr (Nat.le_trans (below_size (by repeat (first | (with_reducible first | exact HB.out | apply below_alloc | apply pw_below_drewN | apply below_drew1 | refine below_set ?_ GE131.out) | exact HB.out))) hk)), Kd.freshB (g := gb131) (o := .cells #[.int .u8 a0_0, .int .i64 a0_1, .int .i64 a0_2, .int .i64 a0_3, .int .i64 a0_4, .int .i64 a0_5, .slice A0_6 l0_6.length c0_6] 26 (0, 0)) (by (with_reducible repeat (first | refine blk_drewN ?_ _ | refine blk_drew ?_ | refine blk_alloc ?_ _)); exact BK131.out) k_ hk⟩) _ (Nat.le_refl _)) (Below.refl _ _) (Nat.le_refl _) (by simp) ?_; (case hd => rfl); (case hg => rfl); (case hr => first | (go_simp; done) | (go_simp; rfl)); (case hp => exact (Reps.c7 (show Kd.FK k26 _ _ (⟨a0_0, (⟨a0_1, a0_2, a0_3, a0_4⟩ : S23), a0_5, l0_6⟩ : S26) [.int .u8 a0_0, .int .i64 a0_1, .int .i64 a0_2, .int .i64 a0_3, .int .i64 a0_4, .int .i64 a0_5, .slice A0_6 l0_6.length c0_6] from (k26_mkF _ _ (⟨a0_0, (⟨a0_1, a0_2, a0_3, a0_4⟩ : S23), a0_5, l0_6⟩ : S26) (Kd.V_reads' (Kd.V_mono (ok' := (fun k_ => (P0_6_ k_ ∨ w.heap.size ≤ k_) ∧ k_ ≠ gb131)) (HO0_6.out) (fun k_ hk => ⟨hk.1, hk.2⟩))).2.1 (Kd.V_F (Kd.V_mono (ok' := (fun k_ => (P0_6_ k_ ∨ w.heap.size ≤ k_) ∧ k_ ≠ gb131)) (HO0_6.out) (fun k_ hk => ⟨hk.1, hk.2⟩))))) (Reps.none _ _))); intro v133 w4 ho5 hb hg_ hnew_; clear hg_ hnew_; (first | rw [← Ny132.out] at ho5 | (simp only [Int.reduceToNat] at ho5; rw [← Ny132.out] at ho5)); have n0_ := Aside0.mk (Kd.V_elder' (by (with_reducible repeat (first | apply Kd.V_alloc | apply Kd.V_drewN | apply Kd.V_drew)); exact HO0_6.out) (Kd.N_base ho5) hb); have n1_ := Aside0.mk (Kd.N_lower ho5 (below_size (by repeat (first | (with_reducible first | exact HB.out | apply below_alloc | apply pw_below_drewN | apply below_drew1 | refine below_set ?_ GE131.out) | exact HB.out)))); have n2_ := Aside0.mk (blk_below (g := gb131) (o := .cells #[.int .u8 a0_0, .int .i64 a0_1, .int .i64 a0_2, .int .i64 a0_3, .int .i64 a0_4, .int .i64 a0_5, .slice A0_6 l0_6.length c0_6] 26 (0, 0)) (by (with_reducible repeat (first | refine blk_drewN ?_ _ | refine blk_drew ?_ | refine blk_alloc ?_ _)); exact BK131.out) hb); have n3_ := Aside0.mk (below_step (by repeat (first | (with_reducible first | exact HB.out | apply below_alloc | apply pw_below_drewN | apply below_drew1 | refine below_set ?_ GE131.out) | exact HB.out)) hb); clear HO0_6; clear BK131; clear HB; have HO0_6 := n0_; have HO134 := n1_; have BK131 := n2_; have HB := n3_; clear n0_ n1_ n2_ n3_; clear hb ho5; have hcz6_0 : w4.cell? ⟨gb131, 0, none⟩ = some (.int .u8 a0_0) := (blk_cell BK131.out 0).trans rfl; have hcz6_1 : w4.cell? ⟨gb131, 1, none⟩ = some (.int .i64 a0_1) := (blk_cell BK131.out 1).trans rfl; have hcz6_2 : w4.cell? ⟨gb131, 2, none⟩ = some (.int .i64 a0_2) := (blk_cell BK131.out 2).trans rfl; have hcz6_3 : w4.cell? ⟨gb131, 3, none⟩ = some (.int .i64 a0_3) := (blk_cell BK131.out 3).trans rfl; have hcz6_4 : w4.cell? ⟨gb131, 4, none⟩ = some (.int .i64 a0_4) := (blk_cell BK131.out 4).trans rfl; have hcz6_5 : w4.cell? ⟨gb131, 5, none⟩ = some (.int .i64 a0_5) := (blk_cell BK131.out 5).trans rfl; have hcz6_6 : w4.cell? ⟨gb131, 6, none⟩ = some (.slice A0_6 l0_6.length c0_6) := (blk_cell BK131.out 6).trans rfl; have hfz6_0 := blk_frozen BK131.out 0; have hfz6_1 := blk_frozen BK131.out 1; have hfz6_2 := blk_frozen BK131.out 2; have hfz6_3 := blk_frozen BK131.out 3; have hfz6_4 := blk_frozen BK131.out 4; have hfz6_5 := blk_frozen BK131.out 5; have hfz6_6 := blk_frozen BK131.out 6))
  go_loopg [3, 10] k (fun kq v3 v10 w' => ∃ (x3_1 : List (S26)) (x10_1 : Int), v10 = .int .i64 x10_1 ∧ Aside0 (sashref05_All.l0 kq x3_1 (l0_6.length : Int) x10_1 a0_0 a0_1 a0_2 a0_3 a0_4 a0_5 l0_6 = some r) ∧ Aside0 (kq ≤ k) ∧ Aside0 (Kd.N k26 26 w' w.heap.size (fun k_ => (P0_6_ k_ ∨ w.heap.size ≤ k_) ∧ k_ ≠ gb131) v3 x3_1) ∧ Aside0 (Kd.V k26 26 w' w.heap.size (fun k_ => (P0_6_ k_ ∨ w.heap.size ≤ k_) ∧ some k_ ≠ (v3 : Value).ownBlock ∧ k_ ≠ gb131) (.slice A0_6 l0_6.length c0_6) l0_6) ∧ Aside0 (w'.heap[gb131]? = some (.cells #[.int .u8 a0_0, .int .i64 a0_1, .int .i64 a0_2, .int .i64 a0_3, .int .i64 a0_4, .int .i64 a0_5, (.slice A0_6 l0_6.length c0_6)] 26 (0, 0))) ∧ Aside0 (Below w.heap.size w w'))
  case atStart => exact ⟨(y132), (0), (by first | rfl | (simp; done) | (simp [*]; done)), H', ⟨Nat.le_refl _⟩, ⟨by (with_reducible repeat (first | apply Kd.N_alloc | apply Kd.N_drewN | apply Kd.N_drew)); exact HO134.out⟩, ⟨by (with_reducible repeat (first | apply Kd.V_alloc | apply Kd.V_drewN | apply Kd.V_drew)); exact Kd.V_mono HO0_6.out (fun _ hk => ⟨hk.1.1, ⟨hk.2, hk.1.2⟩⟩)⟩, ⟨by (with_reducible repeat (first | refine blk_drewN ?_ _ | refine blk_drew ?_ | refine blk_alloc ?_ _)); exact BK131.out⟩, ⟨by repeat (first | (with_reducible first | exact HB.out | apply below_alloc | apply pw_below_drewN | apply below_drew1 | refine below_set ?_ GE131.out) | exact HB.out)⟩⟩
  case round =>
    clear H'
    try clear p2
    try clear hcz3_0
    try clear hcz3_1
    try clear hcz3_2
    try clear hcz3_3
    try clear hcz3_4
    try clear hcz3_5
    try clear hcz3_6
    try clear hcz6_0
    try clear hcz6_1
    try clear hcz6_2
    try clear hcz6_3
    try clear hcz6_4
    try clear hcz6_5
    try clear hcz6_6
    try clear hfz3_0
    try clear hfz3_1
    try clear hfz3_2
    try clear hfz3_3
    try clear hfz3_4
    try clear hfz3_5
    try clear hfz3_6
    try clear hfz6_0
    try clear hfz6_1
    try clear hfz6_2
    try clear hfz6_3
    try clear hfz6_4
    try clear hfz6_5
    try clear hfz6_6
    obtain ⟨x3_1, x10_1, rfl, HA, HK1, HO_3, HO_132006, BK131, HB⟩ := hrel
    cases gk with
    | zero => exact absurd HA.out (by simp [sashref05_All.l0])
    | succ k1 =>
      have H := HA.out
      clear HA
      simp only [sashref05_All.l0] at H
      by_cases c7 : x10_1 < (l0_6.length : Int)
      · rw [if_pos c7] at H
        have c7b0 : decide (x10_1 < (l0_6.length : Int)) = true := decide_eq_true c7
        clear c7
        by_cases c8 : 0 ≤ x10_1
        · rw [if_pos c8] at H
          have c8b0 : decide (0 ≤ x10_1) = true := decide_eq_true c8
          clear c8
          by_cases c9 : x10_1 < (l0_6.length : Int)
          · rw [if_pos c9] at H
            have c9b0 : decide (x10_1 < (l0_6.length : Int)) = true := decide_eq_true c9
            clear c9
            replace H := Option.bind_eq_some_iff.mp H
            obtain ⟨t136, A100, H⟩ := H
            replace H : (if x3_1.length + t136.length < 1954687338268 then (sashref05_All.l0 k1 (x3_1 ++ t136) (l0_6.length : Int) (wrap64 (x10_1 + 1)) a0_0 a0_1 a0_2 a0_3 a0_4 a0_5 l0_6) else (none)) = some r := H
            have A10 := Aside0.mk A100
            clear A100
            by_cases c11 : x3_1.length + t136.length < 1954687338268
            · rw [if_pos c11] at H
              have LMc11 := Aside0.mk c11
              clear c11
              obtain ⟨y139, hy139⟩ : ∃ y_ : List (S26), y_ = (x3_1 ++ t136) := ⟨_, rfl⟩
              replace H : (sashref05_All.l0 k1 y139 (l0_6.length : Int) (wrap64 (x10_1 + 1)) a0_0 a0_1 a0_2 a0_3 a0_4 a0_5 l0_6) = some r := by first | (rw [hy139]; with_reducible exact H) | (have H2_ := (Option.bind_some _ _).symm.trans H; rw [hy139]; with_reducible exact H2_) | (have H2_ := (Option.bind_some _ _).symm.trans H; with_reducible exact H2_) | with_reducible exact H | (rw [hy139]; exact H) | exact H
              have Ny139 := Aside0.mk hy139
              clear hy139
              have H' := Aside0.mk H
              clear H
              have hcz12_0 : wr.cell? ⟨gb131, 0, none⟩ = some (.int .u8 a0_0) := (blk_cell BK131.out 0).trans rfl
              have hcz12_1 : wr.cell? ⟨gb131, 1, none⟩ = some (.int .i64 a0_1) := (blk_cell BK131.out 1).trans rfl
              have hcz12_2 : wr.cell? ⟨gb131, 2, none⟩ = some (.int .i64 a0_2) := (blk_cell BK131.out 2).trans rfl
              have hcz12_3 : wr.cell? ⟨gb131, 3, none⟩ = some (.int .i64 a0_3) := (blk_cell BK131.out 3).trans rfl
              have hcz12_4 : wr.cell? ⟨gb131, 4, none⟩ = some (.int .i64 a0_4) := (blk_cell BK131.out 4).trans rfl
              have hcz12_5 : wr.cell? ⟨gb131, 5, none⟩ = some (.int .i64 a0_5) := (blk_cell BK131.out 5).trans rfl
              have hcz12_6 : wr.cell? ⟨gb131, 6, none⟩ = some (.slice A0_6 l0_6.length c0_6) := (blk_cell BK131.out 6).trans rfl
              have hfz12_0 := blk_frozen BK131.out 0
              have hfz12_1 := blk_frozen BK131.out 1
              have hfz12_2 := blk_frozen BK131.out 2
              have hfz12_3 := blk_frozen BK131.out 3
              have hfz12_4 := blk_frozen BK131.out 4
              have hfz12_5 := blk_frozen BK131.out 5
              have hfz12_6 := blk_frozen BK131.out 6
              have p135 : 0 ≤ (x10_1 : Int) := of_decide_eq_true (by first | (with_reducible assumption) | assumption)
              have q135 : x10_1 < (l0_6.length : Int) := of_decide_eq_true (by first | (with_reducible assumption) | assumption)
              obtain ⟨ad135, A135_6, c135_6, e135, hx135_0, hx135_1, hx135_2, hx135_3, hx135_4, hx135_5, hx135_6, hl135_6, hi135_6⟩ := at_T26 (Kd.V_reads' HO_132006.out).2.2 x10_1 p135 q135
              cases e135
              obtain ⟨ce135, hce135, hMe135, hcc135⟩ := Kd.V_get HO_132006.out z26 x10_1 p135 (by first | exact q135 | exact of_decide_eq_true (by first | (with_reducible assumption) | assumption) | (have e_ := (Kd.V_reads' HO_132006.out).1; omega))
              obtain ⟨ua135_6, uc135_6, rfl, ul135_6, ge135_6⟩ := k26_openF hMe135
              have hv135_6 := hcc135 6 _ rfl
              rw [add_field _ _ 6 (by omega)] at hv135_6
              replace hv135_6 := Option.some.inj (hv135_6.symm.trans hx135_6)
              injection hv135_6 with hva_ hvn_ hvc_
              rw [hva_] at ge135_6
              rw [hvc_] at ul135_6
              have HL135_6 := Aside0.mk (show Kd.V k26 26 _ w.heap.size _ _ ((rd_T26 l0_6 x10_1).f3) from Kd.V_mk ul135_6 ge135_6)
              clear hva_ hvn_ hvc_ ge135_6 ul135_6
              clear hcc135 hce135
              have HR135_6 := Aside0.mk hi135_6
              have HC135_6 := Aside0.mk hl135_6
              clear hi135_6 hl135_6
              replace p135 := eq_true p135
              replace q135 := eq_true q135
              go_wp2_with (first | ((with_reducible refine gate_callee (f := 79) rfl ?_); refine goesL_ (some 19) rfl rfl Try.func79 (by kernel_rfl) rfl #[.agg #[.int .u8 ((rd_T26 l0_6 x10_1).f0), .int .i64 ((rd_T26 l0_6 x10_1).f1.f0), .int .i64 ((rd_T26 l0_6 x10_1).f1.f1), .int .i64 ((rd_T26 l0_6 x10_1).f1.f2), .int .i64 ((rd_T26 l0_6 x10_1).f1.f3), .int .i64 ((rd_T26 l0_6 x10_1).f2), .slice A135_6 ((rd_T26 l0_6 x10_1).f3).length c135_6]] rfl (by (try simp only [List.map_toArray, List.map_cons, List.map_nil]); first | done | rfl | (simp only [List.length_drop, List.length_take]; rfl)) ?_; (with_reducible refine (ih k1 (by have := HK1.out; omega) ((rd_T26 l0_6 x10_1).f0) ((rd_T26 l0_6 x10_1).f1.f0) ((rd_T26 l0_6 x10_1).f1.f1) ((rd_T26 l0_6 x10_1).f1.f2) ((rd_T26 l0_6 x10_1).f1.f3) ((rd_T26 l0_6 x10_1).f2) (fun k_ => ((P0_6_ k_ ∨ w.heap.size ≤ k_) ∧ (some k_ ≠ (u3 : Value).ownBlock ∧ k_ ≠ gb131))) _ _ ((rd_T26 l0_6 x10_1).f3) t136 _ ?side1 A10.out).mono ?_); (case side1 => exact HL135_6.out); rintro e w13 ⟨v137, rfl, ho0, hb⟩; refine ⟨_, rfl, ?_⟩; have n0_ := Aside0.mk (Kd.N_elder' (by (with_reducible repeat (first | apply Kd.N_alloc | apply Kd.N_drewN | apply Kd.N_drew)); exact HO_3.out) (Kd.N_base ho0) hb); have n1_ := Aside0.mk (Kd.V_elder' (by (with_reducible repeat (first | apply Kd.V_alloc | apply Kd.V_drewN | apply Kd.V_drew)); exact HO_132006.out) (Kd.N_base ho0) hb); have n2_ := Aside0.mk (Kd.V_elder' (by (with_reducible repeat (first | apply Kd.V_alloc | apply Kd.V_drewN | apply Kd.V_drew)); exact HL135_6.out) (Kd.N_base ho0) hb); have n3_ := Aside0.mk (Kd.N_lower (Kd.N_mono (ok' := fun k_ => (P0_6_ k_ ∨ w.heap.size ≤ k_) ∧ some k_ ≠ (u3 : Value).ownBlock ∧ k_ ≠ gb131) ho0 (fun k_ hk_ => ⟨Or.elim hk_ (fun hs_ => hs_.1) (fun hn_ => (.inr (Nat.le_trans (below_size (by repeat (first | (with_reducible first | exact HB.out | apply below_alloc | apply pw_below_drewN | apply below_drew1 | refine below_set ?_ GE131.out) | exact HB.out))) hn_))), Or.elim hk_ (fun hs_ => hs_.2.1) (fun hn_ => (Kd.fresh' (Kd.N_lt (by (with_reducible repeat (first | apply Kd.N_alloc | apply Kd.N_drewN | apply Kd.N_drew)); exact HO_3.out)) k_ hn_)), Or.elim hk_ (fun hs_ => hs_.2.2) (fun hn_ => (Kd.freshB (g := gb131) (o := .cells #[.int .u8 a0_0, .int .i64 a0_1, .int .i64 a0_2, .int .i64 a0_3, .int .i64 a0_4, .int .i64 a0_5, .slice (some ad135) l0_6.length c0_6] 26 (0, 0)) (by (with_reducible repeat (first | refine blk_drewN ?_ _ | refine blk_drew ?_ | refine blk_alloc ?_ _)); exact BK131.out) k_ hn_))⟩)) (below_size (by repeat (first | (with_reducible first | exact HB.out | apply below_alloc | apply pw_below_drewN | apply below_drew1 | refine below_set ?_ GE131.out) | exact HB.out)))); have n4_ := Aside0.mk (blk_below (g := gb131) (o := .cells #[.int .u8 a0_0, .int .i64 a0_1, .int .i64 a0_2, .int .i64 a0_3, .int .i64 a0_4, .int .i64 a0_5, .slice (some ad135) l0_6.length c0_6] 26 (0, 0)) (by (with_reducible repeat (first | refine blk_drewN ?_ _ | refine blk_drew ?_ | refine blk_alloc ?_ _)); exact BK131.out) hb); have n5_ := Aside0.mk (Kd.C_below (by repeat (first | (with_reducible exact HR135_6.out) | (with_reducible refine Kd.C_alloc ?_ _) | (with_reducible refine Kd.C_drewN ?_ _) | (with_reducible refine Kd.C_drew ?_) | exact HR135_6.out)) hb); have n6_ := Aside0.mk (below_step (by repeat (first | (with_reducible first | exact HB.out | apply below_alloc | apply pw_below_drewN | apply below_drew1 | refine below_set ?_ GE131.out) | exact HB.out)) hb); clear HO_3; clear HO_132006; clear HL135_6; clear BK131; clear HR135_6; clear HB; have HO_3 := n0_; have HO_132006 := n1_; have HL135_6 := n2_; have HO138 := n3_; have BK131 := n4_; have HR135_6 := n5_; have HB := n6_; clear n0_ n1_ n2_ n3_ n4_ n5_ n6_; (try clear hb); (try clear hb2); (try clear hk); (try clear hi); (try clear ho0); obtain ⟨Ao15, co15, eo15⟩ := Kd.N_slice HO138.out; subst eo15) | ((with_reducible refine gate_builtin (b := .append) (xs := #[.tmp 13, .tmp 19]) rfl ?_); at_builtin; refine Kd.N_append_rows k26 (w0 := w) w.heap.size rfl (.tmp 13) (.tmp 19) 24 26 (.agg #[(.int .u8 0), (.int .i64 0), (.int .i64 0), (.int .i64 0), (.int .i64 0), (.int .i64 0), (.slice none 0 0)]) 72 rfl Try.underlying24 info26 rfl (by decide) (by omega) u3 x3_1 t136 _ _ _ (fun k_ => (P0_6_ k_ ∨ w.heap.size ≤ k_) ∧ k_ ≠ gb131) (fun k_ => ((fun k_ => (P0_6_ k_ ∨ w.heap.size ≤ k_) ∧ k_ ≠ gb131)) k_ ∧ some k_ ≠ (u3 : Value).ownBlock) rfl rfl ?aO ?aR (fun _ hk => hk) ?aF ?aB ?aS ?aL ?_; (case aR => exact (by skip; exact Kd.N_F (Kd.N_mono (ok' := (fun k_ => ((fun k_ => (P0_6_ k_ ∨ w.heap.size ≤ k_) ∧ k_ ≠ gb131)) k_ ∧ some k_ ≠ (u3 : Value).ownBlock)) (HO138.out) (fun k_ hk => ⟨⟨hk.1, hk.2.2⟩, hk.2.1⟩)))); (case aB => exact (by repeat (first | (with_reducible first | exact HB.out | apply below_alloc | apply pw_below_drewN | apply below_drew1 | refine below_set ?_ GE131.out) | exact HB.out))); (case aF => exact (fun k_ hk => ⟨(.inr (Nat.le_trans (below_size (by repeat (first | (with_reducible first | exact HB.out | apply below_alloc | apply pw_below_drewN | apply below_drew1 | refine below_set ?_ GE131.out) | exact HB.out))) hk)), Kd.freshB (g := gb131) (o := .cells #[.int .u8 a0_0, .int .i64 a0_1, .int .i64 a0_2, .int .i64 a0_3, .int .i64 a0_4, .int .i64 a0_5, .slice (some ad135) l0_6.length c0_6] 26 (0, 0)) (by (with_reducible repeat (first | refine blk_drewN ?_ _ | refine blk_drew ?_ | refine blk_alloc ?_ _)); exact BK131.out) k_ hk⟩)); (case aO => exact (by (with_reducible repeat (first | apply Kd.N_alloc | apply Kd.N_drewN | apply Kd.N_drew)); exact Kd.N_mono HO_3.out (fun _ hk => ⟨hk.1.1, hk.1.2⟩))); (case aS => exact (below_size (by repeat (first | (with_reducible first | exact HB.out | apply below_alloc | apply pw_below_drewN | apply below_drew1 | refine below_set ?_ GE131.out) | exact HB.out)))); (case aL => have := LMc11.out; omega); intro v140 w14 ho hb hg hat; rw [← Ny139.out] at ho; have n0_ := Aside0.mk (Kd.V_afterv (ok := (fun k_ => (P0_6_ k_ ∨ w.heap.size ≤ k_) ∧ some k_ ≠ (.slice Ao15 t136.length co15 : Value).ownBlock ∧ k_ ≠ gb131)) (by (with_reducible repeat (first | apply Kd.V_alloc | apply Kd.V_drewN | apply Kd.V_drew)); exact Kd.V_mono HO_132006.out (fun _ hk => ⟨⟨hk.1.1, ⟨hk.2, hk.1.2.2⟩⟩, hk.1.2.1⟩)) hg hat); have n1_ := Aside0.mk (blk_grown (g := gb131) (o := .cells #[.int .u8 a0_0, .int .i64 a0_1, .int .i64 a0_2, .int .i64 a0_3, .int .i64 a0_4, .int .i64 a0_5, .slice (some ad135) l0_6.length c0_6] 26 (0, 0)) (by (with_reducible repeat (first | refine blk_drewN ?_ _ | refine blk_drew ?_ | refine blk_alloc ?_ _)); exact BK131.out) hg (Kd.N_away HO_3.out (fun _ hk => hk.1.2))); have n2_ := Aside0.mk (Kd.V_afterv (ok := (fun k_ => (P0_6_ k_ ∨ w.heap.size ≤ k_) ∧ some k_ ≠ (.slice Ao15 t136.length co15 : Value).ownBlock ∧ k_ ≠ gb131)) (by (with_reducible repeat (first | apply Kd.V_alloc | apply Kd.V_drewN | apply Kd.V_drew)); exact Kd.V_mono HL135_6.out (fun _ hk => ⟨⟨hk.1.1, ⟨hk.2, hk.1.2.2⟩⟩, hk.1.2.1⟩)) hg hat); have n3_ := Aside0.mk (Kd.N_afterv (ok := (fun k_ => (P0_6_ k_ ∨ w.heap.size ≤ k_) ∧ k_ ≠ gb131)) (by (with_reducible repeat (first | apply Kd.N_alloc | apply Kd.N_drewN | apply Kd.N_drew)); exact Kd.N_mono HO138.out (fun _ hk => ⟨⟨hk.1, hk.2.2⟩, hk.2.1⟩)) hg hat); have n4_ := Aside0.mk (hb); have n5_ := Aside0.mk (ho); clear HO_132006; clear BK131; clear HL135_6; clear HO138; clear HB; clear HO_3; have HO_132006 := n0_; have BK131 := n1_; have HL135_6 := n2_; have HO138 := n3_; have HB := n4_; have HO141 := n5_; clear n0_ n1_ n2_ n3_ n4_ n5_; clear ho hb hg hat))
              go_roundg k1
              case measure => have := HK1.out; omega
              case rel => exact ⟨(y139), (wrap64 (x10_1 + 1)), (by first | rfl | (simp; done) | (simp [*]; done)), H', ⟨by have := HK1.out; omega⟩, ⟨by (with_reducible repeat (first | apply Kd.N_alloc | apply Kd.N_drewN | apply Kd.N_drew)); exact HO141.out⟩, ⟨by (with_reducible repeat (first | apply Kd.V_alloc | apply Kd.V_drewN | apply Kd.V_drew)); exact Kd.V_mono HO_132006.out (fun _ hk => ⟨hk.1.1, ⟨hk.2, hk.1.2.2⟩⟩)⟩, ⟨by (with_reducible repeat (first | refine blk_drewN ?_ _ | refine blk_drew ?_ | refine blk_alloc ?_ _)); exact BK131.out⟩, ⟨by repeat (first | (with_reducible first | exact HB.out | apply below_alloc | apply pw_below_drewN | apply below_drew1 | refine below_set ?_ GE131.out) | exact HB.out)⟩⟩
            · rw [if_neg c11] at H
              exact absurd H (by simp)
          · rw [if_neg c9] at H
            exact absurd H (by simp)
        · rw [if_neg c8] at H
          exact absurd H (by simp)
      · rw [if_neg c7] at H
        have c7b0 : decide (x10_1 < (l0_6.length : Int)) = false := decide_eq_false c7
        clear c7
        obtain rfl := Option.some.inj H
        go_wp2
        go_ret
        exact ⟨_, by first | rfl | (simp [errW_none, errW_some] <;> rfl) | (simp [*, errW_none, errW_some] <;> rfl), by (with_reducible repeat (first | apply Kd.N_alloc | apply Kd.N_drewN | apply Kd.N_drew)); exact Kd.N_mono HO_3.out (fun _ hk => hk.1), by repeat (first | (with_reducible first | exact HB.out | apply below_alloc | apply pw_below_drewN | apply below_drew1 | refine below_set ?_ GE131.out) | exact HB.out)⟩

end Go.Proofs.Ytfdmfgaiblfbhaa.P
